/- Written by a program of this session, after the kit's print: Lean functions for Go functions, and the proof that the machine comes to their answers. -/
import Derived.Test.YtmapllahhpdedaaPx0
import Derived.Test.YtmapllahhpdedaaGBlk
namespace Go.Proofs.Ytmapllahhpdedaa.P
open Go.RowKit Go.Proofs.YtmapllahhpdedaaW.PrintWords Go.Proofs.YtmapllahhpdedaaW.PrintLast Go.Proofs.YtmapllahhpdedaaW.PrintMore
attribute [local go_sem] max2_int min2_int max_two min_two max_three min_three max_four min_four   -- for this text's walks alone
set_option linter.unusedVariables false
set_option linter.unusedSimpArgs false

/-! ### entrepotlaw12_turned: function 15 -/
mutual
def entrepotlaw12_turned.j0 : Nat → Int → ByteArray → Int → Int → Int → Int → Int → List (S40) → List Int → Option (ByteArray × Int × Int × Int × Int × Int × (List (S40)) × List Int)
 | 0, _, _, _, _, _, _, _, _, _ => none
 | k + 1, x1, x283000, x283001, x283002, x283003, x283004, x283005, x283006, x283007 => entrepotlaw12_turned.l0 k x1 0 x283000 x283001 x283002 x283003 x283004 x283005 x283006 x283007
def entrepotlaw12_turned.l0 : Nat → Int → Int → ByteArray → Int → Int → Int → Int → Int → List (S40) → List Int → Option (ByteArray × Int × Int × Int × Int × Int × (List (S40)) × List Int)
 | 0, _, _, _, _, _, _, _, _, _, _ => none
 | k + 1, x1, x8, x283000, x283001, x283002, x283003, x283004, x283005, x283006, x283007 => if x8 < (x283006.length : Int) then (if x1 = 10 then (if 0 ≤ x8 then (entrepotlaw12_turned.l0 k x1 (wrap64 (x8 + 1)) x283000 x283001 x283002 x283003 x283004 x283005 (x283006.set (x8 : Int).toNat (⟨(rd_T40 x283006 x8).f0, (rd_T40 x283006 x8).f1, mx 0 ((rd_T40 x283006 x8).f2), (rd_T40 x283006 x8).f3, (rd_T40 x283006 x8).f4, (rd_T40 x283006 x8).f5, (rd_T40 x283006 x8).f6⟩ : S40)) x283007) else (none)) else (if x1 = 11 then (if 0 ≤ x8 then ((some (x283006.set (x8 : Int).toNat (⟨(rd_T40 x283006 x8).f0, (rd_T40 x283006 x8).f1, (rd_T40 x283006 x8).f2, 0, (rd_T40 x283006 x8).f4, (rd_T40 x283006 x8).f5, (rd_T40 x283006 x8).f6⟩ : S40) : List (S40))).bind fun y291 => (entrepotlaw12_turned.l0 k x1 (wrap64 (x8 + 1)) x283000 x283001 x283002 x283003 x283004 x283005 (y291.set (x8 : Int).toNat (⟨(rd_T40 y291 x8).f0, (rd_T40 y291 x8).f1, (rd_T40 y291 x8).f2, (rd_T40 y291 x8).f3, 0, (rd_T40 y291 x8).f5, (rd_T40 y291 x8).f6⟩ : S40)) x283007)) else (none)) else (if x1 = 12 then (if 0 ≤ x8 then (entrepotlaw12_turned.l0 k x1 (wrap64 (x8 + 1)) x283000 x283001 x283002 x283003 x283004 x283005 (x283006.set (x8 : Int).toNat (⟨(rd_T40 x283006 x8).f0, (rd_T40 x283006 x8).f1, (rd_T40 x283006 x8).f2, (rd_T40 x283006 x8).f3, (rd_T40 x283006 x8).f4, 0, (rd_T40 x283006 x8).f6⟩ : S40)) x283007) else (none)) else (if x1 = 13 then (if 0 ≤ x8 then (entrepotlaw12_turned.l0 k x1 (wrap64 (x8 + 1)) x283000 x283001 x283002 x283003 x283004 x283005 (x283006.set (x8 : Int).toNat (⟨(rd_T40 x283006 x8).f0, (rd_T40 x283006 x8).f1, (rd_T40 x283006 x8).f2, (rd_T40 x283006 x8).f3, (rd_T40 x283006 x8).f4, (rd_T40 x283006 x8).f5, 0⟩ : S40)) x283007) else (none)) else (entrepotlaw12_turned.l0 k x1 (wrap64 (x8 + 1)) x283000 x283001 x283002 x283003 x283004 x283005 x283006 x283007))))) else (some (x283000, x283001, x283002, x283003, x283004, x283005, x283006, x283007))
end
def entrepotlaw12_turned.f (k : Nat) (a0 : Int) (a1 : Int) (a2_0 : ByteArray) (a2_1 : Int) (a2_2 : Int) (a2_3 : Int) (a2_4 : Int) (a2_5 : Int) (l2_6 : List (S40)) (l2_7 : List Int) : Option (ByteArray × Int × Int × Int × Int × Int × (List (S40)) × List Int) := (some (([] : List (S40)) : List (S40))).bind fun y283 => (if y283.length + l2_6.length < 2513169434916 then ((some (y283 ++ l2_6 : List (S40))).bind fun y286 => (if a1 = 1 then (entrepotlaw12_turned.j0 k a1 (⟨#[108, 105, 108, 105, 109]⟩ : ByteArray) a2_1 a2_2 a2_3 a2_4 a2_5 y286 l2_7) else (if a1 = 2 then (entrepotlaw12_turned.j0 k a1 a2_0 (wrap64 (a0 + 1)) a2_2 a2_3 a2_4 a2_5 y286 l2_7) else (if a1 = 3 then (if a0 = 1 then (entrepotlaw12_turned.j0 k a1 a2_0 a2_1 2 a2_3 a2_4 a2_5 y286 l2_7) else (entrepotlaw12_turned.j0 k a1 a2_0 a2_1 6 a2_3 a2_4 a2_5 y286 l2_7)) else (if a1 = 4 then (entrepotlaw12_turned.j0 k a1 a2_0 a2_1 a2_2 0 a2_4 a2_5 y286 l2_7) else (if a1 = 6 then (entrepotlaw12_turned.j0 k a1 a2_0 a2_1 a2_2 a2_3 a2_4 (mn 1 (wrap64 (a0 - 1))) y286 l2_7) else (entrepotlaw12_turned.j0 k a1 a2_0 a2_1 a2_2 a2_3 a2_4 a2_5 y286 l2_7))))))) else (none))
theorem entrepotlaw12_turned.mono_l : ∀ k, (∀ y0 y1 y2 y3 y4 y5 y6 y7 y8, LeO (entrepotlaw12_turned.j0 k y0 y1 y2 y3 y4 y5 y6 y7 y8) (entrepotlaw12_turned.j0 (k + 1) y0 y1 y2 y3 y4 y5 y6 y7 y8)) ∧ (∀ y0 y1 y2 y3 y4 y5 y6 y7 y8 y9, LeO (entrepotlaw12_turned.l0 k y0 y1 y2 y3 y4 y5 y6 y7 y8 y9) (entrepotlaw12_turned.l0 (k + 1) y0 y1 y2 y3 y4 y5 y6 y7 y8 y9))
 | 0 => ⟨fun _ _ _ _ _ _ _ _ _ r h => by simp [entrepotlaw12_turned.j0] at h, fun _ _ _ _ _ _ _ _ _ _ r h => by simp [entrepotlaw12_turned.l0] at h⟩
 | k + 1 => by
  obtain ⟨ih0, ih1⟩ := entrepotlaw12_turned.mono_l k
  refine ⟨?_, ?_⟩
  ·intro y0 y1 y2 y3 y4 y5 y6 y7 y8
   unfold entrepotlaw12_turned.j0
   repeat' first
   | (with_reducible exact ih0 _ _ _ _ _ _ _ _ _)
   | (with_reducible exact ih1 _ _ _ _ _ _ _ _ _ _)
   | (with_reducible exact LeO.refl _)
   | (with_reducible exact LeO.none _)
   | (with_reducible refine LeO.ite ?_ ?_)
   | (with_reducible refine LeO.bind ?_ (fun _ => ?_))
   | exact ih0 _ _ _ _ _ _ _ _ _
   | exact ih1 _ _ _ _ _ _ _ _ _ _
   | exact LeO.none _
   | refine LeO.ite ?_ ?_
   | refine LeO.bind ?_ (fun _ => ?_)
  ·intro y0 y1 y2 y3 y4 y5 y6 y7 y8 y9
   unfold entrepotlaw12_turned.l0
   repeat' first
   | (with_reducible exact ih0 _ _ _ _ _ _ _ _ _)
   | (with_reducible exact ih1 _ _ _ _ _ _ _ _ _ _)
   | (with_reducible exact LeO.refl _)
   | (with_reducible exact LeO.none _)
   | (with_reducible refine LeO.ite ?_ ?_)
   | (with_reducible refine LeO.bind ?_ (fun _ => ?_))
   | exact ih0 _ _ _ _ _ _ _ _ _
   | exact ih1 _ _ _ _ _ _ _ _ _ _
   | exact LeO.none _
   | refine LeO.ite ?_ ?_
   | refine LeO.bind ?_ (fun _ => ?_)
theorem entrepotlaw12_turned.mono : ∀ a0 a1 a2 a3 a4 a5 a6 a7 a8 a9 k, LeO (entrepotlaw12_turned.f k a0 a1 a2 a3 a4 a5 a6 a7 a8 a9) (entrepotlaw12_turned.f (k + 1) a0 a1 a2 a3 a4 a5 a6 a7 a8 a9) := by
 intro a0 a1 a2 a3 a4 a5 a6 a7 a8 a9 k
 obtain ⟨ih0, ih1⟩ := entrepotlaw12_turned.mono_l k
 unfold entrepotlaw12_turned.f
 repeat' first
   | (with_reducible exact ih0 _ _ _ _ _ _ _ _ _)
   | (with_reducible exact ih1 _ _ _ _ _ _ _ _ _ _)
   | (with_reducible exact LeO.refl _)
   | (with_reducible exact LeO.none _)
   | (with_reducible refine LeO.ite ?_ ?_)
   | (with_reducible refine LeO.bind ?_ (fun _ => ?_))
   | exact ih0 _ _ _ _ _ _ _ _ _
   | exact ih1 _ _ _ _ _ _ _ _ _ _
   | exact LeO.none _
   | refine LeO.ite ?_ ?_
   | refine LeO.bind ?_ (fun _ => ?_)
def entrepotlaw12_turned.T21 : Bool × List (List Nat × List Nat) := (true, [([], []), ([0], [0]), ([], []), ([], []), ([3], [3]), ([], []), ([4, 5], [4, 5]), ([6], [6]), ([7], [7]), ([8], [8]), ([1, 2, 0, 1, 2, 3, 4, 5, 6, 7, 8, 9], [1, 2]), ([10, 0, 1, 2, 3, 4, 5, 6, 7, 8, 9], [10]), ([11, 9, 0, 1, 2, 3, 4, 5, 6, 7, 8, 9], [9, 11])])
def entrepotlaw12_turned.B21 : List Nat := [0, 1, 0, 0, 8, 0, 56, 120, 248, 504, 1023, 2047, 4095]
theorem entrepotlaw12_turned.tab21 : rtab .any (opsOf Try.f15 21) = entrepotlaw12_turned.T21 := by kernel_rfl
theorem entrepotlaw12_turned.bits21 : waitsOk entrepotlaw12_turned.T21.2 entrepotlaw12_turned.B21 = true := by kernel_rfl
set_option maxHeartbeats 8000000 in
set_option maxRecDepth 100000 in
theorem entrepotlaw12_turned.calls (k : Nat) (a0 : Int) (a1 : Int) (a2_0 : ByteArray) (a2_1 : Int) (a2_2 : Int) (a2_3 : Int) (a2_4 : Int) (a2_5 : Int) (A2_6 : Option Addr) (c2_6 : Nat) (l2_6 : List (S40)) (P2_7_ : Nat → Prop) (A2_7 : Option Addr) (c2_7 : Nat) (l2_7 : List Int) (r1 : ByteArray) (r2 : Int) (r3 : Int) (r4 : Int) (r5 : Int) (r6 : Int) (r7 : List (S40)) (r8 : List Int) (w : World) (hr2_6 : Kd.C k40 w A2_6 l2_6.length l2_6) (hc2_6 : l2_6.length ≤ c2_6) (hs2_7 : Kd.V (Kd.int .i64) 3 w w.heap.size (fun k_ => P2_7_ k_) (.slice A2_7 l2_7.length c2_7) l2_7) (h : entrepotlaw12_turned.f k a0 a1 a2_0 a2_1 a2_2 a2_3 a2_4 a2_5 l2_6 l2_7 = some (r1, r2, r3, r4, r5, r6, r7, r8)) :
  Calls Try.prog 15 #[.int .i64 a0, .int .i64 a1, .agg #[.string a2_0, .int .i64 a2_1, .int .i64 a2_2, .int .i64 a2_3, .int .i64 a2_4, .int .i64 a2_5, .slice A2_6 l2_6.length c2_6, .slice A2_7 l2_7.length c2_7]] w fun e w' => ∃ v6_ v7_ : Value, e = .returned (.agg #[.string r1, .int .i64 r2, .int .i64 r3, .int .i64 r4, .int .i64 r5, .int .i64 r6, v6_, v7_]) ∧ Kd.R k40 40 w' w.heap.size (fun k_ => (w.heap.size ≤ k_)) v6_ r7 ∧ Kd.V (Kd.int .i64) 3 w' w.heap.size (fun k_ => (P2_7_ k_ ∨ w.heap.size ≤ k_) ∧ some k_ ≠ (v6_ : Value).ownBlock) v7_ r8 ∧ Below w.heap.size w w' := by
 have hu25 := Try.underlying25
 have HR2_6 := Aside0.mk hr2_6
 have HC2_6 := Aside0.mk hc2_6
 clear hr2_6 hc2_6
 have HO2_7 := Aside0.mk (show Kd.V (Kd.int .i64) 3 w w.heap.size (fun k_ => (P2_7_ k_ ∨ w.heap.size ≤ k_)) (.slice A2_7 l2_7.length c2_7) l2_7 from Kd.V_mono hs2_7 (fun k_ hk => .inl hk))
 have HB := Aside0.mk (Below.refl w.heap.size w)
 have H : ((some (([] : List (S40)) : List (S40))).bind fun y283 => (if y283.length + l2_6.length < 2513169434916 then ((some (y283 ++ l2_6 : List (S40))).bind fun y286 => (if a1 = 1 then (entrepotlaw12_turned.j0 k a1 (⟨#[108, 105, 108, 105, 109]⟩ : ByteArray) a2_1 a2_2 a2_3 a2_4 a2_5 y286 l2_7) else (if a1 = 2 then (entrepotlaw12_turned.j0 k a1 a2_0 (wrap64 (a0 + 1)) a2_2 a2_3 a2_4 a2_5 y286 l2_7) else (if a1 = 3 then (if a0 = 1 then (entrepotlaw12_turned.j0 k a1 a2_0 a2_1 2 a2_3 a2_4 a2_5 y286 l2_7) else (entrepotlaw12_turned.j0 k a1 a2_0 a2_1 6 a2_3 a2_4 a2_5 y286 l2_7)) else (if a1 = 4 then (entrepotlaw12_turned.j0 k a1 a2_0 a2_1 a2_2 0 a2_4 a2_5 y286 l2_7) else (if a1 = 6 then (entrepotlaw12_turned.j0 k a1 a2_0 a2_1 a2_2 a2_3 a2_4 (mn 1 (wrap64 (a0 - 1))) y286 l2_7) else (entrepotlaw12_turned.j0 k a1 a2_0 a2_1 a2_2 a2_3 a2_4 a2_5 y286 l2_7))))))) else (none))) = some (r1, r2, r3, r4, r5, r6, r7, r8) := h
 clear h
 obtain ⟨y283, hy283⟩ : ∃ y_ : List (S40), y_ = (([] : List (S40))) := ⟨_, rfl⟩
 replace H : (if y283.length + l2_6.length < 2513169434916 then ((some (y283 ++ l2_6 : List (S40))).bind fun y286 => (if a1 = 1 then (entrepotlaw12_turned.j0 k a1 (⟨#[108, 105, 108, 105, 109]⟩ : ByteArray) a2_1 a2_2 a2_3 a2_4 a2_5 y286 l2_7) else (if a1 = 2 then (entrepotlaw12_turned.j0 k a1 a2_0 (wrap64 (a0 + 1)) a2_2 a2_3 a2_4 a2_5 y286 l2_7) else (if a1 = 3 then (if a0 = 1 then (entrepotlaw12_turned.j0 k a1 a2_0 a2_1 2 a2_3 a2_4 a2_5 y286 l2_7) else (entrepotlaw12_turned.j0 k a1 a2_0 a2_1 6 a2_3 a2_4 a2_5 y286 l2_7)) else (if a1 = 4 then (entrepotlaw12_turned.j0 k a1 a2_0 a2_1 a2_2 0 a2_4 a2_5 y286 l2_7) else (if a1 = 6 then (entrepotlaw12_turned.j0 k a1 a2_0 a2_1 a2_2 a2_3 a2_4 (mn 1 (wrap64 (a0 - 1))) y286 l2_7) else (entrepotlaw12_turned.j0 k a1 a2_0 a2_1 a2_2 a2_3 a2_4 a2_5 y286 l2_7))))))) else (none)) = some (r1, r2, r3, r4, r5, r6, r7, r8) := by first | (rw [hy283]; with_reducible exact H) | (have H2_ := (Option.bind_some _ _).symm.trans H; rw [hy283]; with_reducible exact H2_) | (have H2_ := (Option.bind_some _ _).symm.trans H; with_reducible exact H2_) | with_reducible exact H | (rw [hy283]; exact H) | exact H
 have Ny283 := Aside0.mk hy283
 clear hy283
 by_cases c4 : y283.length + l2_6.length < 2513169434916
 ·rw [if_pos c4] at H
  have LMc4 := Aside0.mk c4
  clear c4
  obtain ⟨y286, hy286⟩ : ∃ y_ : List (S40), y_ = (y283 ++ l2_6) := ⟨_, rfl⟩
  replace H : (if a1 = 1 then (entrepotlaw12_turned.j0 k a1 (⟨#[108, 105, 108, 105, 109]⟩ : ByteArray) a2_1 a2_2 a2_3 a2_4 a2_5 y286 l2_7) else (if a1 = 2 then (entrepotlaw12_turned.j0 k a1 a2_0 (wrap64 (a0 + 1)) a2_2 a2_3 a2_4 a2_5 y286 l2_7) else (if a1 = 3 then (if a0 = 1 then (entrepotlaw12_turned.j0 k a1 a2_0 a2_1 2 a2_3 a2_4 a2_5 y286 l2_7) else (entrepotlaw12_turned.j0 k a1 a2_0 a2_1 6 a2_3 a2_4 a2_5 y286 l2_7)) else (if a1 = 4 then (entrepotlaw12_turned.j0 k a1 a2_0 a2_1 a2_2 0 a2_4 a2_5 y286 l2_7) else (if a1 = 6 then (entrepotlaw12_turned.j0 k a1 a2_0 a2_1 a2_2 a2_3 a2_4 (mn 1 (wrap64 (a0 - 1))) y286 l2_7) else (entrepotlaw12_turned.j0 k a1 a2_0 a2_1 a2_2 a2_3 a2_4 a2_5 y286 l2_7)))))) = some (r1, r2, r3, r4, r5, r6, r7, r8) := by first | (rw [hy286]; with_reducible exact H) | (have H2_ := (Option.bind_some _ _).symm.trans H; rw [hy286]; with_reducible exact H2_) | (have H2_ := (Option.bind_some _ _).symm.trans H; with_reducible exact H2_) | with_reducible exact H | (rw [hy286]; exact H) | exact H
  have Ny286 := Aside0.mk hy286
  clear hy286
  have HC5 := Aside0.mk H
  clear H
  go_enter Try.func15, Try.ntmps15
  go_upto_block 0 with (first | ((with_reducible refine gate_dst (N := 5) rfl ?_); refine box_event ?hg (N := 5) ?hd (cs := #[.string a2_0, .int .i64 a2_1, .int .i64 a2_2, .int .i64 a2_3, .int .i64 a2_4, .int .i64 a2_5, .slice A2_6 l2_6.length c2_6, .slice A2_7 l2_7.length c2_7]) (t := 25) ?hr ?_; (case hd => rfl); (case hg => rfl); (case hr => first | (go_simp; done) | (go_simp; rfl)); intro gb280 hg w6 hbox hb; have n0_ := Aside0.mk (Kd.V_below (Kd.V_elderB (by (with_reducible repeat (first | apply Kd.V_alloc | apply Kd.V_drewN | apply Kd.V_drew)); exact HO2_7.out) gb280 (Nat.le_of_eq hg.symm)) hb); have n1_ := Aside0.mk (below_step (by repeat (first | (with_reducible first | exact HB.out | apply below_alloc | apply pw_below_drewN | apply below_drew1) | exact HB.out)) hb); have n2_ := Aside0.mk (hbox); have n3_ := Aside0.mk ((by rw [hg]; exact (below_size (by repeat (first | (with_reducible first | exact HB.out | apply below_alloc | apply pw_below_drewN | apply below_drew1) | exact HB.out))) : w.heap.size ≤ gb280)); have n4_ := Aside0.mk ((by rw [hg]; exact (below_size (by repeat (first | (with_reducible first | exact HB.out | apply below_alloc | apply pw_below_drewN | apply below_drew1) | exact HB.out))) : w.heap.size ≤ gb280)); clear HO2_7; clear HB; have HO2_7 := n0_; have HB := n1_; have BK280 := n2_; have GW280 := n3_; have GE280 := n4_; clear n0_ n1_ n2_ n3_ n4_; clear hb hbox hg) | ((with_reducible refine gate_dst (N := 6) rfl ?_); refine box_event ?hg (N := 6) ?hd (cs := #[.string (⟨#[]⟩ : ByteArray), .int .i64 0, .int .i64 0, .int .i64 0, .int .i64 0, .int .i64 0, .slice none 0 0, .slice none 0 0]) (t := 25) ?hr ?_; (case hd => rfl); (case hg => rfl); (case hr => first | (go_simp; done) | (go_simp; rfl)); intro gb281 hg w7 hbox hb; have n0_ := Aside0.mk (Kd.V_below (Kd.V_elderB (by (with_reducible repeat (first | apply Kd.V_alloc | apply Kd.V_drewN | apply Kd.V_drew)); exact HO2_7.out) gb281 (Nat.le_of_eq hg.symm)) hb); have n1_ := Aside0.mk (blk_below (g := gb280) (o := .cells #[.string a2_0, .int .i64 a2_1, .int .i64 a2_2, .int .i64 a2_3, .int .i64 a2_4, .int .i64 a2_5, .slice A2_6 l2_6.length c2_6, .slice A2_7 l2_7.length c2_7] 25 (0, 0)) (by (with_reducible repeat (first | refine blk_drewN ?_ _ | refine blk_drew ?_ | refine blk_alloc ?_ _)); exact BK280.out) hb); have n2_ := Aside0.mk (below_step (by repeat (first | (with_reducible first | exact HB.out | apply below_alloc | apply pw_below_drewN | apply below_drew1 | refine below_set ?_ GE280.out) | exact HB.out)) hb); have n3_ := Aside0.mk (hbox); have n4_ := Aside0.mk ((by rw [hg]; exact (below_size (by repeat (first | (with_reducible first | exact HB.out | apply below_alloc | apply pw_below_drewN | apply below_drew1 | refine below_set ?_ GE280.out) | exact HB.out))) : w.heap.size ≤ gb281)); have n5_ := Aside0.mk ((by rw [hg]; exact (below_size (by repeat (first | (with_reducible first | exact HB.out | apply below_alloc | apply pw_below_drewN | apply below_drew1 | refine below_set ?_ GE280.out) | exact HB.out))) : w.heap.size ≤ gb281)); have n6_ := Aside0.mk ((by rw [hg]; exact Nat.ne_of_lt (blk_lt (g := gb280) (o := .cells #[.string a2_0, .int .i64 a2_1, .int .i64 a2_2, .int .i64 a2_3, .int .i64 a2_4, .int .i64 a2_5, .slice A2_6 l2_6.length c2_6, .slice A2_7 l2_7.length c2_7] 25 (0, 0)) (by (with_reducible repeat (first | refine blk_drewN ?_ _ | refine blk_drew ?_ | refine blk_alloc ?_ _)); exact BK280.out)) : gb280 ≠ gb281)); have n7_ := Aside0.mk ((by rw [hg]; exact Nat.ne_of_gt (blk_lt (g := gb280) (o := .cells #[.string a2_0, .int .i64 a2_1, .int .i64 a2_2, .int .i64 a2_3, .int .i64 a2_4, .int .i64 a2_5, .slice A2_6 l2_6.length c2_6, .slice A2_7 l2_7.length c2_7] 25 (0, 0)) (by (with_reducible repeat (first | refine blk_drewN ?_ _ | refine blk_drew ?_ | refine blk_alloc ?_ _)); exact BK280.out)) : gb281 ≠ gb280)); clear HO2_7; clear BK280; clear HB; have HO2_7 := n0_; have BK280 := n1_; have HB := n2_; have BK281 := n3_; have GW281 := n4_; have GE281 := n5_; have NB280_281 := n6_; have NB281_280 := n7_; clear n0_ n1_ n2_ n3_ n4_ n5_ n6_ n7_; clear hb hbox hg; have hnb8 := NB280_281.out; have hnc8 := NB281_280.out; obtain ⟨hcz9_0, hcz9_1, hcz9_2, hcz9_3, hcz9_4, hcz9_5, hcz9_6, hcz9_7, hfz9_0, hfz9_1, hfz9_2, hfz9_3, hfz9_4, hfz9_5, hfz9_6, hfz9_7⟩ := blk8_ BK280.out) | ((with_reducible refine gate_dst (N := 7) rfl ?_); refine box_event ?hg (N := 7) ?hd (cs := #[.string (⟨#[]⟩ : ByteArray), .int .i64 0, .int .i64 0, .int .i64 0, .int .i64 0, .int .i64 0, .slice none 0 0, .slice none 0 0]) (t := 25) ?hr ?_; (case hd => rfl); (case hg => rfl); (case hr => first | (go_simp; done) | (go_simp; rfl)); intro gb282 hg w10 hbox hb; have n0_ := Aside0.mk (Kd.V_below (Kd.V_elderB (by (with_reducible repeat (first | apply Kd.V_alloc | apply Kd.V_drewN | apply Kd.V_drew)); exact HO2_7.out) gb282 (Nat.le_of_eq hg.symm)) hb); have n1_ := Aside0.mk (blk_below (g := gb280) (o := .cells #[.string a2_0, .int .i64 a2_1, .int .i64 a2_2, .int .i64 a2_3, .int .i64 a2_4, .int .i64 a2_5, .slice A2_6 l2_6.length c2_6, .slice A2_7 l2_7.length c2_7] 25 (0, 0)) (by (with_reducible repeat (first | refine blk_drewN ?_ _ | refine blk_drew ?_ | refine blk_alloc ?_ _)); exact BK280.out) hb); have n2_ := Aside0.mk (blk_below (g := gb281) (o := .cells #[.string (⟨#[]⟩ : ByteArray), .int .i64 0, .int .i64 0, .int .i64 0, .int .i64 0, .int .i64 0, .slice none 0 0, .slice none 0 0] 25 (0, 0)) (by (with_reducible repeat (first | refine blk_drewN ?_ _ | refine blk_drew ?_ | refine blk_alloc ?_ _)); exact BK281.out) hb); have n3_ := Aside0.mk (below_step (by repeat (first | (with_reducible first | exact HB.out | apply below_alloc | apply pw_below_drewN | apply below_drew1 | refine below_set ?_ GE280.out | refine below_set ?_ GE281.out) | exact HB.out)) hb); have n4_ := Aside0.mk (hbox); have n5_ := Aside0.mk ((by rw [hg]; exact (below_size (by repeat (first | (with_reducible first | exact HB.out | apply below_alloc | apply pw_below_drewN | apply below_drew1 | refine below_set ?_ GE280.out | refine below_set ?_ GE281.out) | exact HB.out))) : w.heap.size ≤ gb282)); have n6_ := Aside0.mk ((by rw [hg]; exact (below_size (by repeat (first | (with_reducible first | exact HB.out | apply below_alloc | apply pw_below_drewN | apply below_drew1 | refine below_set ?_ GE280.out | refine below_set ?_ GE281.out) | exact HB.out))) : w.heap.size ≤ gb282)); have n7_ := Aside0.mk ((by rw [hg]; exact Nat.ne_of_lt (blk_lt (g := gb280) (o := .cells #[.string a2_0, .int .i64 a2_1, .int .i64 a2_2, .int .i64 a2_3, .int .i64 a2_4, .int .i64 a2_5, .slice A2_6 l2_6.length c2_6, .slice A2_7 l2_7.length c2_7] 25 (0, 0)) (by (with_reducible repeat (first | refine blk_drewN ?_ _ | refine blk_drew ?_ | refine blk_alloc ?_ _)); exact BK280.out)) : gb280 ≠ gb282)); have n8_ := Aside0.mk ((by rw [hg]; exact Nat.ne_of_gt (blk_lt (g := gb280) (o := .cells #[.string a2_0, .int .i64 a2_1, .int .i64 a2_2, .int .i64 a2_3, .int .i64 a2_4, .int .i64 a2_5, .slice A2_6 l2_6.length c2_6, .slice A2_7 l2_7.length c2_7] 25 (0, 0)) (by (with_reducible repeat (first | refine blk_drewN ?_ _ | refine blk_drew ?_ | refine blk_alloc ?_ _)); exact BK280.out)) : gb282 ≠ gb280)); have n9_ := Aside0.mk ((by rw [hg]; exact Nat.ne_of_lt (blk_lt (g := gb281) (o := .cells #[.string (⟨#[]⟩ : ByteArray), .int .i64 0, .int .i64 0, .int .i64 0, .int .i64 0, .int .i64 0, .slice none 0 0, .slice none 0 0] 25 (0, 0)) (by (with_reducible repeat (first | refine blk_drewN ?_ _ | refine blk_drew ?_ | refine blk_alloc ?_ _)); exact BK281.out)) : gb281 ≠ gb282)); have n10_ := Aside0.mk ((by rw [hg]; exact Nat.ne_of_gt (blk_lt (g := gb281) (o := .cells #[.string (⟨#[]⟩ : ByteArray), .int .i64 0, .int .i64 0, .int .i64 0, .int .i64 0, .int .i64 0, .slice none 0 0, .slice none 0 0] 25 (0, 0)) (by (with_reducible repeat (first | refine blk_drewN ?_ _ | refine blk_drew ?_ | refine blk_alloc ?_ _)); exact BK281.out)) : gb282 ≠ gb281)); clear HO2_7; clear BK280; clear BK281; clear HB; have HO2_7 := n0_; have BK280 := n1_; have BK281 := n2_; have HB := n3_; have BK282 := n4_; have GW282 := n5_; have GE282 := n6_; have NB280_282 := n7_; have NB282_280 := n8_; have NB281_282 := n9_; have NB282_281 := n10_; clear n0_ n1_ n2_ n3_ n4_ n5_ n6_ n7_ n8_ n9_ n10_; clear hb hbox hg; have hnb11 := NB282_280.out; have hnc11 := NB280_282.out; have hnb12 := NB282_281.out; have hnc12 := NB281_282.out; obtain ⟨hcz13_0, hcz13_1, hcz13_2, hcz13_3, hcz13_4, hcz13_5, hcz13_6, hcz13_7, hfz13_0, hfz13_1, hfz13_2, hfz13_3, hfz13_4, hfz13_5, hfz13_6, hfz13_7⟩ := blk8_ BK282.out) | ((with_reducible refine gate_dst (N := 10) rfl ?_); refine Kd.R_lit k40 _ 40 ?hg (N := 10) ?hd (xs := ([] : List (S40))) (inner := []) (ok := fun _ => True) (okp := fun _ => True) ?hr ?hp (fun _ hk => hk) trivial (Below.refl _ _) (Nat.le_refl _) (by simp) ?_; (case hd => rfl); (case hg => rfl); (case hr => first | (go_simp; done) | (go_simp; rfl)); (case hp => exact (Reps.none _ _)); intro v284 w14 ho15 hb hg_ hnew_; clear hg_ hnew_; (first | rw [← Ny283.out] at ho15 | (simp only [Int.reduceToNat] at ho15; rw [← Ny283.out] at ho15)); have n0_ := Aside0.mk (Kd.V_elder' (by (with_reducible repeat (first | apply Kd.V_alloc | apply Kd.V_drewN | apply Kd.V_drew)); exact (Kd.V_mono (Kd.V_far (p := ⟨gb282, 7, none⟩) (Kd.V_far (p := ⟨gb282, 6, none⟩) (Kd.V_far (p := ⟨gb282, 5, none⟩) (Kd.V_far (p := ⟨gb282, 4, none⟩) (Kd.V_far (p := ⟨gb282, 3, none⟩) (Kd.V_far (p := ⟨gb282, 2, none⟩) (Kd.V_far (p := ⟨gb282, 1, none⟩) (Kd.V_far (p := ⟨gb282, 0, none⟩) (Kd.V_mono HO2_7.out (fun k_ hk => (⟨hk, hk.2⟩ : _ ∧ k_ ≠ gb282))) (fun _ hk => hk.2) (.string a2_0)) (fun _ hk => hk.2) (.int .i64 a2_1)) (fun _ hk => hk.2) (.int .i64 a2_2)) (fun _ hk => hk.2) (.int .i64 a2_3)) (fun _ hk => hk.2) (.int .i64 a2_4)) (fun _ hk => hk.2) (.int .i64 a2_5)) (fun _ hk => hk.2) (.slice A2_6 l2_6.length c2_6)) (fun _ hk => hk.2) (.slice A2_7 l2_7.length c2_7)) (fun _ h_ => h_.1))) (Kd.R_base ho15) hb); have n1_ := Aside0.mk (Kd.R_lower (Kd.R_newM (M := fun k_ => (w.heap.size ≤ k_)) ho15 (below_size (by repeat (first | (with_reducible first | exact HB.out | apply below_alloc | apply pw_below_drewN | apply below_drew1 | refine below_set ?_ GE280.out | refine below_set ?_ GE281.out | refine below_set ?_ GE282.out) | exact HB.out))) (fun k_ h_ => h_)) (below_size (by repeat (first | (with_reducible first | exact HB.out | apply below_alloc | apply pw_below_drewN | apply below_drew1 | refine below_set ?_ GE280.out | refine below_set ?_ GE281.out | refine below_set ?_ GE282.out) | exact HB.out)))); have n2_ := Aside0.mk (blk_below (g := gb280) (o := .cells #[.string a2_0, .int .i64 a2_1, .int .i64 a2_2, .int .i64 a2_3, .int .i64 a2_4, .int .i64 a2_5, .slice A2_6 l2_6.length c2_6, .slice A2_7 l2_7.length c2_7] 25 (0, 0)) (by (with_reducible repeat (first | refine blk_drewN ?_ _ | refine blk_drew ?_ | refine blk_alloc ?_ _)); refine blk_far ?_ NB280_282.out _; (with_reducible repeat (first | refine blk_drewN ?_ _ | refine blk_drew ?_ | refine blk_alloc ?_ _)); refine blk_far ?_ NB280_282.out _; (with_reducible repeat (first | refine blk_drewN ?_ _ | refine blk_drew ?_ | refine blk_alloc ?_ _)); refine blk_far ?_ NB280_282.out _; (with_reducible repeat (first | refine blk_drewN ?_ _ | refine blk_drew ?_ | refine blk_alloc ?_ _)); refine blk_far ?_ NB280_282.out _; (with_reducible repeat (first | refine blk_drewN ?_ _ | refine blk_drew ?_ | refine blk_alloc ?_ _)); refine blk_far ?_ NB280_282.out _; (with_reducible repeat (first | refine blk_drewN ?_ _ | refine blk_drew ?_ | refine blk_alloc ?_ _)); refine blk_far ?_ NB280_282.out _; (with_reducible repeat (first | refine blk_drewN ?_ _ | refine blk_drew ?_ | refine blk_alloc ?_ _)); refine blk_far ?_ NB280_282.out _; (with_reducible repeat (first | refine blk_drewN ?_ _ | refine blk_drew ?_ | refine blk_alloc ?_ _)); refine blk_far ?_ NB280_282.out _; (with_reducible repeat (first | refine blk_drewN ?_ _ | refine blk_drew ?_ | refine blk_alloc ?_ _)); exact BK280.out) hb); have n3_ := Aside0.mk (blk_below (g := gb281) (o := .cells #[.string (⟨#[]⟩ : ByteArray), .int .i64 0, .int .i64 0, .int .i64 0, .int .i64 0, .int .i64 0, .slice none 0 0, .slice none 0 0] 25 (0, 0)) (by (with_reducible repeat (first | refine blk_drewN ?_ _ | refine blk_drew ?_ | refine blk_alloc ?_ _)); refine blk_far ?_ NB281_282.out _; (with_reducible repeat (first | refine blk_drewN ?_ _ | refine blk_drew ?_ | refine blk_alloc ?_ _)); refine blk_far ?_ NB281_282.out _; (with_reducible repeat (first | refine blk_drewN ?_ _ | refine blk_drew ?_ | refine blk_alloc ?_ _)); refine blk_far ?_ NB281_282.out _; (with_reducible repeat (first | refine blk_drewN ?_ _ | refine blk_drew ?_ | refine blk_alloc ?_ _)); refine blk_far ?_ NB281_282.out _; (with_reducible repeat (first | refine blk_drewN ?_ _ | refine blk_drew ?_ | refine blk_alloc ?_ _)); refine blk_far ?_ NB281_282.out _; (with_reducible repeat (first | refine blk_drewN ?_ _ | refine blk_drew ?_ | refine blk_alloc ?_ _)); refine blk_far ?_ NB281_282.out _; (with_reducible repeat (first | refine blk_drewN ?_ _ | refine blk_drew ?_ | refine blk_alloc ?_ _)); refine blk_far ?_ NB281_282.out _; (with_reducible repeat (first | refine blk_drewN ?_ _ | refine blk_drew ?_ | refine blk_alloc ?_ _)); refine blk_far ?_ NB281_282.out _; (with_reducible repeat (first | refine blk_drewN ?_ _ | refine blk_drew ?_ | refine blk_alloc ?_ _)); exact BK281.out) hb); have n4_ := Aside0.mk (blk_below (g := gb282) (o := .cells #[.string a2_0, .int .i64 a2_1, .int .i64 a2_2, .int .i64 a2_3, .int .i64 a2_4, .int .i64 a2_5, .slice A2_6 l2_6.length c2_6, .slice A2_7 l2_7.length c2_7] 25 (0, 0)) (by (with_reducible repeat (first | refine blk_drewN ?_ _ | refine blk_drew ?_ | refine blk_alloc ?_ _)); refine blk_put (cs := #[.string a2_0, .int .i64 a2_1, .int .i64 a2_2, .int .i64 a2_3, .int .i64 a2_4, .int .i64 a2_5, .slice A2_6 l2_6.length c2_6, .slice none 0 0]) ?_ 7 _ rfl; (with_reducible repeat (first | refine blk_drewN ?_ _ | refine blk_drew ?_ | refine blk_alloc ?_ _)); refine blk_put (cs := #[.string a2_0, .int .i64 a2_1, .int .i64 a2_2, .int .i64 a2_3, .int .i64 a2_4, .int .i64 a2_5, .slice none 0 0, .slice none 0 0]) ?_ 6 _ rfl; (with_reducible repeat (first | refine blk_drewN ?_ _ | refine blk_drew ?_ | refine blk_alloc ?_ _)); refine blk_put (cs := #[.string a2_0, .int .i64 a2_1, .int .i64 a2_2, .int .i64 a2_3, .int .i64 a2_4, .int .i64 0, .slice none 0 0, .slice none 0 0]) ?_ 5 _ rfl; (with_reducible repeat (first | refine blk_drewN ?_ _ | refine blk_drew ?_ | refine blk_alloc ?_ _)); refine blk_put (cs := #[.string a2_0, .int .i64 a2_1, .int .i64 a2_2, .int .i64 a2_3, .int .i64 0, .int .i64 0, .slice none 0 0, .slice none 0 0]) ?_ 4 _ rfl; (with_reducible repeat (first | refine blk_drewN ?_ _ | refine blk_drew ?_ | refine blk_alloc ?_ _)); refine blk_put (cs := #[.string a2_0, .int .i64 a2_1, .int .i64 a2_2, .int .i64 0, .int .i64 0, .int .i64 0, .slice none 0 0, .slice none 0 0]) ?_ 3 _ rfl; (with_reducible repeat (first | refine blk_drewN ?_ _ | refine blk_drew ?_ | refine blk_alloc ?_ _)); refine blk_put (cs := #[.string a2_0, .int .i64 a2_1, .int .i64 0, .int .i64 0, .int .i64 0, .int .i64 0, .slice none 0 0, .slice none 0 0]) ?_ 2 _ rfl; (with_reducible repeat (first | refine blk_drewN ?_ _ | refine blk_drew ?_ | refine blk_alloc ?_ _)); refine blk_put (cs := #[.string a2_0, .int .i64 0, .int .i64 0, .int .i64 0, .int .i64 0, .int .i64 0, .slice none 0 0, .slice none 0 0]) ?_ 1 _ rfl; (with_reducible repeat (first | refine blk_drewN ?_ _ | refine blk_drew ?_ | refine blk_alloc ?_ _)); refine blk_put (cs := #[.string (⟨#[]⟩ : ByteArray), .int .i64 0, .int .i64 0, .int .i64 0, .int .i64 0, .int .i64 0, .slice none 0 0, .slice none 0 0]) ?_ 0 _ rfl; (with_reducible repeat (first | refine blk_drewN ?_ _ | refine blk_drew ?_ | refine blk_alloc ?_ _)); exact BK282.out) hb); have n5_ := Aside0.mk (below_step (by repeat (first | (with_reducible first | exact HB.out | apply below_alloc | apply pw_below_drewN | apply below_drew1 | refine below_set ?_ GE280.out | refine below_set ?_ GE281.out | refine below_set ?_ GE282.out) | exact HB.out)) hb); clear HO2_7; clear BK280; clear BK281; clear BK282; clear HB; have HO2_7 := n0_; have HO285 := n1_; have BK280 := n2_; have BK281 := n3_; have BK282 := n4_; have HB := n5_; clear n0_ n1_ n2_ n3_ n4_ n5_; clear hb ho15; obtain ⟨hcz16_0, hcz16_1, hcz16_2, hcz16_3, hcz16_4, hcz16_5, hcz16_6, hcz16_7, hfz16_0, hfz16_1, hfz16_2, hfz16_3, hfz16_4, hfz16_5, hfz16_6, hfz16_7⟩ := blk8_ BK280.out) | ((with_reducible refine gate_builtin (b := .append) (xs := #[.tmp 10, .tmp 12]) rfl ?_); at_builtin; refine Kd.R_append_rows k40 (w0 := w) w.heap.size rfl (.tmp 10) (.tmp 12) 22 40 (.agg #[(.int .i64 0), (.int .i64 0), (.int .i64 0), (.int .i64 0), (.int .i64 0), (.int .i64 0), (.int .i64 0)]) 56 rfl Try.underlying22 info40 rfl (by decide) (by omega) v284 y283 l2_6 _ _ _ (fun k_ => (w.heap.size ≤ k_)) (fun _ => False) rfl rfl ?aO ?aR (fun _ _ h => h) (fun _ h => h.elim) ?aF ?aB ?aS ?aL ?_; (case aR => repeat (first | exact (Kd.C_below HR2_6.out HB.out) | (with_reducible refine Kd.C_alloc ?_ _) | (with_reducible refine Kd.C_drewN ?_ _) | (with_reducible refine Kd.C_drew ?_))); (case aB => exact (by repeat (first | (with_reducible first | exact HB.out | apply below_alloc | apply pw_below_drewN | apply below_drew1 | refine below_set ?_ GE280.out | refine below_set ?_ GE281.out | refine below_set ?_ GE282.out) | exact HB.out))); (case aF => exact (fun k_ hk => (Nat.le_trans (below_size (by repeat (first | (with_reducible first | exact HB.out | apply below_alloc | apply pw_below_drewN | apply below_drew1 | refine below_set ?_ GE280.out | refine below_set ?_ GE281.out | refine below_set ?_ GE282.out) | exact HB.out))) hk))); (case aO => exact (by (with_reducible repeat (first | apply Kd.R_alloc | apply Kd.R_drewN | apply Kd.R_drew)); exact Kd.R_mono HO285.out (fun _ hk => hk.1))); (case aS => exact (below_size (by repeat (first | (with_reducible first | exact HB.out | apply below_alloc | apply pw_below_drewN | apply below_drew1 | refine below_set ?_ GE280.out | refine below_set ?_ GE281.out | refine below_set ?_ GE282.out) | exact HB.out)))); (case aL => have := LMc4.out; omega); intro v287 w17 ho hb hg hat; rw [← Ny286.out] at ho; have n0_ := Aside0.mk (Kd.V_afterv (ok := (fun k_ => (P2_7_ k_ ∨ w.heap.size ≤ k_) ∧ k_ ≠ gb280 ∧ k_ ≠ gb281 ∧ k_ ≠ gb282)) (by (with_reducible repeat (first | apply Kd.V_alloc | apply Kd.V_drewN | apply Kd.V_drew)); exact Kd.V_mono HO2_7.out (fun _ hk => ⟨⟨hk.1.1.1.1, ⟨hk.1.1.1.2, ⟨hk.1.1.2, hk.1.2⟩⟩⟩, hk.2⟩)) hg hat); have n1_ := Aside0.mk (blk_grown (g := gb280) (o := .cells #[.string a2_0, .int .i64 a2_1, .int .i64 a2_2, .int .i64 a2_3, .int .i64 a2_4, .int .i64 a2_5, .slice A2_6 l2_6.length c2_6, .slice A2_7 l2_7.length c2_7] 25 (0, 0)) (by (with_reducible repeat (first | refine blk_drewN ?_ _ | refine blk_drew ?_ | refine blk_alloc ?_ _)); exact BK280.out) hg (Kd.R_ne HO285.out BK280.out (by decide))); have n2_ := Aside0.mk (blk_grown (g := gb281) (o := .cells #[.string (⟨#[]⟩ : ByteArray), .int .i64 0, .int .i64 0, .int .i64 0, .int .i64 0, .int .i64 0, .slice none 0 0, .slice none 0 0] 25 (0, 0)) (by (with_reducible repeat (first | refine blk_drewN ?_ _ | refine blk_drew ?_ | refine blk_alloc ?_ _)); exact BK281.out) hg (Kd.R_ne HO285.out BK281.out (by decide))); have n3_ := Aside0.mk (blk_grown (g := gb282) (o := .cells #[.string a2_0, .int .i64 a2_1, .int .i64 a2_2, .int .i64 a2_3, .int .i64 a2_4, .int .i64 a2_5, .slice A2_6 l2_6.length c2_6, .slice A2_7 l2_7.length c2_7] 25 (0, 0)) (by (with_reducible repeat (first | refine blk_drewN ?_ _ | refine blk_drew ?_ | refine blk_alloc ?_ _)); exact BK282.out) hg (Kd.R_ne HO285.out BK282.out (by decide))); have n4_ := Aside0.mk (hb); have n5_ := Aside0.mk (ho); clear HO2_7; clear BK280; clear BK281; clear BK282; clear HB; clear HO285; have HO2_7 := n0_; have BK280 := n1_; have BK281 := n2_; have BK282 := n3_; have HB := n4_; have HO288 := n5_; clear n0_ n1_ n2_ n3_ n4_ n5_; clear ho hb hg hat; obtain ⟨Ao18, co18, eo18⟩ := Kd.R_slice HO288.out; subst eo18; obtain ⟨hcz19_0, hcz19_1, hcz19_2, hcz19_3, hcz19_4, hcz19_5, hcz19_6, hcz19_7, hfz19_0, hfz19_1, hfz19_2, hfz19_3, hfz19_4, hfz19_5, hfz19_6, hfz19_7⟩ := blk8_ BK282.out))
  (try simp only [Act.put, List.setIfInBounds_toArray, List.set_cons_zero, List.set_cons_succ])
  go_cut [] (fun wc => ∃ (kq : Nat) (x283000_4 : ByteArray) (x283001_4 : Int) (x283002_4 : Int) (x283003_4 : Int) (x283005_4 : Int), Aside0 (entrepotlaw12_turned.j0 kq a1 x283000_4 x283001_4 x283002_4 x283003_4 a2_4 x283005_4 y286 l2_7 = some (r1, r2, r3, r4, r5, r6, r7, r8)) ∧ Aside0 (kq ≤ k) ∧ Aside0 (Kd.V (Kd.int .i64) 3 wc w.heap.size (fun k_ => (P2_7_ k_ ∨ w.heap.size ≤ k_) ∧ some k_ ≠ ((.slice Ao18 y286.length co18) : Value).ownBlock ∧ k_ ≠ gb280 ∧ k_ ≠ gb281 ∧ k_ ≠ gb282) (.slice A2_7 l2_7.length c2_7) l2_7) ∧ Aside0 (Kd.R k40 40 wc w.heap.size (fun k_ => (w.heap.size ≤ k_)) (.slice Ao18 y286.length co18) y286) ∧ Aside0 (Kd.V (Kd.int .i64) 3 wc w.heap.size (fun k_ => (P2_7_ k_ ∨ w.heap.size ≤ k_) ∧ some k_ ≠ ((.slice Ao18 y286.length co18) : Value).ownBlock ∧ k_ ≠ gb280 ∧ k_ ≠ gb281 ∧ k_ ≠ gb282) (.slice A2_7 l2_7.length c2_7) l2_7) ∧ Aside0 (wc.heap[gb280]? = some (.cells #[.string a2_0, .int .i64 a2_1, .int .i64 a2_2, .int .i64 a2_3, .int .i64 a2_4, .int .i64 a2_5, (.slice A2_6 l2_6.length c2_6), (.slice A2_7 l2_7.length c2_7)] 25 (0, 0))) ∧ Aside0 (wc.heap[gb281]? = some (.cells #[.string (⟨#[]⟩ : ByteArray), .int .i64 0, .int .i64 0, .int .i64 0, .int .i64 0, .int .i64 0, (.slice none 0 0), (.slice none 0 0)] 25 (0, 0))) ∧ Aside0 (wc.heap[gb282]? = some (.cells #[.string x283000_4, .int .i64 x283001_4, .int .i64 x283002_4, .int .i64 x283003_4, .int .i64 a2_4, .int .i64 x283005_4, (.slice Ao18 y286.length co18), (.slice A2_7 l2_7.length c2_7)] 25 (0, 0))) ∧ Aside0 (Below w.heap.size w wc))
  case first =>
   have H := HC5.out
   clear HC5
   by_cases c20 : a1 = 1
   ·rw [if_pos c20] at H
    have c20b0 : (a1 == 1) = true := beq_iff_eq.mpr c20
    have c20b1 : (a1 != 1) = false := bne_eq_false_iff_eq.mpr c20
    clear c20
    (first | rw [c20b0] | (simp only [i64_w, i32_w]; rw [c20b0]) | skip)
    have H' := Aside0.mk H
    clear H
    have hnb21 := NB282_280.out
    have hnc21 := NB280_282.out
    have hnb22 := NB282_281.out
    have hnc22 := NB281_282.out
    obtain ⟨hcz23_0, hcz23_1, hcz23_2, hcz23_3, hcz23_4, hcz23_5, hcz23_6, hcz23_7, hfz23_0, hfz23_1, hfz23_2, hfz23_3, hfz23_4, hfz23_5, hfz23_6, hfz23_7⟩ := blk8_ BK282.out
    go_wp2
    go_meet
    case rel => exact ⟨_, ((⟨#[108, 105, 108, 105, 109]⟩ : ByteArray)), (a2_1), (a2_2), (a2_3), (a2_5), H', ⟨by first | omega | exact Nat.le_refl _⟩, ⟨by (with_reducible repeat (first | apply Kd.V_alloc | apply Kd.V_drewN | apply Kd.V_drew)); exact Kd.V_mono (Kd.V_far (p := ⟨gb282, 0, none⟩) (Kd.V_far (p := ⟨gb282, 6, none⟩) (Kd.V_mono HO2_7.out (fun k_ hk => (⟨hk, hk.1.2.2.2⟩ : _ ∧ k_ ≠ gb282))) (fun _ hk => hk.2) (.slice Ao18 y286.length co18)) (fun _ hk => hk.2) (.string (⟨#[108, 105, 108, 105, 109]⟩ : ByteArray))) (fun _ hk => ⟨hk.1.1.1, ⟨hk.1.2, ⟨hk.1.1.2.1, ⟨hk.1.1.2.2.1, hk.1.1.2.2.2⟩⟩⟩⟩)⟩, ⟨by (with_reducible repeat (first | apply Kd.R_alloc | apply Kd.R_drewN | apply Kd.R_drew)); exact Kd.R_mono (Kd.R_far (p := ⟨gb282, 0, none⟩) (Kd.R_far (p := ⟨gb282, 6, none⟩) (Kd.R_types HO288.out BK282.out (by decide)) (fun _ hk => hk.2) (.slice Ao18 y286.length co18)) (fun _ hk => hk.2) (.string (⟨#[108, 105, 108, 105, 109]⟩ : ByteArray))) (fun _ hk => hk.1)⟩, ⟨by (with_reducible repeat (first | apply Kd.V_alloc | apply Kd.V_drewN | apply Kd.V_drew)); exact Kd.V_mono (Kd.V_far (p := ⟨gb282, 0, none⟩) (Kd.V_far (p := ⟨gb282, 6, none⟩) (Kd.V_mono HO2_7.out (fun k_ hk => (⟨hk, hk.1.2.2.2⟩ : _ ∧ k_ ≠ gb282))) (fun _ hk => hk.2) (.slice Ao18 y286.length co18)) (fun _ hk => hk.2) (.string (⟨#[108, 105, 108, 105, 109]⟩ : ByteArray))) (fun _ hk => ⟨hk.1.1.1, ⟨hk.1.2, ⟨hk.1.1.2.1, ⟨hk.1.1.2.2.1, hk.1.1.2.2.2⟩⟩⟩⟩)⟩, ⟨by (with_reducible repeat (first | refine blk_drewN ?_ _ | refine blk_drew ?_ | refine blk_alloc ?_ _)); refine blk_far ?_ NB280_282.out _; (with_reducible repeat (first | refine blk_drewN ?_ _ | refine blk_drew ?_ | refine blk_alloc ?_ _)); refine blk_far ?_ NB280_282.out _; (with_reducible repeat (first | refine blk_drewN ?_ _ | refine blk_drew ?_ | refine blk_alloc ?_ _)); exact BK280.out⟩, ⟨by (with_reducible repeat (first | refine blk_drewN ?_ _ | refine blk_drew ?_ | refine blk_alloc ?_ _)); refine blk_far ?_ NB281_282.out _; (with_reducible repeat (first | refine blk_drewN ?_ _ | refine blk_drew ?_ | refine blk_alloc ?_ _)); refine blk_far ?_ NB281_282.out _; (with_reducible repeat (first | refine blk_drewN ?_ _ | refine blk_drew ?_ | refine blk_alloc ?_ _)); exact BK281.out⟩, ⟨by (with_reducible repeat (first | refine blk_drewN ?_ _ | refine blk_drew ?_ | refine blk_alloc ?_ _)); refine blk_put (cs := #[.string a2_0, .int .i64 a2_1, .int .i64 a2_2, .int .i64 a2_3, .int .i64 a2_4, .int .i64 a2_5, .slice Ao18 y286.length co18, .slice A2_7 l2_7.length c2_7]) ?_ 0 _ rfl; (with_reducible repeat (first | refine blk_drewN ?_ _ | refine blk_drew ?_ | refine blk_alloc ?_ _)); refine blk_put (cs := #[.string a2_0, .int .i64 a2_1, .int .i64 a2_2, .int .i64 a2_3, .int .i64 a2_4, .int .i64 a2_5, .slice A2_6 l2_6.length c2_6, .slice A2_7 l2_7.length c2_7]) ?_ 6 _ rfl; (with_reducible repeat (first | refine blk_drewN ?_ _ | refine blk_drew ?_ | refine blk_alloc ?_ _)); exact BK282.out⟩, ⟨by repeat (first | (with_reducible first | exact HB.out | apply below_alloc | apply pw_below_drewN | apply below_drew1 | refine below_set ?_ GE280.out | refine below_set ?_ GE281.out | refine below_set ?_ GE282.out) | exact HB.out)⟩⟩
   ·rw [if_neg c20] at H
    have c20b0 : (a1 == 1) = false := beq_eq_false_iff_ne.mpr c20
    have c20b1 : (a1 != 1) = true := bne_iff_ne.mpr c20
    (first | rw [c20b0] | (simp only [i64_w, i32_w]; rw [c20b0]) | skip)
    by_cases c24 : a1 = 2
    ·rw [if_pos c24] at H
     have c24b0 : (a1 == 2) = true := beq_iff_eq.mpr c24
     have c24b1 : (a1 != 2) = false := bne_eq_false_iff_eq.mpr c24
     clear c24
     have H' := Aside0.mk H
     clear H
     have hnb25 := NB282_280.out
     have hnc25 := NB280_282.out
     have hnb26 := NB282_281.out
     have hnc26 := NB281_282.out
     obtain ⟨hcz27_0, hcz27_1, hcz27_2, hcz27_3, hcz27_4, hcz27_5, hcz27_6, hcz27_7, hfz27_0, hfz27_1, hfz27_2, hfz27_3, hfz27_4, hfz27_5, hfz27_6, hfz27_7⟩ := blk8_ BK282.out
     go_wp2
     go_meet
     case rel => exact ⟨_, (a2_0), (wrap64 (a0 + 1)), (a2_2), (a2_3), (a2_5), H', ⟨by first | omega | exact Nat.le_refl _⟩, ⟨by (with_reducible repeat (first | apply Kd.V_alloc | apply Kd.V_drewN | apply Kd.V_drew)); exact Kd.V_mono (Kd.V_far (p := ⟨gb282, 1, none⟩) (Kd.V_far (p := ⟨gb282, 6, none⟩) (Kd.V_mono HO2_7.out (fun k_ hk => (⟨hk, hk.1.2.2.2⟩ : _ ∧ k_ ≠ gb282))) (fun _ hk => hk.2) (.slice Ao18 y286.length co18)) (fun _ hk => hk.2) (.int .i64 (wrap64 (a0 + 1)))) (fun _ hk => ⟨hk.1.1.1, ⟨hk.1.2, ⟨hk.1.1.2.1, ⟨hk.1.1.2.2.1, hk.1.1.2.2.2⟩⟩⟩⟩)⟩, ⟨by (with_reducible repeat (first | apply Kd.R_alloc | apply Kd.R_drewN | apply Kd.R_drew)); exact Kd.R_mono (Kd.R_far (p := ⟨gb282, 1, none⟩) (Kd.R_far (p := ⟨gb282, 6, none⟩) (Kd.R_types HO288.out BK282.out (by decide)) (fun _ hk => hk.2) (.slice Ao18 y286.length co18)) (fun _ hk => hk.2) (.int .i64 (wrap64 (a0 + 1)))) (fun _ hk => hk.1)⟩, ⟨by (with_reducible repeat (first | apply Kd.V_alloc | apply Kd.V_drewN | apply Kd.V_drew)); exact Kd.V_mono (Kd.V_far (p := ⟨gb282, 1, none⟩) (Kd.V_far (p := ⟨gb282, 6, none⟩) (Kd.V_mono HO2_7.out (fun k_ hk => (⟨hk, hk.1.2.2.2⟩ : _ ∧ k_ ≠ gb282))) (fun _ hk => hk.2) (.slice Ao18 y286.length co18)) (fun _ hk => hk.2) (.int .i64 (wrap64 (a0 + 1)))) (fun _ hk => ⟨hk.1.1.1, ⟨hk.1.2, ⟨hk.1.1.2.1, ⟨hk.1.1.2.2.1, hk.1.1.2.2.2⟩⟩⟩⟩)⟩, ⟨by (with_reducible repeat (first | refine blk_drewN ?_ _ | refine blk_drew ?_ | refine blk_alloc ?_ _)); refine blk_far ?_ NB280_282.out _; (with_reducible repeat (first | refine blk_drewN ?_ _ | refine blk_drew ?_ | refine blk_alloc ?_ _)); refine blk_far ?_ NB280_282.out _; (with_reducible repeat (first | refine blk_drewN ?_ _ | refine blk_drew ?_ | refine blk_alloc ?_ _)); exact BK280.out⟩, ⟨by (with_reducible repeat (first | refine blk_drewN ?_ _ | refine blk_drew ?_ | refine blk_alloc ?_ _)); refine blk_far ?_ NB281_282.out _; (with_reducible repeat (first | refine blk_drewN ?_ _ | refine blk_drew ?_ | refine blk_alloc ?_ _)); refine blk_far ?_ NB281_282.out _; (with_reducible repeat (first | refine blk_drewN ?_ _ | refine blk_drew ?_ | refine blk_alloc ?_ _)); exact BK281.out⟩, ⟨by (with_reducible repeat (first | refine blk_drewN ?_ _ | refine blk_drew ?_ | refine blk_alloc ?_ _)); refine blk_put (cs := #[.string a2_0, .int .i64 a2_1, .int .i64 a2_2, .int .i64 a2_3, .int .i64 a2_4, .int .i64 a2_5, .slice Ao18 y286.length co18, .slice A2_7 l2_7.length c2_7]) ?_ 1 _ rfl; (with_reducible repeat (first | refine blk_drewN ?_ _ | refine blk_drew ?_ | refine blk_alloc ?_ _)); refine blk_put (cs := #[.string a2_0, .int .i64 a2_1, .int .i64 a2_2, .int .i64 a2_3, .int .i64 a2_4, .int .i64 a2_5, .slice A2_6 l2_6.length c2_6, .slice A2_7 l2_7.length c2_7]) ?_ 6 _ rfl; (with_reducible repeat (first | refine blk_drewN ?_ _ | refine blk_drew ?_ | refine blk_alloc ?_ _)); exact BK282.out⟩, ⟨by repeat (first | (with_reducible first | exact HB.out | apply below_alloc | apply pw_below_drewN | apply below_drew1 | refine below_set ?_ GE280.out | refine below_set ?_ GE281.out | refine below_set ?_ GE282.out) | exact HB.out)⟩⟩
    ·rw [if_neg c24] at H
     have c24b0 : (a1 == 2) = false := beq_eq_false_iff_ne.mpr c24
     have c24b1 : (a1 != 2) = true := bne_iff_ne.mpr c24
     by_cases c28 : a1 = 3
     ·rw [if_pos c28] at H
      have c28b0 : (a1 == 3) = true := beq_iff_eq.mpr c28
      have c28b1 : (a1 != 3) = false := bne_eq_false_iff_eq.mpr c28
      clear c28
      by_cases c29 : a0 = 1
      ·rw [if_pos c29] at H
       have c29b0 : (a0 == 1) = true := beq_iff_eq.mpr c29
       have c29b1 : (a0 != 1) = false := bne_eq_false_iff_eq.mpr c29
       clear c29
       have H' := Aside0.mk H
       clear H
       have hnb30 := NB282_280.out
       have hnc30 := NB280_282.out
       have hnb31 := NB282_281.out
       have hnc31 := NB281_282.out
       obtain ⟨hcz32_0, hcz32_1, hcz32_2, hcz32_3, hcz32_4, hcz32_5, hcz32_6, hcz32_7, hfz32_0, hfz32_1, hfz32_2, hfz32_3, hfz32_4, hfz32_5, hfz32_6, hfz32_7⟩ := blk8_ BK282.out
       go_wp2
       go_meet
       case rel => exact ⟨_, (a2_0), (a2_1), (2), (a2_3), (a2_5), H', ⟨by first | omega | exact Nat.le_refl _⟩, ⟨by (with_reducible repeat (first | apply Kd.V_alloc | apply Kd.V_drewN | apply Kd.V_drew)); exact Kd.V_mono (Kd.V_far (p := ⟨gb282, 2, none⟩) (Kd.V_far (p := ⟨gb282, 2, none⟩) (Kd.V_far (p := ⟨gb282, 6, none⟩) (Kd.V_mono HO2_7.out (fun k_ hk => (⟨hk, hk.1.2.2.2⟩ : _ ∧ k_ ≠ gb282))) (fun _ hk => hk.2) (.slice Ao18 y286.length co18)) (fun _ hk => hk.2) (.int .i64 6)) (fun _ hk => hk.2) (.int .i64 2)) (fun _ hk => ⟨hk.1.1.1, ⟨hk.1.2, ⟨hk.1.1.2.1, ⟨hk.1.1.2.2.1, hk.1.1.2.2.2⟩⟩⟩⟩)⟩, ⟨by (with_reducible repeat (first | apply Kd.R_alloc | apply Kd.R_drewN | apply Kd.R_drew)); exact Kd.R_mono (Kd.R_far (p := ⟨gb282, 2, none⟩) (Kd.R_far (p := ⟨gb282, 2, none⟩) (Kd.R_far (p := ⟨gb282, 6, none⟩) (Kd.R_types HO288.out BK282.out (by decide)) (fun _ hk => hk.2) (.slice Ao18 y286.length co18)) (fun _ hk => hk.2) (.int .i64 6)) (fun _ hk => hk.2) (.int .i64 2)) (fun _ hk => hk.1)⟩, ⟨by (with_reducible repeat (first | apply Kd.V_alloc | apply Kd.V_drewN | apply Kd.V_drew)); exact Kd.V_mono (Kd.V_far (p := ⟨gb282, 2, none⟩) (Kd.V_far (p := ⟨gb282, 2, none⟩) (Kd.V_far (p := ⟨gb282, 6, none⟩) (Kd.V_mono HO2_7.out (fun k_ hk => (⟨hk, hk.1.2.2.2⟩ : _ ∧ k_ ≠ gb282))) (fun _ hk => hk.2) (.slice Ao18 y286.length co18)) (fun _ hk => hk.2) (.int .i64 6)) (fun _ hk => hk.2) (.int .i64 2)) (fun _ hk => ⟨hk.1.1.1, ⟨hk.1.2, ⟨hk.1.1.2.1, ⟨hk.1.1.2.2.1, hk.1.1.2.2.2⟩⟩⟩⟩)⟩, ⟨by (with_reducible repeat (first | refine blk_drewN ?_ _ | refine blk_drew ?_ | refine blk_alloc ?_ _)); refine blk_far ?_ NB280_282.out _; (with_reducible repeat (first | refine blk_drewN ?_ _ | refine blk_drew ?_ | refine blk_alloc ?_ _)); refine blk_far ?_ NB280_282.out _; (with_reducible repeat (first | refine blk_drewN ?_ _ | refine blk_drew ?_ | refine blk_alloc ?_ _)); refine blk_far ?_ NB280_282.out _; (with_reducible repeat (first | refine blk_drewN ?_ _ | refine blk_drew ?_ | refine blk_alloc ?_ _)); exact BK280.out⟩, ⟨by (with_reducible repeat (first | refine blk_drewN ?_ _ | refine blk_drew ?_ | refine blk_alloc ?_ _)); refine blk_far ?_ NB281_282.out _; (with_reducible repeat (first | refine blk_drewN ?_ _ | refine blk_drew ?_ | refine blk_alloc ?_ _)); refine blk_far ?_ NB281_282.out _; (with_reducible repeat (first | refine blk_drewN ?_ _ | refine blk_drew ?_ | refine blk_alloc ?_ _)); refine blk_far ?_ NB281_282.out _; (with_reducible repeat (first | refine blk_drewN ?_ _ | refine blk_drew ?_ | refine blk_alloc ?_ _)); exact BK281.out⟩, ⟨by (with_reducible repeat (first | refine blk_drewN ?_ _ | refine blk_drew ?_ | refine blk_alloc ?_ _)); refine blk_put (cs := #[.string a2_0, .int .i64 a2_1, .int .i64 6, .int .i64 a2_3, .int .i64 a2_4, .int .i64 a2_5, .slice Ao18 y286.length co18, .slice A2_7 l2_7.length c2_7]) ?_ 2 _ rfl; (with_reducible repeat (first | refine blk_drewN ?_ _ | refine blk_drew ?_ | refine blk_alloc ?_ _)); refine blk_put (cs := #[.string a2_0, .int .i64 a2_1, .int .i64 a2_2, .int .i64 a2_3, .int .i64 a2_4, .int .i64 a2_5, .slice Ao18 y286.length co18, .slice A2_7 l2_7.length c2_7]) ?_ 2 _ rfl; (with_reducible repeat (first | refine blk_drewN ?_ _ | refine blk_drew ?_ | refine blk_alloc ?_ _)); refine blk_put (cs := #[.string a2_0, .int .i64 a2_1, .int .i64 a2_2, .int .i64 a2_3, .int .i64 a2_4, .int .i64 a2_5, .slice A2_6 l2_6.length c2_6, .slice A2_7 l2_7.length c2_7]) ?_ 6 _ rfl; (with_reducible repeat (first | refine blk_drewN ?_ _ | refine blk_drew ?_ | refine blk_alloc ?_ _)); exact BK282.out⟩, ⟨by repeat (first | (with_reducible first | exact HB.out | apply below_alloc | apply pw_below_drewN | apply below_drew1 | refine below_set ?_ GE280.out | refine below_set ?_ GE281.out | refine below_set ?_ GE282.out) | exact HB.out)⟩⟩
      ·rw [if_neg c29] at H
       have c29b0 : (a0 == 1) = false := beq_eq_false_iff_ne.mpr c29
       have c29b1 : (a0 != 1) = true := bne_iff_ne.mpr c29
       have H' := Aside0.mk H
       clear H
       have hnb33 := NB282_280.out
       have hnc33 := NB280_282.out
       have hnb34 := NB282_281.out
       have hnc34 := NB281_282.out
       obtain ⟨hcz35_0, hcz35_1, hcz35_2, hcz35_3, hcz35_4, hcz35_5, hcz35_6, hcz35_7, hfz35_0, hfz35_1, hfz35_2, hfz35_3, hfz35_4, hfz35_5, hfz35_6, hfz35_7⟩ := blk8_ BK282.out
       go_wp2
       go_meet
       case rel => exact ⟨_, (a2_0), (a2_1), (6), (a2_3), (a2_5), H', ⟨by first | omega | exact Nat.le_refl _⟩, ⟨by (with_reducible repeat (first | apply Kd.V_alloc | apply Kd.V_drewN | apply Kd.V_drew)); exact Kd.V_mono (Kd.V_far (p := ⟨gb282, 2, none⟩) (Kd.V_far (p := ⟨gb282, 6, none⟩) (Kd.V_mono HO2_7.out (fun k_ hk => (⟨hk, hk.1.2.2.2⟩ : _ ∧ k_ ≠ gb282))) (fun _ hk => hk.2) (.slice Ao18 y286.length co18)) (fun _ hk => hk.2) (.int .i64 6)) (fun _ hk => ⟨hk.1.1.1, ⟨hk.1.2, ⟨hk.1.1.2.1, ⟨hk.1.1.2.2.1, hk.1.1.2.2.2⟩⟩⟩⟩)⟩, ⟨by (with_reducible repeat (first | apply Kd.R_alloc | apply Kd.R_drewN | apply Kd.R_drew)); exact Kd.R_mono (Kd.R_far (p := ⟨gb282, 2, none⟩) (Kd.R_far (p := ⟨gb282, 6, none⟩) (Kd.R_types HO288.out BK282.out (by decide)) (fun _ hk => hk.2) (.slice Ao18 y286.length co18)) (fun _ hk => hk.2) (.int .i64 6)) (fun _ hk => hk.1)⟩, ⟨by (with_reducible repeat (first | apply Kd.V_alloc | apply Kd.V_drewN | apply Kd.V_drew)); exact Kd.V_mono (Kd.V_far (p := ⟨gb282, 2, none⟩) (Kd.V_far (p := ⟨gb282, 6, none⟩) (Kd.V_mono HO2_7.out (fun k_ hk => (⟨hk, hk.1.2.2.2⟩ : _ ∧ k_ ≠ gb282))) (fun _ hk => hk.2) (.slice Ao18 y286.length co18)) (fun _ hk => hk.2) (.int .i64 6)) (fun _ hk => ⟨hk.1.1.1, ⟨hk.1.2, ⟨hk.1.1.2.1, ⟨hk.1.1.2.2.1, hk.1.1.2.2.2⟩⟩⟩⟩)⟩, ⟨by (with_reducible repeat (first | refine blk_drewN ?_ _ | refine blk_drew ?_ | refine blk_alloc ?_ _)); refine blk_far ?_ NB280_282.out _; (with_reducible repeat (first | refine blk_drewN ?_ _ | refine blk_drew ?_ | refine blk_alloc ?_ _)); refine blk_far ?_ NB280_282.out _; (with_reducible repeat (first | refine blk_drewN ?_ _ | refine blk_drew ?_ | refine blk_alloc ?_ _)); exact BK280.out⟩, ⟨by (with_reducible repeat (first | refine blk_drewN ?_ _ | refine blk_drew ?_ | refine blk_alloc ?_ _)); refine blk_far ?_ NB281_282.out _; (with_reducible repeat (first | refine blk_drewN ?_ _ | refine blk_drew ?_ | refine blk_alloc ?_ _)); refine blk_far ?_ NB281_282.out _; (with_reducible repeat (first | refine blk_drewN ?_ _ | refine blk_drew ?_ | refine blk_alloc ?_ _)); exact BK281.out⟩, ⟨by (with_reducible repeat (first | refine blk_drewN ?_ _ | refine blk_drew ?_ | refine blk_alloc ?_ _)); refine blk_put (cs := #[.string a2_0, .int .i64 a2_1, .int .i64 a2_2, .int .i64 a2_3, .int .i64 a2_4, .int .i64 a2_5, .slice Ao18 y286.length co18, .slice A2_7 l2_7.length c2_7]) ?_ 2 _ rfl; (with_reducible repeat (first | refine blk_drewN ?_ _ | refine blk_drew ?_ | refine blk_alloc ?_ _)); refine blk_put (cs := #[.string a2_0, .int .i64 a2_1, .int .i64 a2_2, .int .i64 a2_3, .int .i64 a2_4, .int .i64 a2_5, .slice A2_6 l2_6.length c2_6, .slice A2_7 l2_7.length c2_7]) ?_ 6 _ rfl; (with_reducible repeat (first | refine blk_drewN ?_ _ | refine blk_drew ?_ | refine blk_alloc ?_ _)); exact BK282.out⟩, ⟨by repeat (first | (with_reducible first | exact HB.out | apply below_alloc | apply pw_below_drewN | apply below_drew1 | refine below_set ?_ GE280.out | refine below_set ?_ GE281.out | refine below_set ?_ GE282.out) | exact HB.out)⟩⟩
     ·rw [if_neg c28] at H
      have c28b0 : (a1 == 3) = false := beq_eq_false_iff_ne.mpr c28
      have c28b1 : (a1 != 3) = true := bne_iff_ne.mpr c28
      by_cases c36 : a1 = 4
      ·rw [if_pos c36] at H
       have c36b0 : (a1 == 4) = true := beq_iff_eq.mpr c36
       have c36b1 : (a1 != 4) = false := bne_eq_false_iff_eq.mpr c36
       clear c36
       have H' := Aside0.mk H
       clear H
       have hnb37 := NB282_280.out
       have hnc37 := NB280_282.out
       have hnb38 := NB282_281.out
       have hnc38 := NB281_282.out
       obtain ⟨hcz39_0, hcz39_1, hcz39_2, hcz39_3, hcz39_4, hcz39_5, hcz39_6, hcz39_7, hfz39_0, hfz39_1, hfz39_2, hfz39_3, hfz39_4, hfz39_5, hfz39_6, hfz39_7⟩ := blk8_ BK282.out
       go_wp2
       go_meet
       case rel => exact ⟨_, (a2_0), (a2_1), (a2_2), (0), (a2_5), H', ⟨by first | omega | exact Nat.le_refl _⟩, ⟨by (with_reducible repeat (first | apply Kd.V_alloc | apply Kd.V_drewN | apply Kd.V_drew)); exact Kd.V_mono (Kd.V_far (p := ⟨gb282, 3, none⟩) (Kd.V_far (p := ⟨gb282, 6, none⟩) (Kd.V_mono HO2_7.out (fun k_ hk => (⟨hk, hk.1.2.2.2⟩ : _ ∧ k_ ≠ gb282))) (fun _ hk => hk.2) (.slice Ao18 y286.length co18)) (fun _ hk => hk.2) (.int .i64 0)) (fun _ hk => ⟨hk.1.1.1, ⟨hk.1.2, ⟨hk.1.1.2.1, ⟨hk.1.1.2.2.1, hk.1.1.2.2.2⟩⟩⟩⟩)⟩, ⟨by (with_reducible repeat (first | apply Kd.R_alloc | apply Kd.R_drewN | apply Kd.R_drew)); exact Kd.R_mono (Kd.R_far (p := ⟨gb282, 3, none⟩) (Kd.R_far (p := ⟨gb282, 6, none⟩) (Kd.R_types HO288.out BK282.out (by decide)) (fun _ hk => hk.2) (.slice Ao18 y286.length co18)) (fun _ hk => hk.2) (.int .i64 0)) (fun _ hk => hk.1)⟩, ⟨by (with_reducible repeat (first | apply Kd.V_alloc | apply Kd.V_drewN | apply Kd.V_drew)); exact Kd.V_mono (Kd.V_far (p := ⟨gb282, 3, none⟩) (Kd.V_far (p := ⟨gb282, 6, none⟩) (Kd.V_mono HO2_7.out (fun k_ hk => (⟨hk, hk.1.2.2.2⟩ : _ ∧ k_ ≠ gb282))) (fun _ hk => hk.2) (.slice Ao18 y286.length co18)) (fun _ hk => hk.2) (.int .i64 0)) (fun _ hk => ⟨hk.1.1.1, ⟨hk.1.2, ⟨hk.1.1.2.1, ⟨hk.1.1.2.2.1, hk.1.1.2.2.2⟩⟩⟩⟩)⟩, ⟨by (with_reducible repeat (first | refine blk_drewN ?_ _ | refine blk_drew ?_ | refine blk_alloc ?_ _)); refine blk_far ?_ NB280_282.out _; (with_reducible repeat (first | refine blk_drewN ?_ _ | refine blk_drew ?_ | refine blk_alloc ?_ _)); refine blk_far ?_ NB280_282.out _; (with_reducible repeat (first | refine blk_drewN ?_ _ | refine blk_drew ?_ | refine blk_alloc ?_ _)); exact BK280.out⟩, ⟨by (with_reducible repeat (first | refine blk_drewN ?_ _ | refine blk_drew ?_ | refine blk_alloc ?_ _)); refine blk_far ?_ NB281_282.out _; (with_reducible repeat (first | refine blk_drewN ?_ _ | refine blk_drew ?_ | refine blk_alloc ?_ _)); refine blk_far ?_ NB281_282.out _; (with_reducible repeat (first | refine blk_drewN ?_ _ | refine blk_drew ?_ | refine blk_alloc ?_ _)); exact BK281.out⟩, ⟨by (with_reducible repeat (first | refine blk_drewN ?_ _ | refine blk_drew ?_ | refine blk_alloc ?_ _)); refine blk_put (cs := #[.string a2_0, .int .i64 a2_1, .int .i64 a2_2, .int .i64 a2_3, .int .i64 a2_4, .int .i64 a2_5, .slice Ao18 y286.length co18, .slice A2_7 l2_7.length c2_7]) ?_ 3 _ rfl; (with_reducible repeat (first | refine blk_drewN ?_ _ | refine blk_drew ?_ | refine blk_alloc ?_ _)); refine blk_put (cs := #[.string a2_0, .int .i64 a2_1, .int .i64 a2_2, .int .i64 a2_3, .int .i64 a2_4, .int .i64 a2_5, .slice A2_6 l2_6.length c2_6, .slice A2_7 l2_7.length c2_7]) ?_ 6 _ rfl; (with_reducible repeat (first | refine blk_drewN ?_ _ | refine blk_drew ?_ | refine blk_alloc ?_ _)); exact BK282.out⟩, ⟨by repeat (first | (with_reducible first | exact HB.out | apply below_alloc | apply pw_below_drewN | apply below_drew1 | refine below_set ?_ GE280.out | refine below_set ?_ GE281.out | refine below_set ?_ GE282.out) | exact HB.out)⟩⟩
      ·rw [if_neg c36] at H
       have c36b0 : (a1 == 4) = false := beq_eq_false_iff_ne.mpr c36
       have c36b1 : (a1 != 4) = true := bne_iff_ne.mpr c36
       by_cases c40 : a1 = 6
       ·rw [if_pos c40] at H
        have c40b0 : (a1 == 6) = true := beq_iff_eq.mpr c40
        have c40b1 : (a1 != 6) = false := bne_eq_false_iff_eq.mpr c40
        clear c40
        obtain ⟨ji41, hji41⟩ : ∃ j_ : Int, (mn 1 (wrap64 (a0 - 1))) = j_ := ⟨_, rfl⟩
        replace H : (entrepotlaw12_turned.j0 k a1 a2_0 a2_1 a2_2 a2_3 a2_4 ji41 y286 l2_7) = some (r1, r2, r3, r4, r5, r6, r7, r8) := by first | (rw [hji41] at H; exact H) | (simp only [hji41] at H ⊢; exact H)
        (try (have hji41h : ji41 ≤ 1 := by (rw [← hji41]; unfold mn; (repeat' split) <;> omega)))
        (try (have hji41g : ji41 ≤ 64 := by omega))
        have hji41_ : (if (wrap64 (a0 - 1)) < 1 then (wrap64 (a0 - 1)) else 1) = ji41 := hji41
        have H' := Aside0.mk H
        clear H
        have hnb42 := NB282_280.out
        have hnc42 := NB280_282.out
        have hnb43 := NB282_281.out
        have hnc43 := NB281_282.out
        obtain ⟨hcz44_0, hcz44_1, hcz44_2, hcz44_3, hcz44_4, hcz44_5, hcz44_6, hcz44_7, hfz44_0, hfz44_1, hfz44_2, hfz44_3, hfz44_4, hfz44_5, hfz44_6, hfz44_7⟩ := blk8_ BK282.out
        go_wp2
        go_meet
        case rel => exact ⟨_, (a2_0), (a2_1), (a2_2), (a2_3), (ji41), H', ⟨by first | omega | exact Nat.le_refl _⟩, ⟨by (with_reducible repeat (first | apply Kd.V_alloc | apply Kd.V_drewN | apply Kd.V_drew)); exact Kd.V_mono (Kd.V_far (p := ⟨gb282, 5, none⟩) (Kd.V_far (p := ⟨gb282, 6, none⟩) (Kd.V_mono HO2_7.out (fun k_ hk => (⟨hk, hk.1.2.2.2⟩ : _ ∧ k_ ≠ gb282))) (fun _ hk => hk.2) (.slice Ao18 y286.length co18)) (fun _ hk => hk.2) (.int .i64 ji41)) (fun _ hk => ⟨hk.1.1.1, ⟨hk.1.2, ⟨hk.1.1.2.1, ⟨hk.1.1.2.2.1, hk.1.1.2.2.2⟩⟩⟩⟩)⟩, ⟨by (with_reducible repeat (first | apply Kd.R_alloc | apply Kd.R_drewN | apply Kd.R_drew)); exact Kd.R_mono (Kd.R_far (p := ⟨gb282, 5, none⟩) (Kd.R_far (p := ⟨gb282, 6, none⟩) (Kd.R_types HO288.out BK282.out (by decide)) (fun _ hk => hk.2) (.slice Ao18 y286.length co18)) (fun _ hk => hk.2) (.int .i64 ji41)) (fun _ hk => hk.1)⟩, ⟨by (with_reducible repeat (first | apply Kd.V_alloc | apply Kd.V_drewN | apply Kd.V_drew)); exact Kd.V_mono (Kd.V_far (p := ⟨gb282, 5, none⟩) (Kd.V_far (p := ⟨gb282, 6, none⟩) (Kd.V_mono HO2_7.out (fun k_ hk => (⟨hk, hk.1.2.2.2⟩ : _ ∧ k_ ≠ gb282))) (fun _ hk => hk.2) (.slice Ao18 y286.length co18)) (fun _ hk => hk.2) (.int .i64 ji41)) (fun _ hk => ⟨hk.1.1.1, ⟨hk.1.2, ⟨hk.1.1.2.1, ⟨hk.1.1.2.2.1, hk.1.1.2.2.2⟩⟩⟩⟩)⟩, ⟨by (with_reducible repeat (first | refine blk_drewN ?_ _ | refine blk_drew ?_ | refine blk_alloc ?_ _)); refine blk_far ?_ NB280_282.out _; (with_reducible repeat (first | refine blk_drewN ?_ _ | refine blk_drew ?_ | refine blk_alloc ?_ _)); refine blk_far ?_ NB280_282.out _; (with_reducible repeat (first | refine blk_drewN ?_ _ | refine blk_drew ?_ | refine blk_alloc ?_ _)); exact BK280.out⟩, ⟨by (with_reducible repeat (first | refine blk_drewN ?_ _ | refine blk_drew ?_ | refine blk_alloc ?_ _)); refine blk_far ?_ NB281_282.out _; (with_reducible repeat (first | refine blk_drewN ?_ _ | refine blk_drew ?_ | refine blk_alloc ?_ _)); refine blk_far ?_ NB281_282.out _; (with_reducible repeat (first | refine blk_drewN ?_ _ | refine blk_drew ?_ | refine blk_alloc ?_ _)); exact BK281.out⟩, ⟨by (with_reducible repeat (first | refine blk_drewN ?_ _ | refine blk_drew ?_ | refine blk_alloc ?_ _)); refine blk_put (cs := #[.string a2_0, .int .i64 a2_1, .int .i64 a2_2, .int .i64 a2_3, .int .i64 a2_4, .int .i64 a2_5, .slice Ao18 y286.length co18, .slice A2_7 l2_7.length c2_7]) ?_ 5 _ rfl; (with_reducible repeat (first | refine blk_drewN ?_ _ | refine blk_drew ?_ | refine blk_alloc ?_ _)); refine blk_put (cs := #[.string a2_0, .int .i64 a2_1, .int .i64 a2_2, .int .i64 a2_3, .int .i64 a2_4, .int .i64 a2_5, .slice A2_6 l2_6.length c2_6, .slice A2_7 l2_7.length c2_7]) ?_ 6 _ rfl; (with_reducible repeat (first | refine blk_drewN ?_ _ | refine blk_drew ?_ | refine blk_alloc ?_ _)); exact BK282.out⟩, ⟨by repeat (first | (with_reducible first | exact HB.out | apply below_alloc | apply pw_below_drewN | apply below_drew1 | refine below_set ?_ GE280.out | refine below_set ?_ GE281.out | refine below_set ?_ GE282.out) | exact HB.out)⟩⟩
       ·rw [if_neg c40] at H
        have c40b0 : (a1 == 6) = false := beq_eq_false_iff_ne.mpr c40
        have c40b1 : (a1 != 6) = true := bne_iff_ne.mpr c40
        have H' := Aside0.mk H
        clear H
        go_wp2
        go_meet
        case rel => exact ⟨_, (a2_0), (a2_1), (a2_2), (a2_3), (a2_5), H', ⟨by first | omega | exact Nat.le_refl _⟩, ⟨by (with_reducible repeat (first | apply Kd.V_alloc | apply Kd.V_drewN | apply Kd.V_drew)); exact Kd.V_mono (Kd.V_far (p := ⟨gb282, 6, none⟩) (Kd.V_mono HO2_7.out (fun k_ hk => (⟨hk, hk.1.2.2.2⟩ : _ ∧ k_ ≠ gb282))) (fun _ hk => hk.2) (.slice Ao18 y286.length co18)) (fun _ hk => ⟨hk.1.1.1, ⟨hk.1.2, ⟨hk.1.1.2.1, ⟨hk.1.1.2.2.1, hk.1.1.2.2.2⟩⟩⟩⟩)⟩, ⟨by (with_reducible repeat (first | apply Kd.R_alloc | apply Kd.R_drewN | apply Kd.R_drew)); exact Kd.R_mono (Kd.R_far (p := ⟨gb282, 6, none⟩) (Kd.R_types HO288.out BK282.out (by decide)) (fun _ hk => hk.2) (.slice Ao18 y286.length co18)) (fun _ hk => hk.1)⟩, ⟨by (with_reducible repeat (first | apply Kd.V_alloc | apply Kd.V_drewN | apply Kd.V_drew)); exact Kd.V_mono (Kd.V_far (p := ⟨gb282, 6, none⟩) (Kd.V_mono HO2_7.out (fun k_ hk => (⟨hk, hk.1.2.2.2⟩ : _ ∧ k_ ≠ gb282))) (fun _ hk => hk.2) (.slice Ao18 y286.length co18)) (fun _ hk => ⟨hk.1.1.1, ⟨hk.1.2, ⟨hk.1.1.2.1, ⟨hk.1.1.2.2.1, hk.1.1.2.2.2⟩⟩⟩⟩)⟩, ⟨by (with_reducible repeat (first | refine blk_drewN ?_ _ | refine blk_drew ?_ | refine blk_alloc ?_ _)); refine blk_far ?_ NB280_282.out _; (with_reducible repeat (first | refine blk_drewN ?_ _ | refine blk_drew ?_ | refine blk_alloc ?_ _)); exact BK280.out⟩, ⟨by (with_reducible repeat (first | refine blk_drewN ?_ _ | refine blk_drew ?_ | refine blk_alloc ?_ _)); refine blk_far ?_ NB281_282.out _; (with_reducible repeat (first | refine blk_drewN ?_ _ | refine blk_drew ?_ | refine blk_alloc ?_ _)); exact BK281.out⟩, ⟨by (with_reducible repeat (first | refine blk_drewN ?_ _ | refine blk_drew ?_ | refine blk_alloc ?_ _)); refine blk_put (cs := #[.string a2_0, .int .i64 a2_1, .int .i64 a2_2, .int .i64 a2_3, .int .i64 a2_4, .int .i64 a2_5, .slice A2_6 l2_6.length c2_6, .slice A2_7 l2_7.length c2_7]) ?_ 6 _ rfl; (with_reducible repeat (first | refine blk_drewN ?_ _ | refine blk_drew ?_ | refine blk_alloc ?_ _)); exact BK282.out⟩, ⟨by repeat (first | (with_reducible first | exact HB.out | apply below_alloc | apply pw_below_drewN | apply below_drew1 | refine below_set ?_ GE280.out | refine below_set ?_ GE281.out | refine below_set ?_ GE282.out) | exact HB.out)⟩⟩
  case rest =>
   clear HC5
   (try clear c4); (try clear hcz13_0); (try clear hcz13_1); (try clear hcz13_2); (try clear hcz13_3); (try clear hcz13_4); (try clear hcz13_5); (try clear hcz13_6); (try clear hcz13_7); (try clear hcz16_0); (try clear hcz16_1); (try clear hcz16_2); (try clear hcz16_3); (try clear hcz16_4); (try clear hcz16_5); (try clear hcz16_6); (try clear hcz16_7); (try clear hcz19_0); (try clear hcz19_1); (try clear hcz19_2); (try clear hcz19_3); (try clear hcz19_4); (try clear hcz19_5); (try clear hcz19_6); (try clear hcz19_7); (try clear hcz9_0); (try clear hcz9_1); (try clear hcz9_2); (try clear hcz9_3); (try clear hcz9_4); (try clear hcz9_5); (try clear hcz9_6); (try clear hcz9_7); (try clear hfz13_0); (try clear hfz13_1); (try clear hfz13_2); (try clear hfz13_3); (try clear hfz13_4); (try clear hfz13_5); (try clear hfz13_6); (try clear hfz13_7); (try clear hfz16_0); (try clear hfz16_1); (try clear hfz16_2); (try clear hfz16_3); (try clear hfz16_4); (try clear hfz16_5); (try clear hfz16_6); (try clear hfz16_7); (try clear hfz19_0); (try clear hfz19_1); (try clear hfz19_2); (try clear hfz19_3); (try clear hfz19_4); (try clear hfz19_5); (try clear hfz19_6); (try clear hfz19_7); (try clear hfz9_0); (try clear hfz9_1); (try clear hfz9_2); (try clear hfz9_3); (try clear hfz9_4); (try clear hfz9_5); (try clear hfz9_6); (try clear hfz9_7)
   obtain ⟨kq, x283000_4, x283001_4, x283002_4, x283003_4, x283005_4, HA, HJ4, HO_281007, HO_283006, HO_283007, BK280, BK281, BK282, HB⟩ := hcut
   cases kq with
   | zero => exact absurd HA.out (by simp [entrepotlaw12_turned.j0])
   | succ kj4 =>
    have H := HA.out
    clear HA
    simp only [entrepotlaw12_turned.j0] at H
    have H' := Aside0.mk H
    clear H
    go_wp2
    go_loopg [8] kj4 (fun kq v8 w' => ∃ (x8_2 : Int) (x283006_2 : List (S40)) (u283006 : Value), v8 = .int .i64 x8_2 ∧ Aside0 (entrepotlaw12_turned.l0 kq a1 x8_2 x283000_4 x283001_4 x283002_4 x283003_4 a2_4 x283005_4 x283006_2 l2_7 = some (r1, r2, r3, r4, r5, r6, r7, r8)) ∧ Aside0 (kq ≤ kj4) ∧ Aside0 (Kd.V (Kd.int .i64) 3 w' w.heap.size (fun k_ => (P2_7_ k_ ∨ w.heap.size ≤ k_) ∧ some k_ ≠ (u283006 : Value).ownBlock ∧ k_ ≠ gb280 ∧ k_ ≠ gb281 ∧ k_ ≠ gb282) (.slice A2_7 l2_7.length c2_7) l2_7) ∧ Aside0 (Kd.R k40 40 w' w.heap.size (fun k_ => (w.heap.size ≤ k_)) u283006 x283006_2) ∧ Aside0 (Kd.V (Kd.int .i64) 3 w' w.heap.size (fun k_ => (P2_7_ k_ ∨ w.heap.size ≤ k_) ∧ some k_ ≠ (u283006 : Value).ownBlock ∧ k_ ≠ gb280 ∧ k_ ≠ gb281 ∧ k_ ≠ gb282) (.slice A2_7 l2_7.length c2_7) l2_7) ∧ Aside0 (w'.heap[gb280]? = some (.cells #[.string a2_0, .int .i64 a2_1, .int .i64 a2_2, .int .i64 a2_3, .int .i64 a2_4, .int .i64 a2_5, (.slice A2_6 l2_6.length c2_6), (.slice A2_7 l2_7.length c2_7)] 25 (0, 0))) ∧ Aside0 (w'.heap[gb281]? = some (.cells #[.string (⟨#[]⟩ : ByteArray), .int .i64 0, .int .i64 0, .int .i64 0, .int .i64 0, .int .i64 0, (.slice none 0 0), (.slice none 0 0)] 25 (0, 0))) ∧ Aside0 (w'.heap[gb282]? = some (.cells #[.string x283000_4, .int .i64 x283001_4, .int .i64 x283002_4, .int .i64 x283003_4, .int .i64 a2_4, .int .i64 x283005_4, u283006, (.slice A2_7 l2_7.length c2_7)] 25 (0, 0))) ∧ Aside0 (Below w.heap.size w w'))
    case atStart => exact ⟨(0), (y286), (.slice Ao18 y286.length co18), (by first | rfl | (simp; done) | (simp [*]; done)), H', ⟨Nat.le_refl _⟩, ⟨by (with_reducible repeat (first | apply Kd.V_alloc | apply Kd.V_drewN | apply Kd.V_drew)); exact HO_281007.out⟩, ⟨by (with_reducible repeat (first | apply Kd.R_alloc | apply Kd.R_drewN | apply Kd.R_drew)); exact HO_283006.out⟩, ⟨by (with_reducible repeat (first | apply Kd.V_alloc | apply Kd.V_drewN | apply Kd.V_drew)); exact HO_283007.out⟩, ⟨by (with_reducible repeat (first | refine blk_drewN ?_ _ | refine blk_drew ?_ | refine blk_alloc ?_ _)); exact BK280.out⟩, ⟨by (with_reducible repeat (first | refine blk_drewN ?_ _ | refine blk_drew ?_ | refine blk_alloc ?_ _)); exact BK281.out⟩, ⟨by (with_reducible repeat (first | refine blk_drewN ?_ _ | refine blk_drew ?_ | refine blk_alloc ?_ _)); exact BK282.out⟩, ⟨by repeat (first | (with_reducible first | exact HB.out | apply below_alloc | apply pw_below_drewN | apply below_drew1 | refine below_set ?_ GE280.out | refine below_set ?_ GE281.out | refine below_set ?_ GE282.out) | exact HB.out)⟩⟩
    case round =>
     clear H'
     obtain ⟨x8_2, x283006_2, u283006, rfl, HA, HK2, HO_281007, HO_283006, HO_283007, BK280, BK281, BK282, HB⟩ := hrel
     cases gk with
     | zero => exact absurd HA.out (by simp [entrepotlaw12_turned.l0])
     | succ k2 =>
      have H := HA.out
      clear HA
      simp only [entrepotlaw12_turned.l0] at H
      by_cases c45 : x8_2 < (x283006_2.length : Int)
      ·rw [if_pos c45] at H
       have c45b0 : decide (x8_2 < (x283006_2.length : Int)) = true := decide_eq_true c45
       clear c45
       by_cases c46 : a1 = 10
       ·rw [if_pos c46] at H
        have c46b0 : (a1 == 10) = true := beq_iff_eq.mpr c46
        have c46b1 : (a1 != 10) = false := bne_eq_false_iff_eq.mpr c46
        clear c46
        by_cases c47 : 0 ≤ x8_2
        ·rw [if_pos c47] at H
         have c47b0 : decide (0 ≤ x8_2) = true := decide_eq_true c47
         clear c47
         obtain ⟨ji48, hji48⟩ : ∃ j_ : Int, (mx 0 ((rd_T40 x283006_2 x8_2).f2)) = j_ := ⟨_, rfl⟩
         replace H : (entrepotlaw12_turned.l0 k2 a1 (wrap64 (x8_2 + 1)) x283000_4 x283001_4 x283002_4 x283003_4 a2_4 x283005_4 (x283006_2.set (x8_2 : Int).toNat (⟨(rd_T40 x283006_2 x8_2).f0, (rd_T40 x283006_2 x8_2).f1, ji48, (rd_T40 x283006_2 x8_2).f3, (rd_T40 x283006_2 x8_2).f4, (rd_T40 x283006_2 x8_2).f5, (rd_T40 x283006_2 x8_2).f6⟩ : S40)) l2_7) = some (r1, r2, r3, r4, r5, r6, r7, r8) := by first | (rw [hji48] at H; exact H) | (simp only [hji48] at H ⊢; exact H)
         have hji48_ : (if 0 < ((rd_T40 x283006_2 x8_2).f2) then ((rd_T40 x283006_2 x8_2).f2) else 0) = ji48 := hji48
         obtain ⟨y290, hy290⟩ : ∃ y_ : List (S40), y_ = (x283006_2.set (x8_2 : Int).toNat (⟨(rd_T40 x283006_2 x8_2).f0, (rd_T40 x283006_2 x8_2).f1, ji48, (rd_T40 x283006_2 x8_2).f3, (rd_T40 x283006_2 x8_2).f4, (rd_T40 x283006_2 x8_2).f5, (rd_T40 x283006_2 x8_2).f6⟩ : S40)) := ⟨_, rfl⟩
         replace H : (entrepotlaw12_turned.l0 k2 a1 (wrap64 (x8_2 + 1)) x283000_4 x283001_4 x283002_4 x283003_4 a2_4 x283005_4 y290 l2_7) = some (r1, r2, r3, r4, r5, r6, r7, r8) := by first | (rw [hy290]; with_reducible exact H) | (have H2_ := (Option.bind_some _ _).symm.trans H; rw [hy290]; with_reducible exact H2_) | (have H2_ := (Option.bind_some _ _).symm.trans H; with_reducible exact H2_) | with_reducible exact H | (rw [hy290]; exact H) | exact H
         have Ny290 := Aside0.mk hy290
         clear hy290
         have H' := Aside0.mk H
         clear H
         have hnb50 := NB282_280.out
         have hnc50 := NB280_282.out
         have hnb51 := NB282_281.out
         have hnc51 := NB281_282.out
         obtain ⟨hcz52_0, hcz52_1, hcz52_2, hcz52_3, hcz52_4, hcz52_5, hcz52_6, hcz52_7, hfz52_0, hfz52_1, hfz52_2, hfz52_3, hfz52_4, hfz52_5, hfz52_6, hfz52_7⟩ := blk8_ BK282.out
         obtain ⟨Ao53, co53, eo53⟩ := Kd.R_slice HO_283006.out
         subst eo53
         try go_wp2
         have n0_ := Aside0.mk (Kd.V_drew HO_281007.out)
         have n1_ := Aside0.mk (Kd.R_drew HO_283006.out)
         have n2_ := Aside0.mk (Kd.V_drew HO_283007.out)
         have n3_ := Aside0.mk (blk_drew BK280.out)
         have n4_ := Aside0.mk (blk_drew BK281.out)
         have n5_ := Aside0.mk (blk_drew BK282.out)
         have n6_ := Aside0.mk (below_drew1 HB.out)
         clear HO_281007
         clear HO_283006
         clear HO_283007
         clear BK280
         clear BK281
         clear BK282
         clear HB
         have HO_281007 := n0_
         have HO_283006 := n1_
         have HO_283007 := n2_
         have BK280 := n3_
         have BK281 := n4_
         have BK282 := n5_
         have HB := n6_
         clear n0_ n1_ n2_ n3_ n4_ n5_ n6_
         have p289 : 0 ≤ (x8_2 : Int) := of_decide_eq_true (by first | (with_reducible assumption) | assumption)
         have q289 : x8_2 < (x283006_2.length : Int) := of_decide_eq_true (by first | (with_reducible assumption) | assumption)
         obtain ⟨ad289, e289, hx289_0, hx289_1, hx289_2, hx289_3, hx289_4, hx289_5, hx289_6⟩ := at_T40 (Kd.R_reads' HO_283006.out).2.2 x8_2 p289 q289
         cases e289
         replace p289 := eq_true p289
         replace q289 := eq_true q289
         have p49 : 0 ≤ (x8_2 : Int) := of_decide_eq_true (by first | (with_reducible assumption) | assumption)
         have q49 : (x8_2 : Int) < ((x283006_2.length : Int) : Int) := of_decide_eq_true (by first | (with_reducible assumption) | assumption)
         obtain ⟨go49, co49, eo49, gb49, gl49, cl49, HG49⟩ := Kd.R_form HO_283006.out (by omega)
         (first | cases eo49 | (injection eo49 with ea_ en_ ec_; (first | subst ea_ | (injection ea_ with ea_; subst ea_)); subst ec_; clear en_))
         have GB49 := Aside0.mk gb49
         have GG49 := Aside0.mk HG49
         clear gb49 gl49 HG49
         (first | simp only [add_plain] at hx289_0 | skip)
         (first | simp only [add_plain] at hx289_1 | skip)
         (first | simp only [add_plain] at hx289_2 | skip)
         (first | simp only [add_plain] at hx289_3 | skip)
         (first | simp only [add_plain] at hx289_4 | skip)
         (first | simp only [add_plain] at hx289_5 | skip)
         (first | simp only [add_plain] at hx289_6 | skip)
         obtain ⟨ce49, hcl49, hM49, hcc49, hfr49⟩ := Kd.R_elem HO_283006.out z40 (x8_2 : Int) p49 q49
         obtain rfl := k40_openM hM49
         have hx49_0 : World.cell? _ ⟨go49, (x8_2 : Int).toNat * 7, none⟩ = some (.int .i64 ((rd_T40 x283006_2 x8_2).f0)) := hcc49 0 _ rfl
         have hx49_1 : World.cell? _ ⟨go49, (x8_2 : Int).toNat * 7 + 1, none⟩ = some (.int .i64 ((rd_T40 x283006_2 x8_2).f1)) := hcc49 1 _ rfl
         have hx49_2 : World.cell? _ ⟨go49, (x8_2 : Int).toNat * 7 + 2, none⟩ = some (.int .i64 ((rd_T40 x283006_2 x8_2).f2)) := hcc49 2 _ rfl
         have hx49_3 : World.cell? _ ⟨go49, (x8_2 : Int).toNat * 7 + 3, none⟩ = some (.int .i64 ((rd_T40 x283006_2 x8_2).f3)) := hcc49 3 _ rfl
         have hx49_4 : World.cell? _ ⟨go49, (x8_2 : Int).toNat * 7 + 4, none⟩ = some (.int .i64 ((rd_T40 x283006_2 x8_2).f4)) := hcc49 4 _ rfl
         have hx49_5 : World.cell? _ ⟨go49, (x8_2 : Int).toNat * 7 + 5, none⟩ = some (.int .i64 ((rd_T40 x283006_2 x8_2).f5)) := hcc49 5 _ rfl
         have hx49_6 : World.cell? _ ⟨go49, (x8_2 : Int).toNat * 7 + 6, none⟩ = some (.int .i64 ((rd_T40 x283006_2 x8_2).f6)) := hcc49 6 _ rfl
         have hf49_0 : World.frozen? _ ⟨go49, (x8_2 : Int).toNat * 7, none⟩ = false := hfr49 0
         have hf49_1 : World.frozen? _ ⟨go49, (x8_2 : Int).toNat * 7 + 1, none⟩ = false := hfr49 1
         have hf49_2 : World.frozen? _ ⟨go49, (x8_2 : Int).toNat * 7 + 2, none⟩ = false := hfr49 2
         have hf49_3 : World.frozen? _ ⟨go49, (x8_2 : Int).toNat * 7 + 3, none⟩ = false := hfr49 3
         have hf49_4 : World.frozen? _ ⟨go49, (x8_2 : Int).toNat * 7 + 4, none⟩ = false := hfr49 4
         have hf49_5 : World.frozen? _ ⟨go49, (x8_2 : Int).toNat * 7 + 5, none⟩ = false := hfr49 5
         have hf49_6 : World.frozen? _ ⟨go49, (x8_2 : Int).toNat * 7 + 6, none⟩ = false := hfr49 6
         clear hcl49 hcc49 hfr49 hM49
         replace p49 := eq_true p49
         replace q49 := eq_true q49
         obtain ⟨ce55, hcl55, hM55, hcc55, hfr55⟩ := Kd.R_elem HO_283006.out z40 (x8_2 : Int) (of_decide_eq_true (by first | (with_reducible assumption) | assumption)) (by have h_ : (x8_2 : Int) < ((x283006_2.length : Int) : Int) := of_decide_eq_true (by first | (with_reducible assumption) | assumption); first | exact h_ | (have e_ := (Kd.R_reads' HO_283006.out).1; omega) | simpa using h_)
         obtain rfl := k40_openM hM55
         have HP55 := (Kd.R_seg HO_283006.out (x8_2 : Int) (of_decide_eq_true (by first | (with_reducible assumption) | assumption)) (by have h_ : (x8_2 : Int) < ((x283006_2.length : Int) : Int) := of_decide_eq_true (by first | (with_reducible assumption) | assumption); first | exact h_ | (have e_ := (Kd.R_reads' HO_283006.out).1; omega) | simpa using h_) (seg := [.int .i64 ji48]) (j := 2) hcl55 hcc55 (show 3 ≤ 7 from by decide) (x' := (⟨(rd_T40 x283006_2 x8_2).f0, (rd_T40 x283006_2 x8_2).f1, ji48, (rd_T40 x283006_2 x8_2).f3, (rd_T40 x283006_2 x8_2).f4, (rd_T40 x283006_2 x8_2).f5, (rd_T40 x283006_2 x8_2).f6⟩ : S40)) (k40_mkM _ _ _ (⟨(rd_T40 x283006_2 x8_2).f0, (rd_T40 x283006_2 x8_2).f1, ji48, (rd_T40 x283006_2 x8_2).f3, (rd_T40 x283006_2 x8_2).f4, (rd_T40 x283006_2 x8_2).f5, (rd_T40 x283006_2 x8_2).f6⟩ : S40) ) (fun _ hk => hk)).1
         rw [← Ny290.out] at HP55
         have HQ55 := Aside0.mk HP55
         clear hcl55 hcc55 hfr55 hM55 HP55
         refine start_ (n := 13) (S := fun w' => w'.cell? ⟨gb282, 0, none⟩ = some (.string x283000_4) ∧ w'.cell? ⟨gb282, 1, none⟩ = some (.int .i64 x283001_4) ∧ w'.cell? ⟨gb282, 2, none⟩ = some (.int .i64 x283002_4) ∧ w'.cell? ⟨gb282, 3, none⟩ = some (.int .i64 x283003_4) ∧ w'.cell? ⟨gb282, 4, none⟩ = some (.int .i64 a2_4) ∧ w'.cell? ⟨gb282, 5, none⟩ = some (.int .i64 x283005_4) ∧ w'.cell? ⟨gb282, 6, none⟩ = some (.slice (some ⟨go49, 0, none⟩) x283006_2.length co53) ∧ w'.cell? ⟨gb282, 7, none⟩ = some (.slice A2_7 l2_7.length c2_7) ∧ w'.cell? ⟨go49, ((x8_2).toNat * 7), none⟩ = some (.int .i64 ((rd_T40 x283006_2 x8_2).f0)) ∧ w'.cell? ⟨go49, ((x8_2).toNat * 7) + 1, none⟩ = some (.int .i64 ((rd_T40 x283006_2 x8_2).f1)) ∧ w'.cell? ⟨go49, ((x8_2).toNat * 7) + 2, none⟩ = some (.int .i64 ((rd_T40 x283006_2 x8_2).f2)) ∧ w'.cell? ⟨go49, ((x8_2).toNat * 7) + 3, none⟩ = some (.int .i64 ((rd_T40 x283006_2 x8_2).f3)) ∧ w'.cell? ⟨go49, ((x8_2).toNat * 7) + 4, none⟩ = some (.int .i64 ((rd_T40 x283006_2 x8_2).f4)) ∧ w'.cell? ⟨go49, ((x8_2).toNat * 7) + 5, none⟩ = some (.int .i64 ((rd_T40 x283006_2 x8_2).f5)) ∧ w'.cell? ⟨go49, ((x8_2).toNat * 7) + 6, none⟩ = some (.int .i64 ((rd_T40 x283006_2 x8_2).f6))) (ds := [12]) #[false, false, false, false, false, false, false, false, false, false, false, false, false] (by kernel_rfl) rfl rfl ⟨(blk_cell BK282.out 0).trans rfl, (blk_cell BK282.out 1).trans rfl, (blk_cell BK282.out 2).trans rfl, (blk_cell BK282.out 3).trans rfl, (blk_cell BK282.out 4).trans rfl, (blk_cell BK282.out 5).trans rfl, (blk_cell BK282.out 6).trans rfl, (blk_cell BK282.out 7).trans rfl, hx289_0, hx289_1, hx289_2, hx289_3, hx289_4, hx289_5, hx289_6⟩ (fun hHeld => ?_); refine with_tabW entrepotlaw12_turned.tab21 entrepotlaw12_turned.bits21 (fun HT_ HW_ => ?_)
         generalize wr.drew = w54 at HO_281007 HO_283006 HO_283007 BK280 BK281 BK282 HB GG49 HQ55 hf49_0 hf49_1 hf49_2 hf49_3 hf49_4 hf49_5 hf49_6 hx289_0 hx289_1 hx289_2 hx289_3 hx289_4 hx289_5 hx289_6 hx49_0 hx49_1 hx49_2 hx49_3 hx49_4 hx49_5 hx49_6 hHeld ⊢
         refine pure_ (i := 0) (N := some 49) (v := ?_) (a' := ?_) #[true, false, false, false, false, false, false, false, false, false, false, false, false] rfl rfl (any_of HT_.out (by kernel_rfl)) (fun _ _ _ h => h) (Or.inl ⟨by rfl, ?_⟩) ?_ ?_
         rotate_left
         ·intro w'
          go_simp
          with_reducible rfl
         rotate_left
         ·simp only [Act.put, List.setIfInBounds_toArray, List.set_cons_zero, List.set_cons_succ, i64_w, i32_w]
          rfl
         refine pure_ (i := 2) (N := some 51) (v := ?_) (a' := ?_) #[true, false, true, false, false, false, false, false, false, false, false, false, false] rfl rfl (any_of HT_.out (by kernel_rfl)) (fun _ _ _ h => h) (Or.inl ⟨by rfl, ?_⟩) ?_ ?_
         rotate_left
         ·intro w'
          go_simp
          with_reducible rfl
         rotate_left
         ·simp only [Act.put, List.setIfInBounds_toArray, List.set_cons_zero, List.set_cons_succ, i64_w, i32_w]
          rfl
         refine pure_ (i := 3) (N := some 52) (v := ?_) (a' := ?_) #[true, false, true, true, false, false, false, false, false, false, false, false, false] rfl rfl (any_of HT_.out (by kernel_rfl)) (fun _ _ _ h => h) (Or.inl ⟨by rfl, ?_⟩) ?_ ?_
         rotate_left
         ·intro w'
          go_simp
          with_reducible rfl
         rotate_left
         ·simp only [Act.put, List.setIfInBounds_toArray, List.set_cons_zero, List.set_cons_succ, i64_w, i32_w]
          rfl
         refine pure_ (i := 5) (N := some 54) (v := ?_) (a' := ?_) #[true, false, true, true, false, true, false, false, false, false, false, false, false] rfl rfl (any_of HT_.out (by kernel_rfl)) (fun _ _ _ h => h) (Or.inl ⟨by rfl, ?_⟩) ?_ ?_
         rotate_left
         ·intro w'
          go_simp
          with_reducible rfl
         rotate_left
         ·simp only [Act.put, List.setIfInBounds_toArray, List.set_cons_zero, List.set_cons_succ, i64_w, i32_w]
          rfl
         refine take_ (i := 1) (N := some 50) (v := ?_) (a' := ?_) #[true, true, true, true, false, true, false, false, false, false, false, false, false] rfl rfl (take_ofW HT_.out HW_.out (by kernel_rfl)) (fun _ _ _ h => h) (Or.inl ⟨by rfl, ?_⟩) hHeld ?_ ?_
         rotate_left
         ·rintro w' ⟨s0, s1, s2, s3, s4, s5, s6, s7, s8, s9, s10, s11, s12, s13, s14⟩
          go_simp
          with_reducible rfl
         rotate_left
         ·simp only [Act.put, List.setIfInBounds_toArray, List.set_cons_zero, List.set_cons_succ, i64_w, i32_w]
          rfl
         refine take_ (i := 4) (N := some 53) (v := ?_) (a' := ?_) #[true, true, true, true, true, true, false, false, false, false, false, false, false] rfl rfl (take_ofW HT_.out HW_.out (by kernel_rfl)) (fun _ _ _ h => h) (Or.inl ⟨by rfl, ?_⟩) hHeld ?_ ?_
         rotate_left
         ·rintro w' ⟨s0, s1, s2, s3, s4, s5, s6, s7, s8, s9, s10, s11, s12, s13, s14⟩
          go_simp
          with_reducible rfl
         rotate_left
         ·simp only [Act.put, List.setIfInBounds_toArray, List.set_cons_zero, List.set_cons_succ, i64_w, i32_w]
          rfl
         refine pure_ (i := 6) (N := some 55) (v := ?_) (a' := ?_) #[true, true, true, true, true, true, true, false, false, false, false, false, false] rfl rfl (any_of HT_.out (by kernel_rfl)) (fun _ _ _ h => h) (Or.inl ⟨by rfl, ?_⟩) ?_ ?_
         rotate_left
         ·intro w'
          go_simp
          with_reducible rfl
         rotate_left
         ·simp only [Act.put, List.setIfInBounds_toArray, List.set_cons_zero, List.set_cons_succ, i64_w, i32_w]
          rfl
         refine pure_ (i := 7) (N := some 56) (v := ?_) (a' := ?_) #[true, true, true, true, true, true, true, true, false, false, false, false, false] rfl rfl (any_of HT_.out (by kernel_rfl)) (fun _ _ _ h => h) (Or.inl ⟨by rfl, ?_⟩) ?_ ?_
         rotate_left
         ·intro w'
          go_simp
          with_reducible rfl
         rotate_left
         ·simp only [Act.put, List.setIfInBounds_toArray, List.set_cons_zero, List.set_cons_succ, i64_w, i32_w]
          rfl
         refine take_ (i := 8) (N := some 57) (v := ?_) (a' := ?_) #[true, true, true, true, true, true, true, true, true, false, false, false, false] rfl rfl (take_ofW HT_.out HW_.out (by kernel_rfl)) (fun _ _ _ h => h) (Or.inl ⟨by rfl, ?_⟩) hHeld ?_ ?_
         rotate_left
         ·rintro w' ⟨s0, s1, s2, s3, s4, s5, s6, s7, s8, s9, s10, s11, s12, s13, s14⟩
          go_simp
          with_reducible rfl
         rotate_left
         ·simp only [Act.put, List.setIfInBounds_toArray, List.set_cons_zero, List.set_cons_succ, i64_w, i32_w]
          rfl
         refine pure_ (i := 9) (N := some 58) (v := ?_) (a' := ?_) #[true, true, true, true, true, true, true, true, true, true, false, false, false] rfl rfl (any_of HT_.out (by kernel_rfl)) (fun _ _ _ h => h) (Or.inl ⟨by rfl, ?_⟩) ?_ ?_
         rotate_left
         ·intro w'
          go_simp
          with_reducible rfl
         rotate_left
         ·simp only [Act.put, List.setIfInBounds_toArray, List.set_cons_zero, List.set_cons_succ, i64_w, i32_w]
          rfl
         refine pure_ (i := 10) (N := some 59) (v := ?_) (a' := ?_) #[true, true, true, true, true, true, true, true, true, true, true, false, false] rfl rfl (any_of HT_.out (by kernel_rfl)) (fun _ _ _ h => h) (Or.inl ⟨by rfl, ?_⟩) ?_ ?_
         rotate_left
         ·intro w'
          go_simp
          with_reducible rfl
         rotate_left
         ·simp only [Act.put, List.setIfInBounds_toArray, List.set_cons_zero, List.set_cons_succ, i64_w, i32_w]
          rfl
         refine pure_ (i := 11) (N := some 60) (v := ?_) (a' := ?_) #[true, true, true, true, true, true, true, true, true, true, true, true, false] rfl rfl (any_of HT_.out (by kernel_rfl)) (fun _ _ _ h => h) (Or.inl ⟨by rfl, ?_⟩) ?_ ?_
         rotate_left
         ·intro w'
          go_simp
          with_reducible rfl
         rotate_left
         ·simp only [Act.put, List.setIfInBounds_toArray, List.set_cons_zero, List.set_cons_succ, i64_w, i32_w]
          rfl
         refine last_ (i := 12) (N := none) #[true, true, true, true, true, true, true, true, true, true, true, true, true] rfl rfl (one_of HT_.out (by kernel_rfl)) (by decide) (fun K hK => ?_)
         refine skip_ (w1 := ?_) (by rfl) rfl ?_ ?_
         rotate_left
         ·go_simp
          rfl
         refine hK.out _ _ ?_
         clear hK K
         refine done_ (done_of HT_.out (by kernel_rfl)) ?_
         try go_wp2
         go_roundg k2
         case measure => have := HJ4.out; have := HK2.out; omega
         case rel => exact ⟨(wrap64 (x8_2 + 1)), (y290), (.slice (some ⟨go49, 0, none⟩) x283006_2.length co53), (by first | rfl | (simp; done) | (simp [*]; done)), H', ⟨by have := HJ4.out; have := HK2.out; omega⟩, ⟨by (with_reducible repeat (first | apply Kd.V_alloc | apply Kd.V_drewN | apply Kd.V_drew)); exact Kd.V_mono (Kd.V_far (p := ⟨go49, (x8_2 : Int).toNat * 7 + 2, none⟩) (Kd.V_mono HO_281007.out (fun k_ hk => (⟨hk, fun e_ => hk.2.1 (by rw [e_]; rfl)⟩ : _ ∧ k_ ≠ go49))) (fun _ hk => hk.2) (.int .i64 ji48)) (fun _ hk => ⟨hk.1.1, ⟨hk.1.2.1, ⟨hk.1.2.2.1, ⟨hk.1.2.2.2.1, hk.1.2.2.2.2⟩⟩⟩⟩)⟩, ⟨by (with_reducible repeat (first | apply Kd.R_alloc | apply Kd.R_drewN | apply Kd.R_drew)); exact HQ55.out⟩, ⟨by (with_reducible repeat (first | apply Kd.V_alloc | apply Kd.V_drewN | apply Kd.V_drew)); exact Kd.V_mono (Kd.V_far (p := ⟨go49, (x8_2 : Int).toNat * 7 + 2, none⟩) (Kd.V_mono HO_283007.out (fun k_ hk => (⟨hk, fun e_ => hk.2.1 (by rw [e_]; rfl)⟩ : _ ∧ k_ ≠ go49))) (fun _ hk => hk.2) (.int .i64 ji48)) (fun _ hk => ⟨hk.1.1, ⟨hk.1.2.1, ⟨hk.1.2.2.1, ⟨hk.1.2.2.2.1, hk.1.2.2.2.2⟩⟩⟩⟩)⟩, ⟨by (with_reducible repeat (first | refine blk_drewN ?_ _ | refine blk_drew ?_ | refine blk_alloc ?_ _)); refine blk_far ?_ (by have h_ := Kd.R_ne HO_283006.out BK280.out (by decide); intro e_; exact h_ (by rw [e_]; rfl)) _; (with_reducible repeat (first | refine blk_drewN ?_ _ | refine blk_drew ?_ | refine blk_alloc ?_ _)); exact BK280.out⟩, ⟨by (with_reducible repeat (first | refine blk_drewN ?_ _ | refine blk_drew ?_ | refine blk_alloc ?_ _)); refine blk_far ?_ (by have h_ := Kd.R_ne HO_283006.out BK281.out (by decide); intro e_; exact h_ (by rw [e_]; rfl)) _; (with_reducible repeat (first | refine blk_drewN ?_ _ | refine blk_drew ?_ | refine blk_alloc ?_ _)); exact BK281.out⟩, ⟨by (with_reducible repeat (first | refine blk_drewN ?_ _ | refine blk_drew ?_ | refine blk_alloc ?_ _)); refine blk_far ?_ (by have h_ := Kd.R_ne HO_283006.out BK282.out (by decide); intro e_; exact h_ (by rw [e_]; rfl)) _; (with_reducible repeat (first | refine blk_drewN ?_ _ | refine blk_drew ?_ | refine blk_alloc ?_ _)); exact BK282.out⟩, ⟨by repeat (first | (with_reducible first | exact HB.out | apply below_alloc | apply pw_below_drewN | apply below_drew1 | refine below_set ?_ GB49.out | refine below_set ?_ GE280.out | refine below_set ?_ GE281.out | refine below_set ?_ GE282.out) | exact HB.out)⟩⟩
        ·rw [if_neg c47] at H
         exact absurd H (by simp)
       ·rw [if_neg c46] at H
        have c46b0 : (a1 == 10) = false := beq_eq_false_iff_ne.mpr c46
        have c46b1 : (a1 != 10) = true := bne_iff_ne.mpr c46
        by_cases c56 : a1 = 11
        ·rw [if_pos c56] at H
         have c56b0 : (a1 == 11) = true := beq_iff_eq.mpr c56
         have c56b1 : (a1 != 11) = false := bne_eq_false_iff_eq.mpr c56
         clear c56
         by_cases c57 : 0 ≤ x8_2
         ·rw [if_pos c57] at H
          have c57b0 : decide (0 ≤ x8_2) = true := decide_eq_true c57
          clear c57
          obtain ⟨y291, hy291⟩ : ∃ y_ : List (S40), y_ = (x283006_2.set (x8_2 : Int).toNat (⟨(rd_T40 x283006_2 x8_2).f0, (rd_T40 x283006_2 x8_2).f1, (rd_T40 x283006_2 x8_2).f2, 0, (rd_T40 x283006_2 x8_2).f4, (rd_T40 x283006_2 x8_2).f5, (rd_T40 x283006_2 x8_2).f6⟩ : S40)) := ⟨_, rfl⟩
          replace H : (entrepotlaw12_turned.l0 k2 a1 (wrap64 (x8_2 + 1)) x283000_4 x283001_4 x283002_4 x283003_4 a2_4 x283005_4 (y291.set (x8_2 : Int).toNat (⟨(rd_T40 y291 x8_2).f0, (rd_T40 y291 x8_2).f1, (rd_T40 y291 x8_2).f2, (rd_T40 y291 x8_2).f3, 0, (rd_T40 y291 x8_2).f5, (rd_T40 y291 x8_2).f6⟩ : S40)) l2_7) = some (r1, r2, r3, r4, r5, r6, r7, r8) := by first | (rw [hy291]; with_reducible exact H) | (have H2_ := (Option.bind_some _ _).symm.trans H; rw [hy291]; with_reducible exact H2_) | (have H2_ := (Option.bind_some _ _).symm.trans H; with_reducible exact H2_) | with_reducible exact H | (rw [hy291]; exact H) | exact H
          have Ny291 := Aside0.mk hy291
          clear hy291
          obtain ⟨y292, hy292⟩ : ∃ y_ : List (S40), y_ = (y291.set (x8_2 : Int).toNat (⟨(rd_T40 y291 x8_2).f0, (rd_T40 y291 x8_2).f1, (rd_T40 y291 x8_2).f2, (rd_T40 y291 x8_2).f3, 0, (rd_T40 y291 x8_2).f5, (rd_T40 y291 x8_2).f6⟩ : S40)) := ⟨_, rfl⟩
          replace H : (entrepotlaw12_turned.l0 k2 a1 (wrap64 (x8_2 + 1)) x283000_4 x283001_4 x283002_4 x283003_4 a2_4 x283005_4 y292 l2_7) = some (r1, r2, r3, r4, r5, r6, r7, r8) := by first | (rw [hy292]; with_reducible exact H) | (have H2_ := (Option.bind_some _ _).symm.trans H; rw [hy292]; with_reducible exact H2_) | (have H2_ := (Option.bind_some _ _).symm.trans H; with_reducible exact H2_) | with_reducible exact H | (rw [hy292]; exact H) | exact H
          have Ny292 := Aside0.mk hy292
          clear hy292
          have H' := Aside0.mk H
          clear H
          have hnb60 := NB282_280.out
          have hnc60 := NB280_282.out
          have hnb61 := NB282_281.out
          have hnc61 := NB281_282.out
          obtain ⟨hcz62_0, hcz62_1, hcz62_2, hcz62_3, hcz62_4, hcz62_5, hcz62_6, hcz62_7, hfz62_0, hfz62_1, hfz62_2, hfz62_3, hfz62_4, hfz62_5, hfz62_6, hfz62_7⟩ := blk8_ BK282.out
          obtain ⟨Ao63, co63, eo63⟩ := Kd.R_slice HO_283006.out
          subst eo63
          have p58 : 0 ≤ (x8_2 : Int) := of_decide_eq_true (by first | (with_reducible assumption) | assumption)
          have q58 : (x8_2 : Int) < ((x283006_2.length : Int) : Int) := of_decide_eq_true (by first | (with_reducible assumption) | assumption)
          obtain ⟨go58, co58, eo58, gb58, gl58, cl58, HG58⟩ := Kd.R_form HO_283006.out (by omega)
          (first | cases eo58 | (injection eo58 with ea_ en_ ec_; (first | subst ea_ | (injection ea_ with ea_; subst ea_)); subst ec_; clear en_))
          have GB58 := Aside0.mk gb58
          have GG58 := Aside0.mk HG58
          clear gb58 gl58 HG58
          obtain ⟨ce58, hcl58, hM58, hcc58, hfr58⟩ := Kd.R_elem HO_283006.out z40 (x8_2 : Int) p58 q58
          obtain rfl := k40_openM hM58
          have hx58_0 : wr.cell? ⟨go58, (x8_2 : Int).toNat * 7, none⟩ = some (.int .i64 ((rd_T40 x283006_2 x8_2).f0)) := hcc58 0 _ rfl
          have hx58_1 : wr.cell? ⟨go58, (x8_2 : Int).toNat * 7 + 1, none⟩ = some (.int .i64 ((rd_T40 x283006_2 x8_2).f1)) := hcc58 1 _ rfl
          have hx58_2 : wr.cell? ⟨go58, (x8_2 : Int).toNat * 7 + 2, none⟩ = some (.int .i64 ((rd_T40 x283006_2 x8_2).f2)) := hcc58 2 _ rfl
          have hx58_3 : wr.cell? ⟨go58, (x8_2 : Int).toNat * 7 + 3, none⟩ = some (.int .i64 ((rd_T40 x283006_2 x8_2).f3)) := hcc58 3 _ rfl
          have hx58_4 : wr.cell? ⟨go58, (x8_2 : Int).toNat * 7 + 4, none⟩ = some (.int .i64 ((rd_T40 x283006_2 x8_2).f4)) := hcc58 4 _ rfl
          have hx58_5 : wr.cell? ⟨go58, (x8_2 : Int).toNat * 7 + 5, none⟩ = some (.int .i64 ((rd_T40 x283006_2 x8_2).f5)) := hcc58 5 _ rfl
          have hx58_6 : wr.cell? ⟨go58, (x8_2 : Int).toNat * 7 + 6, none⟩ = some (.int .i64 ((rd_T40 x283006_2 x8_2).f6)) := hcc58 6 _ rfl
          have hf58_0 : wr.frozen? ⟨go58, (x8_2 : Int).toNat * 7, none⟩ = false := hfr58 0
          have hf58_1 : wr.frozen? ⟨go58, (x8_2 : Int).toNat * 7 + 1, none⟩ = false := hfr58 1
          have hf58_2 : wr.frozen? ⟨go58, (x8_2 : Int).toNat * 7 + 2, none⟩ = false := hfr58 2
          have hf58_3 : wr.frozen? ⟨go58, (x8_2 : Int).toNat * 7 + 3, none⟩ = false := hfr58 3
          have hf58_4 : wr.frozen? ⟨go58, (x8_2 : Int).toNat * 7 + 4, none⟩ = false := hfr58 4
          have hf58_5 : wr.frozen? ⟨go58, (x8_2 : Int).toNat * 7 + 5, none⟩ = false := hfr58 5
          have hf58_6 : wr.frozen? ⟨go58, (x8_2 : Int).toNat * 7 + 6, none⟩ = false := hfr58 6
          clear hcl58 hcc58 hfr58 hM58
          replace p58 := eq_true p58
          replace q58 := eq_true q58
          have HX64 := Aside0.mk (show Kd.R k40 40 wr w.heap.size (fun k_ => (w.heap.size ≤ k_)) (.slice (some ⟨go58, 0, none⟩) x283006_2.length co63) x283006_2 from (by (with_reducible repeat (first | apply Kd.R_alloc | apply Kd.R_drewN | apply Kd.R_drew)); exact HO_283006.out))
          obtain ⟨ce64, hcl64, hM64, hcc64, hfr64⟩ := Kd.R_elem HX64.out z40 (x8_2 : Int) (of_decide_eq_true (by first | (with_reducible assumption) | assumption)) (by have h_ : (x8_2 : Int) < ((x283006_2.length : Int) : Int) := of_decide_eq_true (by first | (with_reducible assumption) | assumption); first | exact h_ | (have e_ := (Kd.R_reads' HO_283006.out).1; omega) | simpa using h_)
          obtain rfl := k40_openM hM64
          have HP64 := Kd.R_seg HX64.out (x8_2 : Int) (of_decide_eq_true (by first | (with_reducible assumption) | assumption)) (by have h_ : (x8_2 : Int) < ((x283006_2.length : Int) : Int) := of_decide_eq_true (by first | (with_reducible assumption) | assumption); first | exact h_ | (have e_ := (Kd.R_reads' HO_283006.out).1; omega) | simpa using h_) (seg := [.int .i64 0]) (j := 3) hcl64 hcc64 (show 4 ≤ 7 from by decide) (x' := (⟨(rd_T40 x283006_2 x8_2).f0, (rd_T40 x283006_2 x8_2).f1, (rd_T40 x283006_2 x8_2).f2, 0, (rd_T40 x283006_2 x8_2).f4, (rd_T40 x283006_2 x8_2).f5, (rd_T40 x283006_2 x8_2).f6⟩ : S40)) (k40_mkM _ _ _ (⟨(rd_T40 x283006_2 x8_2).f0, (rd_T40 x283006_2 x8_2).f1, (rd_T40 x283006_2 x8_2).f2, 0, (rd_T40 x283006_2 x8_2).f4, (rd_T40 x283006_2 x8_2).f5, (rd_T40 x283006_2 x8_2).f6⟩ : S40) ) (fun _ hk => hk)
          have hx64_3 := hcc64 3 _ rfl
          (try simp only [show (k40).sz = 7 from rfl, Nat.mul_one, Nat.add_zero] at hx64_3)
          have hf64_3 := hfr64 3
          (try simp only [show (k40).sz = 7 from rfl, Nat.mul_one, Nat.add_zero] at hf64_3)
          clear hcl64 hcc64 hfr64 hM64
          go_wp2_with (first | ((with_reducible refine gate_store (t := 3) (p := 67) rfl ?_); refine store_event (t := 3) (p := 67) (v := ?vo_w65) (w1 := (wr.setCell ⟨go58, (x8_2 : Int).toNat * 7 + 3, none⟩ (.int .i64 0))) ?hg ?ho ?hn ?hr ?_; (case ho => rfl); (case hg => rfl); (case hn => rfl); (case hr => first | (go_simp; done) | (go_simp; rfl)); intro w65 hw; have hg : wr.grownBy w65 (some go58) := (by rw [hw]; exact HP64.2); have hp_ : Kd.R k40 40 w65 w.heap.size (fun k_ => (w.heap.size ≤ k_)) (.slice (some ⟨go58, 0, none⟩) x283006_2.length co63) y291 := (by rw [hw, Ny291.out]; exact HP64.1); clear HP64; have n0_ := Aside0.mk (Kd.V_afterv (v := (.slice (some ⟨go58, 0, none⟩) x283006_2.length co63)) (v1 := (.slice (some ⟨go58, 0, none⟩) x283006_2.length co63)) (ok := (fun k_ => (P2_7_ k_ ∨ w.heap.size ≤ k_) ∧ k_ ≠ gb280 ∧ k_ ≠ gb281 ∧ k_ ≠ gb282)) (by (with_reducible repeat (first | apply Kd.V_alloc | apply Kd.V_drewN | apply Kd.V_drew)); exact Kd.V_mono HO_281007.out (fun _ hk => ⟨⟨hk.1, ⟨hk.2.2.1, ⟨hk.2.2.2.1, hk.2.2.2.2⟩⟩⟩, hk.2.1⟩)) hg (.inl rfl)); have n1_ := Aside0.mk (hp_); have n2_ := Aside0.mk (Kd.V_afterv (v := (.slice (some ⟨go58, 0, none⟩) x283006_2.length co63)) (v1 := (.slice (some ⟨go58, 0, none⟩) x283006_2.length co63)) (ok := (fun k_ => (P2_7_ k_ ∨ w.heap.size ≤ k_) ∧ k_ ≠ gb280 ∧ k_ ≠ gb281 ∧ k_ ≠ gb282)) (by (with_reducible repeat (first | apply Kd.V_alloc | apply Kd.V_drewN | apply Kd.V_drew)); exact Kd.V_mono HO_283007.out (fun _ hk => ⟨⟨hk.1, ⟨hk.2.2.1, ⟨hk.2.2.2.1, hk.2.2.2.2⟩⟩⟩, hk.2.1⟩)) hg (.inl rfl)); have n3_ := Aside0.mk (blk_grown (g := gb280) (o := .cells #[.string a2_0, .int .i64 a2_1, .int .i64 a2_2, .int .i64 a2_3, .int .i64 a2_4, .int .i64 a2_5, .slice A2_6 l2_6.length c2_6, .slice A2_7 l2_7.length c2_7] 25 (0, 0)) (by (with_reducible repeat (first | refine blk_drewN ?_ _ | refine blk_drew ?_ | refine blk_alloc ?_ _)); exact BK280.out) hg (Kd.R_ne HO_283006.out BK280.out (by decide))); have n4_ := Aside0.mk (blk_grown (g := gb281) (o := .cells #[.string (⟨#[]⟩ : ByteArray), .int .i64 0, .int .i64 0, .int .i64 0, .int .i64 0, .int .i64 0, .slice none 0 0, .slice none 0 0] 25 (0, 0)) (by (with_reducible repeat (first | refine blk_drewN ?_ _ | refine blk_drew ?_ | refine blk_alloc ?_ _)); exact BK281.out) hg (Kd.R_ne HO_283006.out BK281.out (by decide))); have n5_ := Aside0.mk (blk_grown (g := gb282) (o := .cells #[.string x283000_4, .int .i64 x283001_4, .int .i64 x283002_4, .int .i64 x283003_4, .int .i64 a2_4, .int .i64 x283005_4, .slice (some ⟨go58, 0, none⟩) x283006_2.length co63, .slice A2_7 l2_7.length c2_7] 25 (0, 0)) (by (with_reducible repeat (first | refine blk_drewN ?_ _ | refine blk_drew ?_ | refine blk_alloc ?_ _)); exact BK282.out) hg (Kd.R_ne HO_283006.out BK282.out (by decide))); have n6_ := Aside0.mk ((by rw [hw]; exact below_set (HB.out) GB58.out : Below w.heap.size w w65)); clear HO_281007; clear HO_283006; clear HO_283007; clear BK280; clear BK281; clear BK282; clear HB; have HO_281007 := n0_; have HO_283006 := n1_; have HO_283007 := n2_; have BK280 := n3_; have BK281 := n4_; have BK282 := n5_; have HB := n6_; clear n0_ n1_ n2_ n3_ n4_ n5_ n6_; clear hg hw hp_; obtain ⟨hcz66_0, hcz66_1, hcz66_2, hcz66_3, hcz66_4, hcz66_5, hcz66_6, hcz66_7, hfz66_0, hfz66_1, hfz66_2, hfz66_3, hfz66_4, hfz66_5, hfz66_6, hfz66_7⟩ := blk8_ BK282.out; have p59 : 0 ≤ (x8_2 : Int) := of_decide_eq_true (by first | (with_reducible assumption) | assumption); have q59 : (x8_2 : Int) < ((x283006_2.length : Int) : Int) := of_decide_eq_true (by first | (with_reducible assumption) | assumption); obtain ⟨ce59, hcl59, hM59, hcc59, hfr59⟩ := Kd.R_elem HO_283006.out z40 (x8_2 : Int) p59 q59; obtain rfl := k40_openM hM59; have hx59_0 : w65.cell? ⟨go58, (x8_2 : Int).toNat * 7, none⟩ = some (.int .i64 ((rd_T40 y291 x8_2).f0)) := hcc59 0 _ rfl; have hx59_1 : w65.cell? ⟨go58, (x8_2 : Int).toNat * 7 + 1, none⟩ = some (.int .i64 ((rd_T40 y291 x8_2).f1)) := hcc59 1 _ rfl; have hx59_2 : w65.cell? ⟨go58, (x8_2 : Int).toNat * 7 + 2, none⟩ = some (.int .i64 ((rd_T40 y291 x8_2).f2)) := hcc59 2 _ rfl; have hx59_3 : w65.cell? ⟨go58, (x8_2 : Int).toNat * 7 + 3, none⟩ = some (.int .i64 ((rd_T40 y291 x8_2).f3)) := hcc59 3 _ rfl; have hx59_4 : w65.cell? ⟨go58, (x8_2 : Int).toNat * 7 + 4, none⟩ = some (.int .i64 ((rd_T40 y291 x8_2).f4)) := hcc59 4 _ rfl; have hx59_5 : w65.cell? ⟨go58, (x8_2 : Int).toNat * 7 + 5, none⟩ = some (.int .i64 ((rd_T40 y291 x8_2).f5)) := hcc59 5 _ rfl; have hx59_6 : w65.cell? ⟨go58, (x8_2 : Int).toNat * 7 + 6, none⟩ = some (.int .i64 ((rd_T40 y291 x8_2).f6)) := hcc59 6 _ rfl; have hf59_0 : w65.frozen? ⟨go58, (x8_2 : Int).toNat * 7, none⟩ = false := hfr59 0; have hf59_1 : w65.frozen? ⟨go58, (x8_2 : Int).toNat * 7 + 1, none⟩ = false := hfr59 1; have hf59_2 : w65.frozen? ⟨go58, (x8_2 : Int).toNat * 7 + 2, none⟩ = false := hfr59 2; have hf59_3 : w65.frozen? ⟨go58, (x8_2 : Int).toNat * 7 + 3, none⟩ = false := hfr59 3; have hf59_4 : w65.frozen? ⟨go58, (x8_2 : Int).toNat * 7 + 4, none⟩ = false := hfr59 4; have hf59_5 : w65.frozen? ⟨go58, (x8_2 : Int).toNat * 7 + 5, none⟩ = false := hfr59 5; have hf59_6 : w65.frozen? ⟨go58, (x8_2 : Int).toNat * 7 + 6, none⟩ = false := hfr59 6; clear hcl59 hcc59 hfr59 hM59; replace p59 := eq_true p59; replace q59 := eq_true q59; have HX67 := Aside0.mk (show Kd.R k40 40 w65 w.heap.size (fun k_ => (w.heap.size ≤ k_)) (.slice (some ⟨go58, 0, none⟩) x283006_2.length co63) y291 from (by (with_reducible repeat (first | apply Kd.R_alloc | apply Kd.R_drewN | apply Kd.R_drew)); exact HO_283006.out)); obtain ⟨ce67, hcl67, hM67, hcc67, hfr67⟩ := Kd.R_elem HX67.out z40 (x8_2 : Int) (of_decide_eq_true (by first | (with_reducible assumption) | assumption)) (by have h_ : (x8_2 : Int) < ((x283006_2.length : Int) : Int) := of_decide_eq_true (by first | (with_reducible assumption) | assumption); first | exact h_ | (have e_ := (Kd.R_reads' HO_283006.out).1; omega) | simpa using h_); obtain rfl := k40_openM hM67; have HP67 := Kd.R_seg HX67.out (x8_2 : Int) (of_decide_eq_true (by first | (with_reducible assumption) | assumption)) (by have h_ : (x8_2 : Int) < ((x283006_2.length : Int) : Int) := of_decide_eq_true (by first | (with_reducible assumption) | assumption); first | exact h_ | (have e_ := (Kd.R_reads' HO_283006.out).1; omega) | simpa using h_) (seg := [.int .i64 0]) (j := 4) hcl67 hcc67 (show 5 ≤ 7 from by decide) (x' := (⟨(rd_T40 y291 x8_2).f0, (rd_T40 y291 x8_2).f1, (rd_T40 y291 x8_2).f2, (rd_T40 y291 x8_2).f3, 0, (rd_T40 y291 x8_2).f5, (rd_T40 y291 x8_2).f6⟩ : S40)) (k40_mkM _ _ _ (⟨(rd_T40 y291 x8_2).f0, (rd_T40 y291 x8_2).f1, (rd_T40 y291 x8_2).f2, (rd_T40 y291 x8_2).f3, 0, (rd_T40 y291 x8_2).f5, (rd_T40 y291 x8_2).f6⟩ : S40) ) (fun _ hk => hk); have hx67_4 := hcc67 4 _ rfl; (try simp only [show (k40).sz = 7 from rfl, Nat.mul_one, Nat.add_zero] at hx67_4); have hf67_4 := hfr67 4; (try simp only [show (k40).sz = 7 from rfl, Nat.mul_one, Nat.add_zero] at hf67_4); clear hcl67 hcc67 hfr67 hM67) | ((with_reducible refine gate_store (t := 3) (p := 72) rfl ?_); refine store_event (t := 3) (p := 72) (v := ?vo_w68) (w1 := (w65.setCell ⟨go58, (x8_2 : Int).toNat * 7 + 4, none⟩ (.int .i64 0))) ?hg ?ho ?hn ?hr ?_; (case ho => rfl); (case hg => rfl); (case hn => rfl); (case hr => first | (go_simp; done) | (go_simp; rfl)); intro w68 hw; have hg : w65.grownBy w68 (some go58) := (by rw [hw]; exact HP67.2); have hp_ : Kd.R k40 40 w68 w.heap.size (fun k_ => (w.heap.size ≤ k_)) (.slice (some ⟨go58, 0, none⟩) x283006_2.length co63) y292 := (by rw [hw, Ny292.out]; exact HP67.1); clear HP67; have n0_ := Aside0.mk (Kd.V_afterv (v := (.slice (some ⟨go58, 0, none⟩) x283006_2.length co63)) (v1 := (.slice (some ⟨go58, 0, none⟩) x283006_2.length co63)) (ok := (fun k_ => (P2_7_ k_ ∨ w.heap.size ≤ k_) ∧ k_ ≠ gb280 ∧ k_ ≠ gb281 ∧ k_ ≠ gb282)) (by (with_reducible repeat (first | apply Kd.V_alloc | apply Kd.V_drewN | apply Kd.V_drew)); exact HO_281007.out) hg (.inl rfl)); have n1_ := Aside0.mk (hp_); have n2_ := Aside0.mk (Kd.V_afterv (v := (.slice (some ⟨go58, 0, none⟩) x283006_2.length co63)) (v1 := (.slice (some ⟨go58, 0, none⟩) x283006_2.length co63)) (ok := (fun k_ => (P2_7_ k_ ∨ w.heap.size ≤ k_) ∧ k_ ≠ gb280 ∧ k_ ≠ gb281 ∧ k_ ≠ gb282)) (by (with_reducible repeat (first | apply Kd.V_alloc | apply Kd.V_drewN | apply Kd.V_drew)); exact HO_283007.out) hg (.inl rfl)); have n3_ := Aside0.mk (blk_grown (g := gb280) (o := .cells #[.string a2_0, .int .i64 a2_1, .int .i64 a2_2, .int .i64 a2_3, .int .i64 a2_4, .int .i64 a2_5, .slice A2_6 l2_6.length c2_6, .slice A2_7 l2_7.length c2_7] 25 (0, 0)) (by (with_reducible repeat (first | refine blk_drewN ?_ _ | refine blk_drew ?_ | refine blk_alloc ?_ _)); exact BK280.out) hg (Kd.R_ne HO_283006.out BK280.out (by decide))); have n4_ := Aside0.mk (blk_grown (g := gb281) (o := .cells #[.string (⟨#[]⟩ : ByteArray), .int .i64 0, .int .i64 0, .int .i64 0, .int .i64 0, .int .i64 0, .slice none 0 0, .slice none 0 0] 25 (0, 0)) (by (with_reducible repeat (first | refine blk_drewN ?_ _ | refine blk_drew ?_ | refine blk_alloc ?_ _)); exact BK281.out) hg (Kd.R_ne HO_283006.out BK281.out (by decide))); have n5_ := Aside0.mk (blk_grown (g := gb282) (o := .cells #[.string x283000_4, .int .i64 x283001_4, .int .i64 x283002_4, .int .i64 x283003_4, .int .i64 a2_4, .int .i64 x283005_4, .slice (some ⟨go58, 0, none⟩) x283006_2.length co63, .slice A2_7 l2_7.length c2_7] 25 (0, 0)) (by (with_reducible repeat (first | refine blk_drewN ?_ _ | refine blk_drew ?_ | refine blk_alloc ?_ _)); exact BK282.out) hg (Kd.R_ne HO_283006.out BK282.out (by decide))); have n6_ := Aside0.mk ((by rw [hw]; exact below_set (HB.out) GB58.out : Below w.heap.size w w68)); clear HO_281007; clear HO_283006; clear HO_283007; clear BK280; clear BK281; clear BK282; clear HB; have HO_281007 := n0_; have HO_283006 := n1_; have HO_283007 := n2_; have BK280 := n3_; have BK281 := n4_; have BK282 := n5_; have HB := n6_; clear n0_ n1_ n2_ n3_ n4_ n5_ n6_; clear hg hw hp_))
          go_roundg k2
          case measure => have := HJ4.out; have := HK2.out; omega
          case rel => exact ⟨(wrap64 (x8_2 + 1)), (y292), (.slice (some ⟨go58, 0, none⟩) x283006_2.length co63), (by first | rfl | (simp; done) | (simp [*]; done)), H', ⟨by have := HJ4.out; have := HK2.out; omega⟩, ⟨by (with_reducible repeat (first | apply Kd.V_alloc | apply Kd.V_drewN | apply Kd.V_drew)); exact Kd.V_mono HO_281007.out (fun _ hk => ⟨hk.1.1, ⟨hk.2, ⟨hk.1.2.1, ⟨hk.1.2.2.1, hk.1.2.2.2⟩⟩⟩⟩)⟩, ⟨by (with_reducible repeat (first | apply Kd.R_alloc | apply Kd.R_drewN | apply Kd.R_drew)); exact HO_283006.out⟩, ⟨by (with_reducible repeat (first | apply Kd.V_alloc | apply Kd.V_drewN | apply Kd.V_drew)); exact Kd.V_mono HO_283007.out (fun _ hk => ⟨hk.1.1, ⟨hk.2, ⟨hk.1.2.1, ⟨hk.1.2.2.1, hk.1.2.2.2⟩⟩⟩⟩)⟩, ⟨by (with_reducible repeat (first | refine blk_drewN ?_ _ | refine blk_drew ?_ | refine blk_alloc ?_ _)); exact BK280.out⟩, ⟨by (with_reducible repeat (first | refine blk_drewN ?_ _ | refine blk_drew ?_ | refine blk_alloc ?_ _)); exact BK281.out⟩, ⟨by (with_reducible repeat (first | refine blk_drewN ?_ _ | refine blk_drew ?_ | refine blk_alloc ?_ _)); exact BK282.out⟩, ⟨by repeat (first | (with_reducible first | exact HB.out | apply below_alloc | apply pw_below_drewN | apply below_drew1 | refine below_set ?_ GE280.out | refine below_set ?_ GE281.out | refine below_set ?_ GE282.out) | exact HB.out)⟩⟩
         ·rw [if_neg c57] at H
          exact absurd H (by simp)
        ·rw [if_neg c56] at H
         have c56b0 : (a1 == 11) = false := beq_eq_false_iff_ne.mpr c56
         have c56b1 : (a1 != 11) = true := bne_iff_ne.mpr c56
         by_cases c69 : a1 = 12
         ·rw [if_pos c69] at H
          have c69b0 : (a1 == 12) = true := beq_iff_eq.mpr c69
          have c69b1 : (a1 != 12) = false := bne_eq_false_iff_eq.mpr c69
          clear c69
          by_cases c70 : 0 ≤ x8_2
          ·rw [if_pos c70] at H
           have c70b0 : decide (0 ≤ x8_2) = true := decide_eq_true c70
           clear c70
           obtain ⟨y293, hy293⟩ : ∃ y_ : List (S40), y_ = (x283006_2.set (x8_2 : Int).toNat (⟨(rd_T40 x283006_2 x8_2).f0, (rd_T40 x283006_2 x8_2).f1, (rd_T40 x283006_2 x8_2).f2, (rd_T40 x283006_2 x8_2).f3, (rd_T40 x283006_2 x8_2).f4, 0, (rd_T40 x283006_2 x8_2).f6⟩ : S40)) := ⟨_, rfl⟩
           replace H : (entrepotlaw12_turned.l0 k2 a1 (wrap64 (x8_2 + 1)) x283000_4 x283001_4 x283002_4 x283003_4 a2_4 x283005_4 y293 l2_7) = some (r1, r2, r3, r4, r5, r6, r7, r8) := by first | (rw [hy293]; with_reducible exact H) | (have H2_ := (Option.bind_some _ _).symm.trans H; rw [hy293]; with_reducible exact H2_) | (have H2_ := (Option.bind_some _ _).symm.trans H; with_reducible exact H2_) | with_reducible exact H | (rw [hy293]; exact H) | exact H
           have Ny293 := Aside0.mk hy293
           clear hy293
           have H' := Aside0.mk H
           clear H
           have hnb72 := NB282_280.out
           have hnc72 := NB280_282.out
           have hnb73 := NB282_281.out
           have hnc73 := NB281_282.out
           obtain ⟨hcz74_0, hcz74_1, hcz74_2, hcz74_3, hcz74_4, hcz74_5, hcz74_6, hcz74_7, hfz74_0, hfz74_1, hfz74_2, hfz74_3, hfz74_4, hfz74_5, hfz74_6, hfz74_7⟩ := blk8_ BK282.out
           obtain ⟨Ao75, co75, eo75⟩ := Kd.R_slice HO_283006.out
           subst eo75
           have p71 : 0 ≤ (x8_2 : Int) := of_decide_eq_true (by first | (with_reducible assumption) | assumption)
           have q71 : (x8_2 : Int) < ((x283006_2.length : Int) : Int) := of_decide_eq_true (by first | (with_reducible assumption) | assumption)
           obtain ⟨go71, co71, eo71, gb71, gl71, cl71, HG71⟩ := Kd.R_form HO_283006.out (by omega)
           (first | cases eo71 | (injection eo71 with ea_ en_ ec_; (first | subst ea_ | (injection ea_ with ea_; subst ea_)); subst ec_; clear en_))
           have GB71 := Aside0.mk gb71
           have GG71 := Aside0.mk HG71
           clear gb71 gl71 HG71
           obtain ⟨ce71, hcl71, hM71, hcc71, hfr71⟩ := Kd.R_elem HO_283006.out z40 (x8_2 : Int) p71 q71
           obtain rfl := k40_openM hM71
           have hx71_0 : wr.cell? ⟨go71, (x8_2 : Int).toNat * 7, none⟩ = some (.int .i64 ((rd_T40 x283006_2 x8_2).f0)) := hcc71 0 _ rfl
           have hx71_1 : wr.cell? ⟨go71, (x8_2 : Int).toNat * 7 + 1, none⟩ = some (.int .i64 ((rd_T40 x283006_2 x8_2).f1)) := hcc71 1 _ rfl
           have hx71_2 : wr.cell? ⟨go71, (x8_2 : Int).toNat * 7 + 2, none⟩ = some (.int .i64 ((rd_T40 x283006_2 x8_2).f2)) := hcc71 2 _ rfl
           have hx71_3 : wr.cell? ⟨go71, (x8_2 : Int).toNat * 7 + 3, none⟩ = some (.int .i64 ((rd_T40 x283006_2 x8_2).f3)) := hcc71 3 _ rfl
           have hx71_4 : wr.cell? ⟨go71, (x8_2 : Int).toNat * 7 + 4, none⟩ = some (.int .i64 ((rd_T40 x283006_2 x8_2).f4)) := hcc71 4 _ rfl
           have hx71_5 : wr.cell? ⟨go71, (x8_2 : Int).toNat * 7 + 5, none⟩ = some (.int .i64 ((rd_T40 x283006_2 x8_2).f5)) := hcc71 5 _ rfl
           have hx71_6 : wr.cell? ⟨go71, (x8_2 : Int).toNat * 7 + 6, none⟩ = some (.int .i64 ((rd_T40 x283006_2 x8_2).f6)) := hcc71 6 _ rfl
           have hf71_0 : wr.frozen? ⟨go71, (x8_2 : Int).toNat * 7, none⟩ = false := hfr71 0
           have hf71_1 : wr.frozen? ⟨go71, (x8_2 : Int).toNat * 7 + 1, none⟩ = false := hfr71 1
           have hf71_2 : wr.frozen? ⟨go71, (x8_2 : Int).toNat * 7 + 2, none⟩ = false := hfr71 2
           have hf71_3 : wr.frozen? ⟨go71, (x8_2 : Int).toNat * 7 + 3, none⟩ = false := hfr71 3
           have hf71_4 : wr.frozen? ⟨go71, (x8_2 : Int).toNat * 7 + 4, none⟩ = false := hfr71 4
           have hf71_5 : wr.frozen? ⟨go71, (x8_2 : Int).toNat * 7 + 5, none⟩ = false := hfr71 5
           have hf71_6 : wr.frozen? ⟨go71, (x8_2 : Int).toNat * 7 + 6, none⟩ = false := hfr71 6
           clear hcl71 hcc71 hfr71 hM71
           replace p71 := eq_true p71
           replace q71 := eq_true q71
           have HX76 := Aside0.mk (show Kd.R k40 40 wr w.heap.size (fun k_ => (w.heap.size ≤ k_)) (.slice (some ⟨go71, 0, none⟩) x283006_2.length co75) x283006_2 from (by (with_reducible repeat (first | apply Kd.R_alloc | apply Kd.R_drewN | apply Kd.R_drew)); exact HO_283006.out))
           obtain ⟨ce76, hcl76, hM76, hcc76, hfr76⟩ := Kd.R_elem HX76.out z40 (x8_2 : Int) (of_decide_eq_true (by first | (with_reducible assumption) | assumption)) (by have h_ : (x8_2 : Int) < ((x283006_2.length : Int) : Int) := of_decide_eq_true (by first | (with_reducible assumption) | assumption); first | exact h_ | (have e_ := (Kd.R_reads' HO_283006.out).1; omega) | simpa using h_)
           obtain rfl := k40_openM hM76
           have HP76 := Kd.R_seg HX76.out (x8_2 : Int) (of_decide_eq_true (by first | (with_reducible assumption) | assumption)) (by have h_ : (x8_2 : Int) < ((x283006_2.length : Int) : Int) := of_decide_eq_true (by first | (with_reducible assumption) | assumption); first | exact h_ | (have e_ := (Kd.R_reads' HO_283006.out).1; omega) | simpa using h_) (seg := [.int .i64 0]) (j := 5) hcl76 hcc76 (show 6 ≤ 7 from by decide) (x' := (⟨(rd_T40 x283006_2 x8_2).f0, (rd_T40 x283006_2 x8_2).f1, (rd_T40 x283006_2 x8_2).f2, (rd_T40 x283006_2 x8_2).f3, (rd_T40 x283006_2 x8_2).f4, 0, (rd_T40 x283006_2 x8_2).f6⟩ : S40)) (k40_mkM _ _ _ (⟨(rd_T40 x283006_2 x8_2).f0, (rd_T40 x283006_2 x8_2).f1, (rd_T40 x283006_2 x8_2).f2, (rd_T40 x283006_2 x8_2).f3, (rd_T40 x283006_2 x8_2).f4, 0, (rd_T40 x283006_2 x8_2).f6⟩ : S40) ) (fun _ hk => hk)
           have hx76_5 := hcc76 5 _ rfl
           (try simp only [show (k40).sz = 7 from rfl, Nat.mul_one, Nat.add_zero] at hx76_5)
           have hf76_5 := hfr76 5
           (try simp only [show (k40).sz = 7 from rfl, Nat.mul_one, Nat.add_zero] at hf76_5)
           clear hcl76 hcc76 hfr76 hM76
           go_wp2_with (first | ((with_reducible refine gate_store (t := 3) (p := 79) rfl ?_); refine store_event (t := 3) (p := 79) (v := ?vo_w77) (w1 := (wr.setCell ⟨go71, (x8_2 : Int).toNat * 7 + 5, none⟩ (.int .i64 0))) ?hg ?ho ?hn ?hr ?_; (case ho => rfl); (case hg => rfl); (case hn => rfl); (case hr => first | (go_simp; done) | (go_simp; rfl)); intro w77 hw; have hg : wr.grownBy w77 (some go71) := (by rw [hw]; exact HP76.2); have hp_ : Kd.R k40 40 w77 w.heap.size (fun k_ => (w.heap.size ≤ k_)) (.slice (some ⟨go71, 0, none⟩) x283006_2.length co75) y293 := (by rw [hw, Ny293.out]; exact HP76.1); clear HP76; have n0_ := Aside0.mk (Kd.V_afterv (v := (.slice (some ⟨go71, 0, none⟩) x283006_2.length co75)) (v1 := (.slice (some ⟨go71, 0, none⟩) x283006_2.length co75)) (ok := (fun k_ => (P2_7_ k_ ∨ w.heap.size ≤ k_) ∧ k_ ≠ gb280 ∧ k_ ≠ gb281 ∧ k_ ≠ gb282)) (by (with_reducible repeat (first | apply Kd.V_alloc | apply Kd.V_drewN | apply Kd.V_drew)); exact Kd.V_mono HO_281007.out (fun _ hk => ⟨⟨hk.1, ⟨hk.2.2.1, ⟨hk.2.2.2.1, hk.2.2.2.2⟩⟩⟩, hk.2.1⟩)) hg (.inl rfl)); have n1_ := Aside0.mk (hp_); have n2_ := Aside0.mk (Kd.V_afterv (v := (.slice (some ⟨go71, 0, none⟩) x283006_2.length co75)) (v1 := (.slice (some ⟨go71, 0, none⟩) x283006_2.length co75)) (ok := (fun k_ => (P2_7_ k_ ∨ w.heap.size ≤ k_) ∧ k_ ≠ gb280 ∧ k_ ≠ gb281 ∧ k_ ≠ gb282)) (by (with_reducible repeat (first | apply Kd.V_alloc | apply Kd.V_drewN | apply Kd.V_drew)); exact Kd.V_mono HO_283007.out (fun _ hk => ⟨⟨hk.1, ⟨hk.2.2.1, ⟨hk.2.2.2.1, hk.2.2.2.2⟩⟩⟩, hk.2.1⟩)) hg (.inl rfl)); have n3_ := Aside0.mk (blk_grown (g := gb280) (o := .cells #[.string a2_0, .int .i64 a2_1, .int .i64 a2_2, .int .i64 a2_3, .int .i64 a2_4, .int .i64 a2_5, .slice A2_6 l2_6.length c2_6, .slice A2_7 l2_7.length c2_7] 25 (0, 0)) (by (with_reducible repeat (first | refine blk_drewN ?_ _ | refine blk_drew ?_ | refine blk_alloc ?_ _)); exact BK280.out) hg (Kd.R_ne HO_283006.out BK280.out (by decide))); have n4_ := Aside0.mk (blk_grown (g := gb281) (o := .cells #[.string (⟨#[]⟩ : ByteArray), .int .i64 0, .int .i64 0, .int .i64 0, .int .i64 0, .int .i64 0, .slice none 0 0, .slice none 0 0] 25 (0, 0)) (by (with_reducible repeat (first | refine blk_drewN ?_ _ | refine blk_drew ?_ | refine blk_alloc ?_ _)); exact BK281.out) hg (Kd.R_ne HO_283006.out BK281.out (by decide))); have n5_ := Aside0.mk (blk_grown (g := gb282) (o := .cells #[.string x283000_4, .int .i64 x283001_4, .int .i64 x283002_4, .int .i64 x283003_4, .int .i64 a2_4, .int .i64 x283005_4, .slice (some ⟨go71, 0, none⟩) x283006_2.length co75, .slice A2_7 l2_7.length c2_7] 25 (0, 0)) (by (with_reducible repeat (first | refine blk_drewN ?_ _ | refine blk_drew ?_ | refine blk_alloc ?_ _)); exact BK282.out) hg (Kd.R_ne HO_283006.out BK282.out (by decide))); have n6_ := Aside0.mk ((by rw [hw]; exact below_set (HB.out) GB71.out : Below w.heap.size w w77)); clear HO_281007; clear HO_283006; clear HO_283007; clear BK280; clear BK281; clear BK282; clear HB; have HO_281007 := n0_; have HO_283006 := n1_; have HO_283007 := n2_; have BK280 := n3_; have BK281 := n4_; have BK282 := n5_; have HB := n6_; clear n0_ n1_ n2_ n3_ n4_ n5_ n6_; clear hg hw hp_))
           go_roundg k2
           case measure => have := HJ4.out; have := HK2.out; omega
           case rel => exact ⟨(wrap64 (x8_2 + 1)), (y293), (.slice (some ⟨go71, 0, none⟩) x283006_2.length co75), (by first | rfl | (simp; done) | (simp [*]; done)), H', ⟨by have := HJ4.out; have := HK2.out; omega⟩, ⟨by (with_reducible repeat (first | apply Kd.V_alloc | apply Kd.V_drewN | apply Kd.V_drew)); exact Kd.V_mono HO_281007.out (fun _ hk => ⟨hk.1.1, ⟨hk.2, ⟨hk.1.2.1, ⟨hk.1.2.2.1, hk.1.2.2.2⟩⟩⟩⟩)⟩, ⟨by (with_reducible repeat (first | apply Kd.R_alloc | apply Kd.R_drewN | apply Kd.R_drew)); exact HO_283006.out⟩, ⟨by (with_reducible repeat (first | apply Kd.V_alloc | apply Kd.V_drewN | apply Kd.V_drew)); exact Kd.V_mono HO_283007.out (fun _ hk => ⟨hk.1.1, ⟨hk.2, ⟨hk.1.2.1, ⟨hk.1.2.2.1, hk.1.2.2.2⟩⟩⟩⟩)⟩, ⟨by (with_reducible repeat (first | refine blk_drewN ?_ _ | refine blk_drew ?_ | refine blk_alloc ?_ _)); exact BK280.out⟩, ⟨by (with_reducible repeat (first | refine blk_drewN ?_ _ | refine blk_drew ?_ | refine blk_alloc ?_ _)); exact BK281.out⟩, ⟨by (with_reducible repeat (first | refine blk_drewN ?_ _ | refine blk_drew ?_ | refine blk_alloc ?_ _)); exact BK282.out⟩, ⟨by repeat (first | (with_reducible first | exact HB.out | apply below_alloc | apply pw_below_drewN | apply below_drew1 | refine below_set ?_ GE280.out | refine below_set ?_ GE281.out | refine below_set ?_ GE282.out) | exact HB.out)⟩⟩
          ·rw [if_neg c70] at H
           exact absurd H (by simp)
         ·rw [if_neg c69] at H
          have c69b0 : (a1 == 12) = false := beq_eq_false_iff_ne.mpr c69
          have c69b1 : (a1 != 12) = true := bne_iff_ne.mpr c69
          by_cases c78 : a1 = 13
          ·rw [if_pos c78] at H
           have c78b0 : (a1 == 13) = true := beq_iff_eq.mpr c78
           have c78b1 : (a1 != 13) = false := bne_eq_false_iff_eq.mpr c78
           clear c78
           by_cases c79 : 0 ≤ x8_2
           ·rw [if_pos c79] at H
            have c79b0 : decide (0 ≤ x8_2) = true := decide_eq_true c79
            clear c79
            obtain ⟨y294, hy294⟩ : ∃ y_ : List (S40), y_ = (x283006_2.set (x8_2 : Int).toNat (⟨(rd_T40 x283006_2 x8_2).f0, (rd_T40 x283006_2 x8_2).f1, (rd_T40 x283006_2 x8_2).f2, (rd_T40 x283006_2 x8_2).f3, (rd_T40 x283006_2 x8_2).f4, (rd_T40 x283006_2 x8_2).f5, 0⟩ : S40)) := ⟨_, rfl⟩
            replace H : (entrepotlaw12_turned.l0 k2 a1 (wrap64 (x8_2 + 1)) x283000_4 x283001_4 x283002_4 x283003_4 a2_4 x283005_4 y294 l2_7) = some (r1, r2, r3, r4, r5, r6, r7, r8) := by first | (rw [hy294]; with_reducible exact H) | (have H2_ := (Option.bind_some _ _).symm.trans H; rw [hy294]; with_reducible exact H2_) | (have H2_ := (Option.bind_some _ _).symm.trans H; with_reducible exact H2_) | with_reducible exact H | (rw [hy294]; exact H) | exact H
            have Ny294 := Aside0.mk hy294
            clear hy294
            have H' := Aside0.mk H
            clear H
            have hnb81 := NB282_280.out
            have hnc81 := NB280_282.out
            have hnb82 := NB282_281.out
            have hnc82 := NB281_282.out
            obtain ⟨hcz83_0, hcz83_1, hcz83_2, hcz83_3, hcz83_4, hcz83_5, hcz83_6, hcz83_7, hfz83_0, hfz83_1, hfz83_2, hfz83_3, hfz83_4, hfz83_5, hfz83_6, hfz83_7⟩ := blk8_ BK282.out
            obtain ⟨Ao84, co84, eo84⟩ := Kd.R_slice HO_283006.out
            subst eo84
            have p80 : 0 ≤ (x8_2 : Int) := of_decide_eq_true (by first | (with_reducible assumption) | assumption)
            have q80 : (x8_2 : Int) < ((x283006_2.length : Int) : Int) := of_decide_eq_true (by first | (with_reducible assumption) | assumption)
            obtain ⟨go80, co80, eo80, gb80, gl80, cl80, HG80⟩ := Kd.R_form HO_283006.out (by omega)
            (first | cases eo80 | (injection eo80 with ea_ en_ ec_; (first | subst ea_ | (injection ea_ with ea_; subst ea_)); subst ec_; clear en_))
            have GB80 := Aside0.mk gb80
            have GG80 := Aside0.mk HG80
            clear gb80 gl80 HG80
            obtain ⟨ce80, hcl80, hM80, hcc80, hfr80⟩ := Kd.R_elem HO_283006.out z40 (x8_2 : Int) p80 q80
            obtain rfl := k40_openM hM80
            have hx80_0 : wr.cell? ⟨go80, (x8_2 : Int).toNat * 7, none⟩ = some (.int .i64 ((rd_T40 x283006_2 x8_2).f0)) := hcc80 0 _ rfl
            have hx80_1 : wr.cell? ⟨go80, (x8_2 : Int).toNat * 7 + 1, none⟩ = some (.int .i64 ((rd_T40 x283006_2 x8_2).f1)) := hcc80 1 _ rfl
            have hx80_2 : wr.cell? ⟨go80, (x8_2 : Int).toNat * 7 + 2, none⟩ = some (.int .i64 ((rd_T40 x283006_2 x8_2).f2)) := hcc80 2 _ rfl
            have hx80_3 : wr.cell? ⟨go80, (x8_2 : Int).toNat * 7 + 3, none⟩ = some (.int .i64 ((rd_T40 x283006_2 x8_2).f3)) := hcc80 3 _ rfl
            have hx80_4 : wr.cell? ⟨go80, (x8_2 : Int).toNat * 7 + 4, none⟩ = some (.int .i64 ((rd_T40 x283006_2 x8_2).f4)) := hcc80 4 _ rfl
            have hx80_5 : wr.cell? ⟨go80, (x8_2 : Int).toNat * 7 + 5, none⟩ = some (.int .i64 ((rd_T40 x283006_2 x8_2).f5)) := hcc80 5 _ rfl
            have hx80_6 : wr.cell? ⟨go80, (x8_2 : Int).toNat * 7 + 6, none⟩ = some (.int .i64 ((rd_T40 x283006_2 x8_2).f6)) := hcc80 6 _ rfl
            have hf80_0 : wr.frozen? ⟨go80, (x8_2 : Int).toNat * 7, none⟩ = false := hfr80 0
            have hf80_1 : wr.frozen? ⟨go80, (x8_2 : Int).toNat * 7 + 1, none⟩ = false := hfr80 1
            have hf80_2 : wr.frozen? ⟨go80, (x8_2 : Int).toNat * 7 + 2, none⟩ = false := hfr80 2
            have hf80_3 : wr.frozen? ⟨go80, (x8_2 : Int).toNat * 7 + 3, none⟩ = false := hfr80 3
            have hf80_4 : wr.frozen? ⟨go80, (x8_2 : Int).toNat * 7 + 4, none⟩ = false := hfr80 4
            have hf80_5 : wr.frozen? ⟨go80, (x8_2 : Int).toNat * 7 + 5, none⟩ = false := hfr80 5
            have hf80_6 : wr.frozen? ⟨go80, (x8_2 : Int).toNat * 7 + 6, none⟩ = false := hfr80 6
            clear hcl80 hcc80 hfr80 hM80
            replace p80 := eq_true p80
            replace q80 := eq_true q80
            have HX85 := Aside0.mk (show Kd.R k40 40 wr w.heap.size (fun k_ => (w.heap.size ≤ k_)) (.slice (some ⟨go80, 0, none⟩) x283006_2.length co84) x283006_2 from (by (with_reducible repeat (first | apply Kd.R_alloc | apply Kd.R_drewN | apply Kd.R_drew)); exact HO_283006.out))
            obtain ⟨ce85, hcl85, hM85, hcc85, hfr85⟩ := Kd.R_elem HX85.out z40 (x8_2 : Int) (of_decide_eq_true (by first | (with_reducible assumption) | assumption)) (by have h_ : (x8_2 : Int) < ((x283006_2.length : Int) : Int) := of_decide_eq_true (by first | (with_reducible assumption) | assumption); first | exact h_ | (have e_ := (Kd.R_reads' HO_283006.out).1; omega) | simpa using h_)
            obtain rfl := k40_openM hM85
            have HP85 := Kd.R_seg HX85.out (x8_2 : Int) (of_decide_eq_true (by first | (with_reducible assumption) | assumption)) (by have h_ : (x8_2 : Int) < ((x283006_2.length : Int) : Int) := of_decide_eq_true (by first | (with_reducible assumption) | assumption); first | exact h_ | (have e_ := (Kd.R_reads' HO_283006.out).1; omega) | simpa using h_) (seg := [.int .i64 0]) (j := 6) hcl85 hcc85 (show 7 ≤ 7 from by decide) (x' := (⟨(rd_T40 x283006_2 x8_2).f0, (rd_T40 x283006_2 x8_2).f1, (rd_T40 x283006_2 x8_2).f2, (rd_T40 x283006_2 x8_2).f3, (rd_T40 x283006_2 x8_2).f4, (rd_T40 x283006_2 x8_2).f5, 0⟩ : S40)) (k40_mkM _ _ _ (⟨(rd_T40 x283006_2 x8_2).f0, (rd_T40 x283006_2 x8_2).f1, (rd_T40 x283006_2 x8_2).f2, (rd_T40 x283006_2 x8_2).f3, (rd_T40 x283006_2 x8_2).f4, (rd_T40 x283006_2 x8_2).f5, 0⟩ : S40) ) (fun _ hk => hk)
            have hx85_6 := hcc85 6 _ rfl
            (try simp only [show (k40).sz = 7 from rfl, Nat.mul_one, Nat.add_zero] at hx85_6)
            have hf85_6 := hfr85 6
            (try simp only [show (k40).sz = 7 from rfl, Nat.mul_one, Nat.add_zero] at hf85_6)
            clear hcl85 hcc85 hfr85 hM85
            go_wp2_with (first | ((with_reducible refine gate_store (t := 3) (p := 86) rfl ?_); refine store_event (t := 3) (p := 86) (v := ?vo_w86) (w1 := (wr.setCell ⟨go80, (x8_2 : Int).toNat * 7 + 6, none⟩ (.int .i64 0))) ?hg ?ho ?hn ?hr ?_; (case ho => rfl); (case hg => rfl); (case hn => rfl); (case hr => first | (go_simp; done) | (go_simp; rfl)); intro w86 hw; have hg : wr.grownBy w86 (some go80) := (by rw [hw]; exact HP85.2); have hp_ : Kd.R k40 40 w86 w.heap.size (fun k_ => (w.heap.size ≤ k_)) (.slice (some ⟨go80, 0, none⟩) x283006_2.length co84) y294 := (by rw [hw, Ny294.out]; exact HP85.1); clear HP85; have n0_ := Aside0.mk (Kd.V_afterv (v := (.slice (some ⟨go80, 0, none⟩) x283006_2.length co84)) (v1 := (.slice (some ⟨go80, 0, none⟩) x283006_2.length co84)) (ok := (fun k_ => (P2_7_ k_ ∨ w.heap.size ≤ k_) ∧ k_ ≠ gb280 ∧ k_ ≠ gb281 ∧ k_ ≠ gb282)) (by (with_reducible repeat (first | apply Kd.V_alloc | apply Kd.V_drewN | apply Kd.V_drew)); exact Kd.V_mono HO_281007.out (fun _ hk => ⟨⟨hk.1, ⟨hk.2.2.1, ⟨hk.2.2.2.1, hk.2.2.2.2⟩⟩⟩, hk.2.1⟩)) hg (.inl rfl)); have n1_ := Aside0.mk (hp_); have n2_ := Aside0.mk (Kd.V_afterv (v := (.slice (some ⟨go80, 0, none⟩) x283006_2.length co84)) (v1 := (.slice (some ⟨go80, 0, none⟩) x283006_2.length co84)) (ok := (fun k_ => (P2_7_ k_ ∨ w.heap.size ≤ k_) ∧ k_ ≠ gb280 ∧ k_ ≠ gb281 ∧ k_ ≠ gb282)) (by (with_reducible repeat (first | apply Kd.V_alloc | apply Kd.V_drewN | apply Kd.V_drew)); exact Kd.V_mono HO_283007.out (fun _ hk => ⟨⟨hk.1, ⟨hk.2.2.1, ⟨hk.2.2.2.1, hk.2.2.2.2⟩⟩⟩, hk.2.1⟩)) hg (.inl rfl)); have n3_ := Aside0.mk (blk_grown (g := gb280) (o := .cells #[.string a2_0, .int .i64 a2_1, .int .i64 a2_2, .int .i64 a2_3, .int .i64 a2_4, .int .i64 a2_5, .slice A2_6 l2_6.length c2_6, .slice A2_7 l2_7.length c2_7] 25 (0, 0)) (by (with_reducible repeat (first | refine blk_drewN ?_ _ | refine blk_drew ?_ | refine blk_alloc ?_ _)); exact BK280.out) hg (Kd.R_ne HO_283006.out BK280.out (by decide))); have n4_ := Aside0.mk (blk_grown (g := gb281) (o := .cells #[.string (⟨#[]⟩ : ByteArray), .int .i64 0, .int .i64 0, .int .i64 0, .int .i64 0, .int .i64 0, .slice none 0 0, .slice none 0 0] 25 (0, 0)) (by (with_reducible repeat (first | refine blk_drewN ?_ _ | refine blk_drew ?_ | refine blk_alloc ?_ _)); exact BK281.out) hg (Kd.R_ne HO_283006.out BK281.out (by decide))); have n5_ := Aside0.mk (blk_grown (g := gb282) (o := .cells #[.string x283000_4, .int .i64 x283001_4, .int .i64 x283002_4, .int .i64 x283003_4, .int .i64 a2_4, .int .i64 x283005_4, .slice (some ⟨go80, 0, none⟩) x283006_2.length co84, .slice A2_7 l2_7.length c2_7] 25 (0, 0)) (by (with_reducible repeat (first | refine blk_drewN ?_ _ | refine blk_drew ?_ | refine blk_alloc ?_ _)); exact BK282.out) hg (Kd.R_ne HO_283006.out BK282.out (by decide))); have n6_ := Aside0.mk ((by rw [hw]; exact below_set (HB.out) GB80.out : Below w.heap.size w w86)); clear HO_281007; clear HO_283006; clear HO_283007; clear BK280; clear BK281; clear BK282; clear HB; have HO_281007 := n0_; have HO_283006 := n1_; have HO_283007 := n2_; have BK280 := n3_; have BK281 := n4_; have BK282 := n5_; have HB := n6_; clear n0_ n1_ n2_ n3_ n4_ n5_ n6_; clear hg hw hp_))
            go_roundg k2
            case measure => have := HJ4.out; have := HK2.out; omega
            case rel => exact ⟨(wrap64 (x8_2 + 1)), (y294), (.slice (some ⟨go80, 0, none⟩) x283006_2.length co84), (by first | rfl | (simp; done) | (simp [*]; done)), H', ⟨by have := HJ4.out; have := HK2.out; omega⟩, ⟨by (with_reducible repeat (first | apply Kd.V_alloc | apply Kd.V_drewN | apply Kd.V_drew)); exact Kd.V_mono HO_281007.out (fun _ hk => ⟨hk.1.1, ⟨hk.2, ⟨hk.1.2.1, ⟨hk.1.2.2.1, hk.1.2.2.2⟩⟩⟩⟩)⟩, ⟨by (with_reducible repeat (first | apply Kd.R_alloc | apply Kd.R_drewN | apply Kd.R_drew)); exact HO_283006.out⟩, ⟨by (with_reducible repeat (first | apply Kd.V_alloc | apply Kd.V_drewN | apply Kd.V_drew)); exact Kd.V_mono HO_283007.out (fun _ hk => ⟨hk.1.1, ⟨hk.2, ⟨hk.1.2.1, ⟨hk.1.2.2.1, hk.1.2.2.2⟩⟩⟩⟩)⟩, ⟨by (with_reducible repeat (first | refine blk_drewN ?_ _ | refine blk_drew ?_ | refine blk_alloc ?_ _)); exact BK280.out⟩, ⟨by (with_reducible repeat (first | refine blk_drewN ?_ _ | refine blk_drew ?_ | refine blk_alloc ?_ _)); exact BK281.out⟩, ⟨by (with_reducible repeat (first | refine blk_drewN ?_ _ | refine blk_drew ?_ | refine blk_alloc ?_ _)); exact BK282.out⟩, ⟨by repeat (first | (with_reducible first | exact HB.out | apply below_alloc | apply pw_below_drewN | apply below_drew1 | refine below_set ?_ GE280.out | refine below_set ?_ GE281.out | refine below_set ?_ GE282.out) | exact HB.out)⟩⟩
           ·rw [if_neg c79] at H
            exact absurd H (by simp)
          ·rw [if_neg c78] at H
           have c78b0 : (a1 == 13) = false := beq_eq_false_iff_ne.mpr c78
           have c78b1 : (a1 != 13) = true := bne_iff_ne.mpr c78
           have H' := Aside0.mk H
           clear H
           have hnb87 := NB282_280.out
           have hnc87 := NB280_282.out
           have hnb88 := NB282_281.out
           have hnc88 := NB281_282.out
           obtain ⟨hcz89_0, hcz89_1, hcz89_2, hcz89_3, hcz89_4, hcz89_5, hcz89_6, hcz89_7, hfz89_0, hfz89_1, hfz89_2, hfz89_3, hfz89_4, hfz89_5, hfz89_6, hfz89_7⟩ := blk8_ BK282.out
           obtain ⟨Ao90, co90, eo90⟩ := Kd.R_slice HO_283006.out
           subst eo90
           go_wp2
           go_roundg k2
           case measure => have := HJ4.out; have := HK2.out; omega
           case rel => exact ⟨(wrap64 (x8_2 + 1)), (x283006_2), (.slice Ao90 x283006_2.length co90), (by first | rfl | (simp; done) | (simp [*]; done)), H', ⟨by have := HJ4.out; have := HK2.out; omega⟩, ⟨by (with_reducible repeat (first | apply Kd.V_alloc | apply Kd.V_drewN | apply Kd.V_drew)); exact HO_281007.out⟩, ⟨by (with_reducible repeat (first | apply Kd.R_alloc | apply Kd.R_drewN | apply Kd.R_drew)); exact HO_283006.out⟩, ⟨by (with_reducible repeat (first | apply Kd.V_alloc | apply Kd.V_drewN | apply Kd.V_drew)); exact HO_283007.out⟩, ⟨by (with_reducible repeat (first | refine blk_drewN ?_ _ | refine blk_drew ?_ | refine blk_alloc ?_ _)); exact BK280.out⟩, ⟨by (with_reducible repeat (first | refine blk_drewN ?_ _ | refine blk_drew ?_ | refine blk_alloc ?_ _)); exact BK281.out⟩, ⟨by (with_reducible repeat (first | refine blk_drewN ?_ _ | refine blk_drew ?_ | refine blk_alloc ?_ _)); exact BK282.out⟩, ⟨by repeat (first | (with_reducible first | exact HB.out | apply below_alloc | apply pw_below_drewN | apply below_drew1 | refine below_set ?_ GE280.out | refine below_set ?_ GE281.out | refine below_set ?_ GE282.out) | exact HB.out)⟩⟩
      ·rw [if_neg c45] at H
       have c45b0 : decide (x8_2 < (x283006_2.length : Int)) = false := decide_eq_false c45
       clear c45
       simp only [Option.some.injEq, Prod.mk.injEq] at H
       obtain ⟨rfl, rfl, rfl, rfl, rfl, rfl, rfl, rfl⟩ := H
       have hnb91 := NB282_280.out
       have hnc91 := NB280_282.out
       have hnb92 := NB282_281.out
       have hnc92 := NB281_282.out
       obtain ⟨hcz93_0, hcz93_1, hcz93_2, hcz93_3, hcz93_4, hcz93_5, hcz93_6, hcz93_7, hfz93_0, hfz93_1, hfz93_2, hfz93_3, hfz93_4, hfz93_5, hfz93_6, hfz93_7⟩ := blk8_ BK282.out
       obtain ⟨Ao94, co94, eo94⟩ := Kd.R_slice HO_283006.out
       subst eo94
       have hnb95 := NB281_280.out
       have hnc95 := NB280_281.out
       obtain ⟨hcz96_0, hcz96_1, hcz96_2, hcz96_3, hcz96_4, hcz96_5, hcz96_6, hcz96_7, hfz96_0, hfz96_1, hfz96_2, hfz96_3, hfz96_4, hfz96_5, hfz96_6, hfz96_7⟩ := blk8_ BK281.out
       go_wp2
       refine bodyPost_ret (results_cell_row rfl _ _ gb281 25 #[.string x283000_4, .int .i64 x283001_4, .int .i64 x283002_4, .int .i64 x283003_4, .int .i64 a2_4, .int .i64 x283005_4, .slice Ao94 x283006_2.length co94, .slice A2_7 l2_7.length c2_7] (0, 0) _ rfl (by (with_reducible repeat (first | refine blk_drewN ?_ _ | refine blk_drew ?_ | refine blk_alloc ?_ _)); refine blk_put (cs := #[.string x283000_4, .int .i64 x283001_4, .int .i64 x283002_4, .int .i64 x283003_4, .int .i64 a2_4, .int .i64 x283005_4, .slice Ao94 x283006_2.length co94, .slice none 0 0]) ?_ 7 _ rfl; (with_reducible repeat (first | refine blk_drewN ?_ _ | refine blk_drew ?_ | refine blk_alloc ?_ _)); refine blk_put (cs := #[.string x283000_4, .int .i64 x283001_4, .int .i64 x283002_4, .int .i64 x283003_4, .int .i64 a2_4, .int .i64 x283005_4, .slice none 0 0, .slice none 0 0]) ?_ 6 _ rfl; (with_reducible repeat (first | refine blk_drewN ?_ _ | refine blk_drew ?_ | refine blk_alloc ?_ _)); refine blk_put (cs := #[.string x283000_4, .int .i64 x283001_4, .int .i64 x283002_4, .int .i64 x283003_4, .int .i64 a2_4, .int .i64 0, .slice none 0 0, .slice none 0 0]) ?_ 5 _ rfl; (with_reducible repeat (first | refine blk_drewN ?_ _ | refine blk_drew ?_ | refine blk_alloc ?_ _)); refine blk_put (cs := #[.string x283000_4, .int .i64 x283001_4, .int .i64 x283002_4, .int .i64 x283003_4, .int .i64 0, .int .i64 0, .slice none 0 0, .slice none 0 0]) ?_ 4 _ rfl; (with_reducible repeat (first | refine blk_drewN ?_ _ | refine blk_drew ?_ | refine blk_alloc ?_ _)); refine blk_put (cs := #[.string x283000_4, .int .i64 x283001_4, .int .i64 x283002_4, .int .i64 0, .int .i64 0, .int .i64 0, .slice none 0 0, .slice none 0 0]) ?_ 3 _ rfl; (with_reducible repeat (first | refine blk_drewN ?_ _ | refine blk_drew ?_ | refine blk_alloc ?_ _)); refine blk_put (cs := #[.string x283000_4, .int .i64 x283001_4, .int .i64 0, .int .i64 0, .int .i64 0, .int .i64 0, .slice none 0 0, .slice none 0 0]) ?_ 2 _ rfl; (with_reducible repeat (first | refine blk_drewN ?_ _ | refine blk_drew ?_ | refine blk_alloc ?_ _)); refine blk_put (cs := #[.string x283000_4, .int .i64 0, .int .i64 0, .int .i64 0, .int .i64 0, .int .i64 0, .slice none 0 0, .slice none 0 0]) ?_ 1 _ rfl; (with_reducible repeat (first | refine blk_drewN ?_ _ | refine blk_drew ?_ | refine blk_alloc ?_ _)); refine blk_put (cs := #[.string (⟨#[]⟩ : ByteArray), .int .i64 0, .int .i64 0, .int .i64 0, .int .i64 0, .int .i64 0, .slice none 0 0, .slice none 0 0]) ?_ 0 _ rfl; (with_reducible repeat (first | refine blk_drewN ?_ _ | refine blk_drew ?_ | refine blk_alloc ?_ _)); exact BK281.out) Try.underlying25 rfl (by kernel_rfl)) rfl ?_
       exact ⟨_, _, by first | rfl | (simp [errW_none, errW_some] <;> rfl) | (simp [*, errW_none, errW_some] <;> rfl), by (with_reducible repeat (first | apply Kd.R_alloc | apply Kd.R_drewN | apply Kd.R_drew)); exact Kd.R_mono (Kd.R_far (p := ⟨gb281, 7, none⟩) (Kd.R_far (p := ⟨gb281, 6, none⟩) (Kd.R_far (p := ⟨gb281, 5, none⟩) (Kd.R_far (p := ⟨gb281, 4, none⟩) (Kd.R_far (p := ⟨gb281, 3, none⟩) (Kd.R_far (p := ⟨gb281, 2, none⟩) (Kd.R_far (p := ⟨gb281, 1, none⟩) (Kd.R_far (p := ⟨gb281, 0, none⟩) (Kd.R_types HO_283006.out BK281.out (by decide)) (fun _ hk => hk.2) (.string x283000_4)) (fun _ hk => hk.2) (.int .i64 x283001_4)) (fun _ hk => hk.2) (.int .i64 x283002_4)) (fun _ hk => hk.2) (.int .i64 x283003_4)) (fun _ hk => hk.2) (.int .i64 a2_4)) (fun _ hk => hk.2) (.int .i64 x283005_4)) (fun _ hk => hk.2) (.slice Ao94 x283006_2.length co94)) (fun _ hk => hk.2) (.slice A2_7 l2_7.length c2_7)) (fun _ hk => hk.1), by (with_reducible repeat (first | apply Kd.V_alloc | apply Kd.V_drewN | apply Kd.V_drew)); exact Kd.V_mono (Kd.V_far (p := ⟨gb281, 7, none⟩) (Kd.V_far (p := ⟨gb281, 6, none⟩) (Kd.V_far (p := ⟨gb281, 5, none⟩) (Kd.V_far (p := ⟨gb281, 4, none⟩) (Kd.V_far (p := ⟨gb281, 3, none⟩) (Kd.V_far (p := ⟨gb281, 2, none⟩) (Kd.V_far (p := ⟨gb281, 1, none⟩) (Kd.V_far (p := ⟨gb281, 0, none⟩) (Kd.V_mono HO_283007.out (fun k_ hk => (⟨hk, hk.2.2.2.1⟩ : _ ∧ k_ ≠ gb281))) (fun _ hk => hk.2) (.string x283000_4)) (fun _ hk => hk.2) (.int .i64 x283001_4)) (fun _ hk => hk.2) (.int .i64 x283002_4)) (fun _ hk => hk.2) (.int .i64 x283003_4)) (fun _ hk => hk.2) (.int .i64 a2_4)) (fun _ hk => hk.2) (.int .i64 x283005_4)) (fun _ hk => hk.2) (.slice Ao94 x283006_2.length co94)) (fun _ hk => hk.2) (.slice A2_7 l2_7.length c2_7)) (fun _ hk => ⟨hk.1.1, hk.1.2.1⟩), by repeat (first | (with_reducible first | exact HB.out | apply below_alloc | apply pw_below_drewN | apply below_drew1 | refine below_set ?_ GE280.out | refine below_set ?_ GE281.out | refine below_set ?_ GE282.out) | exact HB.out)⟩
 ·rw [if_neg c4] at H
  exact absurd H (by simp)

end Go.Proofs.Ytmapllahhpdedaa.P
