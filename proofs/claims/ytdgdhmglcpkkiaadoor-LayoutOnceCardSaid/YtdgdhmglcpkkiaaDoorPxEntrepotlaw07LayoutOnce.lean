/- Written by a program of this session, after the kit's print: Lean functions for Go functions, and the proof that the machine comes to their answers. -/
import Derived.Test.YtdgdhmglcpkkiaaDoorPx0
import Derived.Test.YtdgdhmglcpkkiaaDoorPxEntrepotlaw07shown
import Derived.Test.YtdgdhmglcpkkiaaDoorMlb
namespace Go.Proofs.YtdgdhmglcpkkiaaDoor.P
open Go.RowKit Go.Proofs.YtdgdhmglcpkkiaaDoorW.PrintWords Go.Proofs.YtdgdhmglcpkkiaaDoorW.PrintLast Go.Proofs.YtdgdhmglcpkkiaaDoorW.PrintMore
attribute [local go_sem] max2_int min2_int max_two min_two max_three min_three max_four min_four   -- for this text's walks alone
set_option linter.unusedVariables false
set_option linter.unusedSimpArgs false

/-! ### entrepotlaw07_LayoutOnce: function 6 -/
mutual
def entrepotlaw07_LayoutOnce.l0 : Nat → Int → Int → Int → List Int → Int → Option (Bool)
 | 0, _, _, _, _, _ => none
 | k + 1, x5, x6, x7, x8, x9 => if x9 < x7 then (if x8.length < 17592186044416 then (entrepotlaw07_LayoutOnce.l0 k x5 x6 x7 (x8 ++ [0]) (wrap64 (x9 + 1))) else (none)) else (entrepotlaw07_LayoutOnce.l1 k x5 x6 x7 x8 0)
def entrepotlaw07_LayoutOnce.l1 : Nat → Int → Int → Int → List Int → Int → Option (Bool)
 | 0, _, _, _, _, _ => none
 | k + 1, x5, x6, x7, x8, x10 => if x10 < x6 then (entrepotlaw07_LayoutOnce.l2 k x5 x6 x7 x8 x10 0) else (entrepotlaw07_LayoutOnce.l3 k x7 x8 0)
def entrepotlaw07_LayoutOnce.l2 : Nat → Int → Int → Int → List Int → Int → Int → Option (Bool)
 | 0, _, _, _, _, _, _ => none
 | k + 1, x5, x6, x7, x8, x10, x11 => if x11 < x6 then ((layout_Index.f k x5 x6 x10 x11).bind fun t244 => (if t244 < (-1) then (entrepotlaw07_LayoutOnce.j3 k x5 x6 x7 x8 x10 x11 t244 true) else (if t244 ≥ x7 then (entrepotlaw07_LayoutOnce.j3 k x5 x6 x7 x8 x10 x11 t244 true) else (if t244 = (-1) then (if x10 = x11 then (if x5 = 1 then (entrepotlaw07_LayoutOnce.j3 k x5 x6 x7 x8 x10 x11 t244 true) else ((layout_Index.f k x5 x6 x11 x10).bind fun t245 => (entrepotlaw07_LayoutOnce.j3 k x5 x6 x7 x8 x10 x11 t244 (t244 != t245)))) else (entrepotlaw07_LayoutOnce.j3 k x5 x6 x7 x8 x10 x11 t244 true)) else (if x5 = 1 then (entrepotlaw07_LayoutOnce.j3 k x5 x6 x7 x8 x10 x11 t244 false) else ((layout_Index.f k x5 x6 x11 x10).bind fun t246 => (entrepotlaw07_LayoutOnce.j3 k x5 x6 x7 x8 x10 x11 t244 (t244 != t246)))))))) else (entrepotlaw07_LayoutOnce.l1 k x5 x6 x7 x8 (wrap64 (x10 + 1)))
def entrepotlaw07_LayoutOnce.j3 : Nat → Int → Int → Int → List Int → Int → Int → Int → Bool → Option (Bool)
 | 0, _, _, _, _, _, _, _, _ => none
 | k + 1, x5, x6, x7, x8, x10, x11, x12, x81 => if x81 = true then (some false) else (if x12 ≥ 0 then (if x10 ≤ x11 then (if 0 ≤ x12 then (if x12 < (x8.length : Int) then (entrepotlaw07_LayoutOnce.l2 k x5 x6 x7 (x8.set (x12 : Int).toNat (wrap64 ((rd x8 x12) + 1))) x10 (wrap64 (x11 + 1))) else (none)) else (none)) else (if x5 = 1 then (if 0 ≤ x12 then (if x12 < (x8.length : Int) then (entrepotlaw07_LayoutOnce.l2 k x5 x6 x7 (x8.set (x12 : Int).toNat (wrap64 ((rd x8 x12) + 1))) x10 (wrap64 (x11 + 1))) else (none)) else (none)) else (entrepotlaw07_LayoutOnce.l2 k x5 x6 x7 x8 x10 (wrap64 (x11 + 1))))) else (entrepotlaw07_LayoutOnce.l2 k x5 x6 x7 x8 x10 (wrap64 (x11 + 1))))
def entrepotlaw07_LayoutOnce.l3 : Nat → Int → List Int → Int → Option (Bool)
 | 0, _, _, _ => none
 | k + 1, x7, x8, x13 => if x13 < x7 then (if 0 ≤ x13 then (if x13 < (x8.length : Int) then (if (rd x8 x13) = 1 then (entrepotlaw07_LayoutOnce.l3 k x7 x8 (wrap64 (x13 + 1))) else (some false)) else (none)) else (none)) else ((entrepotlaw07_shown.f k).bind fun t252 => (some t252))
end
def entrepotlaw07_LayoutOnce.f (k : Nat) (a0 : Int) (a1 : Int) : Option (Bool) := (layout_Count.f (wrap64 (1 + (Int.tmod (wrap64 (a0)) 7))) (wrap64 (1 + (Int.tmod (wrap64 (a1)) 8)))).bind fun t237 => (entrepotlaw07_LayoutOnce.l0 k (wrap64 (1 + (Int.tmod (wrap64 (a0)) 7))) (wrap64 (1 + (Int.tmod (wrap64 (a1)) 8))) t237 (([] : List Int)) 0)
theorem entrepotlaw07_LayoutOnce.mono_l : ∀ k, (∀ y0 y1 y2 y3 y4, LeO (entrepotlaw07_LayoutOnce.l0 k y0 y1 y2 y3 y4) (entrepotlaw07_LayoutOnce.l0 (k + 1) y0 y1 y2 y3 y4)) ∧ (∀ y0 y1 y2 y3 y4, LeO (entrepotlaw07_LayoutOnce.l1 k y0 y1 y2 y3 y4) (entrepotlaw07_LayoutOnce.l1 (k + 1) y0 y1 y2 y3 y4)) ∧ (∀ y0 y1 y2 y3 y4 y5, LeO (entrepotlaw07_LayoutOnce.l2 k y0 y1 y2 y3 y4 y5) (entrepotlaw07_LayoutOnce.l2 (k + 1) y0 y1 y2 y3 y4 y5)) ∧ (∀ y0 y1 y2 y3 y4 y5 y6 y7, LeO (entrepotlaw07_LayoutOnce.j3 k y0 y1 y2 y3 y4 y5 y6 y7) (entrepotlaw07_LayoutOnce.j3 (k + 1) y0 y1 y2 y3 y4 y5 y6 y7)) ∧ (∀ y0 y1 y2, LeO (entrepotlaw07_LayoutOnce.l3 k y0 y1 y2) (entrepotlaw07_LayoutOnce.l3 (k + 1) y0 y1 y2))
 | 0 => ⟨fun _ _ _ _ _ r h => by simp [entrepotlaw07_LayoutOnce.l0] at h, fun _ _ _ _ _ r h => by simp [entrepotlaw07_LayoutOnce.l1] at h, fun _ _ _ _ _ _ r h => by simp [entrepotlaw07_LayoutOnce.l2] at h, fun _ _ _ _ _ _ _ _ r h => by simp [entrepotlaw07_LayoutOnce.j3] at h, fun _ _ _ r h => by simp [entrepotlaw07_LayoutOnce.l3] at h⟩
 | k + 1 => by
  obtain ⟨ih0, ih1, ih2, ih3, ih4⟩ := entrepotlaw07_LayoutOnce.mono_l k
  refine ⟨?_, ?_, ?_, ?_, ?_⟩ <;> intros
  all_goals first | unfold entrepotlaw07_LayoutOnce.l0 | unfold entrepotlaw07_LayoutOnce.l1 | unfold entrepotlaw07_LayoutOnce.l2 | unfold entrepotlaw07_LayoutOnce.j3 | unfold entrepotlaw07_LayoutOnce.l3
  all_goals repeat' first
  | (with_reducible exact ih0 _ _ _ _ _)
  | (with_reducible exact ih1 _ _ _ _ _)
  | (with_reducible exact ih2 _ _ _ _ _ _)
  | (with_reducible exact ih3 _ _ _ _ _ _ _ _)
  | (with_reducible exact ih4 _ _ _)
  | (with_reducible exact entrepotlaw07_shown.mono _)
  | (with_reducible exact layout_Index.mono _ _ _ _ _)
  | (with_reducible exact LeO.refl _)
  | (with_reducible exact LeO.none _)
  | (with_reducible refine LeO.ite ?_ ?_)
  | (with_reducible refine LeO.bind ?_ (fun _ => ?_))
  | exact ih0 _ _ _ _ _
  | exact ih1 _ _ _ _ _
  | exact ih2 _ _ _ _ _ _
  | exact ih3 _ _ _ _ _ _ _ _
  | exact ih4 _ _ _
  | exact entrepotlaw07_shown.mono _
  | exact layout_Index.mono _ _ _ _ _
  | exact LeO.none _
  | refine LeO.ite ?_ ?_
  | refine LeO.bind ?_ (fun _ => ?_)
theorem entrepotlaw07_LayoutOnce.mono : ∀ a0 a1 k, LeO (entrepotlaw07_LayoutOnce.f k a0 a1) (entrepotlaw07_LayoutOnce.f (k + 1) a0 a1) := by
 intro a0 a1 k
 obtain ⟨ih0, ih1, ih2, ih3, ih4⟩ := entrepotlaw07_LayoutOnce.mono_l k
 unfold entrepotlaw07_LayoutOnce.f
 repeat' first
   | (with_reducible exact ih0 _ _ _ _ _)
   | (with_reducible exact ih1 _ _ _ _ _)
   | (with_reducible exact ih2 _ _ _ _ _ _)
   | (with_reducible exact ih3 _ _ _ _ _ _ _ _)
   | (with_reducible exact ih4 _ _ _)
   | (with_reducible exact entrepotlaw07_shown.mono _)
   | (with_reducible exact layout_Index.mono _ _ _ _ _)
   | (with_reducible exact LeO.refl _)
   | (with_reducible exact LeO.none _)
   | (with_reducible refine LeO.ite ?_ ?_)
   | (with_reducible refine LeO.bind ?_ (fun _ => ?_))
   | exact ih0 _ _ _ _ _
   | exact ih1 _ _ _ _ _
   | exact ih2 _ _ _ _ _ _
   | exact ih3 _ _ _ _ _ _ _ _
   | exact ih4 _ _ _
   | exact entrepotlaw07_shown.mono _
   | exact layout_Index.mono _ _ _ _ _
   | exact LeO.none _
   | refine LeO.ite ?_ ?_
   | refine LeO.bind ?_ (fun _ => ?_)
set_option maxHeartbeats 8000000 in
set_option maxRecDepth 100000 in
theorem entrepotlaw07_LayoutOnce.callsT (k : Nat) (a0 : Int) (a1 : Int) (r : Bool) (w : World) (ht : Tab w) (h : entrepotlaw07_LayoutOnce.f k a0 a1 = some r) (hr_ : Aside0 (r = true)) :
  Calls Tryd.prog 6 #[.int .u8 a0, .int .u8 a1] w fun e w' => e = .returned (.bool r) ∧ Below w.heap.size w w' := by
 have HTab_ := Aside0.mk ht
 clear ht
 have HB := Aside0.mk (Below.refl w.heap.size w)
 have H : ((layout_Count.f (wrap64 (1 + (Int.tmod (wrap64 (a0)) 7))) (wrap64 (1 + (Int.tmod (wrap64 (a1)) 8)))).bind fun t237 => (entrepotlaw07_LayoutOnce.l0 k (wrap64 (1 + (Int.tmod (wrap64 (a0)) 7))) (wrap64 (1 + (Int.tmod (wrap64 (a1)) 8))) t237 (([] : List Int)) 0)) = some r := h
 clear h
 replace H := Option.bind_eq_some_iff.mp H
 obtain ⟨t237, A30, H⟩ := H
 replace H : (entrepotlaw07_LayoutOnce.l0 k (wrap64 (1 + (Int.tmod (wrap64 (a0)) 7))) (wrap64 (1 + (Int.tmod (wrap64 (a1)) 8))) t237 (([] : List Int)) 0) = some r := H
 have A3 := Aside0.mk A30
 clear A30
 obtain ⟨y238, hy238⟩ : ∃ y_ : List Int, y_ = (([] : List Int)) := ⟨_, rfl⟩
 replace H : (entrepotlaw07_LayoutOnce.l0 k (wrap64 (1 + (Int.tmod (wrap64 (a0)) 7))) (wrap64 (1 + (Int.tmod (wrap64 (a1)) 8))) t237 y238 0) = some r := by first | (rw [hy238]; with_reducible exact H) | (have H2_ := (Option.bind_some _ _).symm.trans H; rw [hy238]; with_reducible exact H2_) | (have H2_ := (Option.bind_some _ _).symm.trans H; with_reducible exact H2_) | with_reducible exact H | (rw [hy238]; exact H) | exact H
 have Ny238 := Aside0.mk hy238
 clear hy238
 have H' := Aside0.mk H
 clear H
 go_enter Tryd.func6, Tryd.ntmps6
 go_wp2_with (first | ((with_reducible refine gate_callee (f := 15) rfl ?_); refine goesL_ (some 24) rfl rfl Tryd.func15 (by kernel_rfl) rfl #[.int .i64 (wrap64 (1 + (Int.tmod (wrap64 (a0)) 7))), .int .i64 (wrap64 (1 + (Int.tmod (wrap64 (a1)) 8)))] rfl (by (try simp only [List.map_toArray, List.map_cons, List.map_nil]); first | done | rfl | (simp only [List.length_drop, List.length_take]; rfl)) ?_; (with_reducible refine (layout_Count.calls (wrap64 (1 + (Int.tmod (wrap64 (a0)) 7))) (wrap64 (1 + (Int.tmod (wrap64 (a1)) 8))) t237 _ (tab_below HTab_.out (by repeat (first | (with_reducible first | exact HB.out | apply below_alloc | apply pw_below_drewN | apply below_drew1 | (refine below_set ?_ ?_; rotate_left; · assumption)) | exact HB.out))) A3.out).mono ?_); rintro e w4 ⟨rfl, hb⟩; refine ⟨_, rfl, ?_⟩; have n0_ := Aside0.mk (below_step (by repeat (first | (with_reducible first | exact HB.out | apply below_alloc | apply pw_below_drewN | apply below_drew1) | exact HB.out)) hb); clear HB; have HB := n0_; clear n0_; (try clear hb); (try clear hb2); (try clear hk); (try clear hi)) | ((with_reducible refine gate_dst (N := 25) rfl ?_); refine Kd.R_lit (Kd.int .i64) _ 3 ?hg (N := 25) ?hd (xs := ([] : List Int)) (inner := []) (ok := fun _ => True) (okp := fun _ => True) ?hr ?hp (fun _ hk => hk) trivial (Below.refl _ _) (Nat.le_refl _) (by simp) ?_; (case hd => rfl); (case hg => rfl); (case hr => first | (go_simp; done) | (go_simp; rfl)); (case hp => exact (Reps.none _ _)); intro v239 w5 ho6 hb hg_ hnew_; clear hg_ hnew_; (first | rw [← Ny238.out] at ho6 | (simp only [Int.reduceToNat] at ho6; rw [← Ny238.out] at ho6)); have n0_ := Aside0.mk (Kd.R_lower ho6 (below_size (by repeat (first | (with_reducible first | exact HB.out | apply below_alloc | apply pw_below_drewN | apply below_drew1) | exact HB.out)))); have n1_ := Aside0.mk (below_step (by repeat (first | (with_reducible first | exact HB.out | apply below_alloc | apply pw_below_drewN | apply below_drew1) | exact HB.out)) hb); clear HB; have HO240 := n0_; have HB := n1_; clear n0_ n1_; clear hb ho6))
 go_loopg [8, 9] k (fun kq v8 v9 w' => ∃ (x8_1 : List Int) (x9_1 : Int), v9 = .int .i64 x9_1 ∧ Aside0 (entrepotlaw07_LayoutOnce.l0 kq (wrap64 (1 + (Int.tmod (wrap64 (a0)) 7))) (wrap64 (1 + (Int.tmod (wrap64 (a1)) 8))) t237 x8_1 x9_1 = some r) ∧ Aside0 (kq ≤ k) ∧ Aside0 (Kd.R (Kd.int .i64) 3 w' w.heap.size (fun _ => True) v8 x8_1) ∧ Aside0 (Below w.heap.size w w'))
 case atStart => exact ⟨(y238), (0), (by first | rfl | (simp; done) | (simp [*]; done)), H', ⟨Nat.le_refl _⟩, ⟨by (with_reducible repeat (first | apply Kd.R_alloc | apply Kd.R_drewN | apply Kd.R_drew)); exact HO240.out⟩, ⟨by repeat (first | (with_reducible first | exact HB.out | apply below_alloc | apply pw_below_drewN | apply below_drew1) | exact HB.out)⟩⟩
 case round =>
  clear H'
  obtain ⟨x8_1, x9_1, rfl, HA, HK1, HO_8, HB⟩ := hrel
  cases gk with
  | zero => exact absurd HA.out (by simp [entrepotlaw07_LayoutOnce.l0])
  | succ k1 =>
   have H := HA.out
   clear HA
   simp only [entrepotlaw07_LayoutOnce.l0] at H
   by_cases c7 : x9_1 < t237
   ·rw [if_pos c7] at H
    have c7b0 : decide (x9_1 < t237) = true := decide_eq_true c7
    clear c7
    by_cases c8 : x8_1.length < 17592186044416
    ·rw [if_pos c8] at H
     have LMc8 := Aside0.mk c8
     clear c8
     obtain ⟨y241, hy241⟩ : ∃ y_ : List Int, y_ = (x8_1 ++ [0]) := ⟨_, rfl⟩
     replace H : (entrepotlaw07_LayoutOnce.l0 k1 (wrap64 (1 + (Int.tmod (wrap64 (a0)) 7))) (wrap64 (1 + (Int.tmod (wrap64 (a1)) 8))) t237 y241 (wrap64 (x9_1 + 1))) = some r := by first | (rw [hy241]; with_reducible exact H) | (have H2_ := (Option.bind_some _ _).symm.trans H; rw [hy241]; with_reducible exact H2_) | (have H2_ := (Option.bind_some _ _).symm.trans H; with_reducible exact H2_) | with_reducible exact H | (rw [hy241]; exact H) | exact H
     have Ny241 := Aside0.mk hy241
     clear hy241
     have H' := Aside0.mk H
     clear H
     go_wp2_with (first | ((with_reducible refine gate_builtin (b := .append) (xs := #[.tmp 31, .tmp 32]) rfl ?_); at_builtin; refine Kd.R_append (Kd.int .i64) (w0 := w) w.heap.size rfl (.tmp 31) (.tmp 32) 22 3 (.int .i64 0) 8 rfl Tryd.underlying22 info3 rfl (by decide) (by omega) u8 x8_1 0 [.int .i64 0] (fun _ => True) (fun _ => False) rfl rfl ?aP (fun _ hk => hk.elim) ?aF ?aO ?aB ?aS ?aL ?_; (case aP => exact rfl); (case aB => exact (by repeat (first | (with_reducible first | exact HB.out | apply below_alloc | apply pw_below_drewN | apply below_drew1) | exact HB.out))); (case aF => exact (fun _ _ => trivial)); (case aO => exact (by (with_reducible repeat (first | apply Kd.R_alloc | apply Kd.R_drewN | apply Kd.R_drew)); exact HO_8.out)); (case aS => exact (below_size (by repeat (first | (with_reducible first | exact HB.out | apply below_alloc | apply pw_below_drewN | apply below_drew1) | exact HB.out)))); (case aL => have := LMc8.out; omega); intro v242 w9 ho hb hg hat; rw [← Ny241.out] at ho; have n0_ := Aside0.mk (hb); have n1_ := Aside0.mk (ho); clear HB; clear HO_8; have HB := n0_; have HO243 := n1_; clear n0_ n1_; clear ho hb hg hat))
     go_roundg k1
     case measure => have := HK1.out; omega
     case rel => exact ⟨(y241), (wrap64 (x9_1 + 1)), (by first | rfl | (simp; done) | (simp [*]; done)), H', ⟨by have := HK1.out; omega⟩, ⟨by (with_reducible repeat (first | apply Kd.R_alloc | apply Kd.R_drewN | apply Kd.R_drew)); exact HO243.out⟩, ⟨by repeat (first | (with_reducible first | exact HB.out | apply below_alloc | apply pw_below_drewN | apply below_drew1) | exact HB.out)⟩⟩
    ·rw [if_neg c8] at H
     exact absurd H (by simp)
   ·rw [if_neg c7] at H
    have c7b0 : decide (x9_1 < t237) = false := decide_eq_false c7
    clear c7
    have H' := Aside0.mk H
    clear H
    go_wp2
    go_loopg [10] k1 (fun kq v10 w' => ∃ (x8_2 : List Int) (x10_2 : Int), v10 = .int .i64 x10_2 ∧ Aside0 (entrepotlaw07_LayoutOnce.l1 kq (wrap64 (1 + (Int.tmod (wrap64 (a0)) 7))) (wrap64 (1 + (Int.tmod (wrap64 (a1)) 8))) t237 x8_2 x10_2 = some r) ∧ Aside0 (kq ≤ k1) ∧ Aside0 (Kd.R (Kd.int .i64) 3 w' w.heap.size (fun _ => True) u8 x8_2) ∧ Aside0 (Below w.heap.size w w'))
    case atStart => exact ⟨(x8_1), (0), (by first | rfl | (simp; done) | (simp [*]; done)), H', ⟨Nat.le_refl _⟩, ⟨by (with_reducible repeat (first | apply Kd.R_alloc | apply Kd.R_drewN | apply Kd.R_drew)); exact HO_8.out⟩, ⟨by repeat (first | (with_reducible first | exact HB.out | apply below_alloc | apply pw_below_drewN | apply below_drew1) | exact HB.out)⟩⟩
    case round =>
     clear H'
     (try clear c7); (try clear c7b0)
     obtain ⟨x8_2, x10_2, rfl, HA, HK2, HO_8, HB⟩ := hrel
     cases gk with
     | zero => exact absurd HA.out (by simp [entrepotlaw07_LayoutOnce.l1])
     | succ k2 =>
      have H := HA.out
      clear HA
      simp only [entrepotlaw07_LayoutOnce.l1] at H
      by_cases c10 : x10_2 < (wrap64 (1 + (Int.tmod (wrap64 (a1)) 8)))
      ·rw [if_pos c10] at H
       have c10b0 : decide (x10_2 < (wrap64 (1 + (Int.tmod (wrap64 (a1)) 8)))) = true := decide_eq_true c10
       clear c10
       have H' := Aside0.mk H
       clear H
       go_wp2
       go_loopg [11] k2 (fun kq v11 w' => ∃ (x8_3 : List Int) (x11_3 : Int), v11 = .int .i64 x11_3 ∧ Aside0 (entrepotlaw07_LayoutOnce.l2 kq (wrap64 (1 + (Int.tmod (wrap64 (a0)) 7))) (wrap64 (1 + (Int.tmod (wrap64 (a1)) 8))) t237 x8_3 x10_2 x11_3 = some r) ∧ Aside0 (kq ≤ k2) ∧ Aside0 (Kd.R (Kd.int .i64) 3 w' w.heap.size (fun _ => True) u8 x8_3) ∧ Aside0 (Below w.heap.size w w'))
       case atStart => exact ⟨(x8_2), (0), (by first | rfl | (simp; done) | (simp [*]; done)), H', ⟨Nat.le_refl _⟩, ⟨by (with_reducible repeat (first | apply Kd.R_alloc | apply Kd.R_drewN | apply Kd.R_drew)); exact HO_8.out⟩, ⟨by repeat (first | (with_reducible first | exact HB.out | apply below_alloc | apply pw_below_drewN | apply below_drew1) | exact HB.out)⟩⟩
       case round =>
        clear H'
        (try clear c10); (try clear c10b0)
        obtain ⟨x8_3, x11_3, rfl, HA, HK3, HO_8, HB⟩ := hrel
        cases gk with
        | zero => exact absurd HA.out (by simp [entrepotlaw07_LayoutOnce.l2])
        | succ k3 =>
         have H := HA.out
         clear HA
         simp only [entrepotlaw07_LayoutOnce.l2] at H
         by_cases c11 : x11_3 < (wrap64 (1 + (Int.tmod (wrap64 (a1)) 8)))
         ·rw [if_pos c11] at H
          have c11b0 : decide (x11_3 < (wrap64 (1 + (Int.tmod (wrap64 (a1)) 8)))) = true := decide_eq_true c11
          clear c11
          replace H := Option.bind_eq_some_iff.mp H
          obtain ⟨t244, A120, H⟩ := H
          replace H : (if t244 < (-1) then (entrepotlaw07_LayoutOnce.j3 k3 (wrap64 (1 + (Int.tmod (wrap64 (a0)) 7))) (wrap64 (1 + (Int.tmod (wrap64 (a1)) 8))) t237 x8_3 x10_2 x11_3 t244 true) else (if t244 ≥ t237 then (entrepotlaw07_LayoutOnce.j3 k3 (wrap64 (1 + (Int.tmod (wrap64 (a0)) 7))) (wrap64 (1 + (Int.tmod (wrap64 (a1)) 8))) t237 x8_3 x10_2 x11_3 t244 true) else (if t244 = (-1) then (if x10_2 = x11_3 then (if (wrap64 (1 + (Int.tmod (wrap64 (a0)) 7))) = 1 then (entrepotlaw07_LayoutOnce.j3 k3 (wrap64 (1 + (Int.tmod (wrap64 (a0)) 7))) (wrap64 (1 + (Int.tmod (wrap64 (a1)) 8))) t237 x8_3 x10_2 x11_3 t244 true) else ((layout_Index.f k3 (wrap64 (1 + (Int.tmod (wrap64 (a0)) 7))) (wrap64 (1 + (Int.tmod (wrap64 (a1)) 8))) x11_3 x10_2).bind fun t245 => (entrepotlaw07_LayoutOnce.j3 k3 (wrap64 (1 + (Int.tmod (wrap64 (a0)) 7))) (wrap64 (1 + (Int.tmod (wrap64 (a1)) 8))) t237 x8_3 x10_2 x11_3 t244 (t244 != t245)))) else (entrepotlaw07_LayoutOnce.j3 k3 (wrap64 (1 + (Int.tmod (wrap64 (a0)) 7))) (wrap64 (1 + (Int.tmod (wrap64 (a1)) 8))) t237 x8_3 x10_2 x11_3 t244 true)) else (if (wrap64 (1 + (Int.tmod (wrap64 (a0)) 7))) = 1 then (entrepotlaw07_LayoutOnce.j3 k3 (wrap64 (1 + (Int.tmod (wrap64 (a0)) 7))) (wrap64 (1 + (Int.tmod (wrap64 (a1)) 8))) t237 x8_3 x10_2 x11_3 t244 false) else ((layout_Index.f k3 (wrap64 (1 + (Int.tmod (wrap64 (a0)) 7))) (wrap64 (1 + (Int.tmod (wrap64 (a1)) 8))) x11_3 x10_2).bind fun t246 => (entrepotlaw07_LayoutOnce.j3 k3 (wrap64 (1 + (Int.tmod (wrap64 (a0)) 7))) (wrap64 (1 + (Int.tmod (wrap64 (a1)) 8))) t237 x8_3 x10_2 x11_3 t244 (t244 != t246))))))) = some r := H
          have A12 := Aside0.mk A120
          clear A120
          have HC13 := Aside0.mk H
          clear H
          go_upto_region 16 with (first | ((with_reducible refine gate_callee (f := 16) rfl ?_); refine goesL_ (some 48) rfl rfl Tryd.func16 (by kernel_rfl) rfl #[.int .i64 (wrap64 (1 + (Int.tmod (wrap64 (a0)) 7))), .int .i64 (wrap64 (1 + (Int.tmod (wrap64 (a1)) 8))), .int .i64 x10_2, .int .i64 x11_3] rfl (by (try simp only [List.map_toArray, List.map_cons, List.map_nil]); first | done | rfl | (simp only [List.length_drop, List.length_take]; rfl)) ?_; (with_reducible refine (layout_Index.calls k3 (wrap64 (1 + (Int.tmod (wrap64 (a0)) 7))) (wrap64 (1 + (Int.tmod (wrap64 (a1)) 8))) x10_2 x11_3 t244 _ (tab_below HTab_.out (by repeat (first | (with_reducible first | exact HB.out | apply below_alloc | apply pw_below_drewN | apply below_drew1 | (refine below_set ?_ ?_; rotate_left; · assumption)) | exact HB.out))) A12.out).mono ?_); rintro e w14 ⟨rfl, hb⟩; refine ⟨_, rfl, ?_⟩; have n0_ := Aside0.mk (Kd.R_below (by (with_reducible repeat (first | apply Kd.R_alloc | apply Kd.R_drewN | apply Kd.R_drew)); exact HO_8.out) hb); have n1_ := Aside0.mk (below_step (by repeat (first | (with_reducible first | exact HB.out | apply below_alloc | apply pw_below_drewN | apply below_drew1) | exact HB.out)) hb); clear HO_8; clear HB; have HO_8 := n0_; have HB := n1_; clear n0_ n1_; (try clear hb); (try clear hb2); (try clear hk); (try clear hi)))
          (try simp only [Act.put, List.setIfInBounds_toArray, List.set_cons_zero, List.set_cons_succ])
          go_cut [81] (fun v81 wc => ∃ (kq : Nat) (x81_12 : Bool), v81 = .bool x81_12 ∧ Aside0 (entrepotlaw07_LayoutOnce.j3 kq (wrap64 (1 + (Int.tmod (wrap64 (a0)) 7))) (wrap64 (1 + (Int.tmod (wrap64 (a1)) 8))) t237 x8_3 x10_2 x11_3 t244 x81_12 = some r) ∧ Aside0 (kq ≤ k3) ∧ Aside0 (Kd.R (Kd.int .i64) 3 wc w.heap.size (fun _ => True) u8 x8_3) ∧ Aside0 (Below w.heap.size w wc))
          case first =>
           have H := HC13.out
           clear HC13
           by_cases c15 : t244 < (-1)
           ·rw [if_pos c15] at H
            have c15b0 : decide (t244 < (-1)) = true := decide_eq_true c15
            clear c15
            (first | rw [c15b0] | (simp only [i64_w, i32_w]; rw [c15b0]) | skip)
            have H' := Aside0.mk H
            clear H
            go_wp2
            go_meet
            case rel => exact ⟨_, (true), (by first | rfl | (simp; done) | (simp [*]; done)), H', ⟨by have := HK1.out; have := HK2.out; have := HK3.out; first | omega | exact Nat.le_refl _⟩, ⟨by (with_reducible repeat (first | apply Kd.R_alloc | apply Kd.R_drewN | apply Kd.R_drew)); exact HO_8.out⟩, ⟨by repeat (first | (with_reducible first | exact HB.out | apply below_alloc | apply pw_below_drewN | apply below_drew1) | exact HB.out)⟩⟩
           ·rw [if_neg c15] at H
            have c15b0 : decide (t244 < (-1)) = false := decide_eq_false c15
            clear c15
            (first | rw [c15b0] | (simp only [i64_w, i32_w]; rw [c15b0]) | skip)
            by_cases c16 : t244 ≥ t237
            ·rw [if_pos c16] at H
             have c16b0 : decide (t237 ≤ t244) = true := decide_eq_true c16
             clear c16
             have H' := Aside0.mk H
             clear H
             go_wp2
             go_meet
             case rel => exact ⟨_, (true), (by first | rfl | (simp; done) | (simp [*]; done)), H', ⟨by have := HK1.out; have := HK2.out; have := HK3.out; first | omega | exact Nat.le_refl _⟩, ⟨by (with_reducible repeat (first | apply Kd.R_alloc | apply Kd.R_drewN | apply Kd.R_drew)); exact HO_8.out⟩, ⟨by repeat (first | (with_reducible first | exact HB.out | apply below_alloc | apply pw_below_drewN | apply below_drew1) | exact HB.out)⟩⟩
            ·rw [if_neg c16] at H
             have c16b0 : decide (t237 ≤ t244) = false := decide_eq_false c16
             clear c16
             by_cases c17 : t244 = (-1)
             ·rw [if_pos c17] at H
              have c17b0 : (t244 == (-1)) = true := beq_iff_eq.mpr c17
              have c17b1 : (t244 != (-1)) = false := bne_eq_false_iff_eq.mpr c17
              clear c17
              by_cases c18 : x10_2 = x11_3
              ·rw [if_pos c18] at H
               have c18b0 : (x10_2 == x11_3) = true := beq_iff_eq.mpr c18
               have c18b1 : (x10_2 != x11_3) = false := bne_eq_false_iff_eq.mpr c18
               clear c18
               by_cases c19 : (wrap64 (1 + (Int.tmod (wrap64 (a0)) 7))) = 1
               ·rw [if_pos c19] at H
                have c19b0 : ((wrap64 (1 + (Int.tmod (wrap64 (a0)) 7))) == 1) = true := beq_iff_eq.mpr c19
                have c19b1 : ((wrap64 (1 + (Int.tmod (wrap64 (a0)) 7))) != 1) = false := bne_eq_false_iff_eq.mpr c19
                clear c19
                have H' := Aside0.mk H
                clear H
                go_wp2
                go_meet
                case rel => exact ⟨_, (true), (by first | rfl | (simp; done) | (simp [*]; done)), H', ⟨by have := HK1.out; have := HK2.out; have := HK3.out; first | omega | exact Nat.le_refl _⟩, ⟨by (with_reducible repeat (first | apply Kd.R_alloc | apply Kd.R_drewN | apply Kd.R_drew)); exact HO_8.out⟩, ⟨by repeat (first | (with_reducible first | exact HB.out | apply below_alloc | apply pw_below_drewN | apply below_drew1) | exact HB.out)⟩⟩
               ·rw [if_neg c19] at H
                have c19b0 : ((wrap64 (1 + (Int.tmod (wrap64 (a0)) 7))) == 1) = false := beq_eq_false_iff_ne.mpr c19
                have c19b1 : ((wrap64 (1 + (Int.tmod (wrap64 (a0)) 7))) != 1) = true := bne_iff_ne.mpr c19
                replace H := Option.bind_eq_some_iff.mp H
                obtain ⟨t245, A200, H⟩ := H
                replace H : (entrepotlaw07_LayoutOnce.j3 k3 (wrap64 (1 + (Int.tmod (wrap64 (a0)) 7))) (wrap64 (1 + (Int.tmod (wrap64 (a1)) 8))) t237 x8_3 x10_2 x11_3 t244 (t244 != t245)) = some r := H
                have A20 := Aside0.mk A200
                clear A200
                have H' := Aside0.mk H
                clear H
                go_wp2_with (first | (go_at_call 16; (with_reducible refine (layout_Index.calls k3 (wrap64 (1 + (Int.tmod (wrap64 (a0)) 7))) (wrap64 (1 + (Int.tmod (wrap64 (a1)) 8))) x11_3 x10_2 t245 _ (tab_below HTab_.out (by repeat (first | (with_reducible first | exact HB.out | apply below_alloc | apply pw_below_drewN | apply below_drew1 | (refine below_set ?_ ?_; rotate_left; · assumption)) | exact HB.out))) A20.out).mono ?_); rintro e w21 ⟨rfl, hb⟩; have n0_ := Aside0.mk (Kd.R_below (by (with_reducible repeat (first | apply Kd.R_alloc | apply Kd.R_drewN | apply Kd.R_drew)); exact HO_8.out) hb); have n1_ := Aside0.mk (below_step (by repeat (first | (with_reducible first | exact HB.out | apply below_alloc | apply pw_below_drewN | apply below_drew1) | exact HB.out)) hb); clear HO_8; clear HB; have HO_8 := n0_; have HB := n1_; clear n0_ n1_; (try clear hb); (try clear hb2); (try clear hk); (try clear hi)))
                go_meet
                case rel => exact ⟨_, ((t244 != t245)), (by first | rfl | (simp; done) | (simp [*]; done)), H', ⟨by have := HK1.out; have := HK2.out; have := HK3.out; first | omega | exact Nat.le_refl _⟩, ⟨by (with_reducible repeat (first | apply Kd.R_alloc | apply Kd.R_drewN | apply Kd.R_drew)); exact HO_8.out⟩, ⟨by repeat (first | (with_reducible first | exact HB.out | apply below_alloc | apply pw_below_drewN | apply below_drew1) | exact HB.out)⟩⟩
              ·rw [if_neg c18] at H
               have c18b0 : (x10_2 == x11_3) = false := beq_eq_false_iff_ne.mpr c18
               have c18b1 : (x10_2 != x11_3) = true := bne_iff_ne.mpr c18
               have H' := Aside0.mk H
               clear H
               go_wp2
               go_meet
               case rel => exact ⟨_, (true), (by first | rfl | (simp; done) | (simp [*]; done)), H', ⟨by have := HK1.out; have := HK2.out; have := HK3.out; first | omega | exact Nat.le_refl _⟩, ⟨by (with_reducible repeat (first | apply Kd.R_alloc | apply Kd.R_drewN | apply Kd.R_drew)); exact HO_8.out⟩, ⟨by repeat (first | (with_reducible first | exact HB.out | apply below_alloc | apply pw_below_drewN | apply below_drew1) | exact HB.out)⟩⟩
             ·rw [if_neg c17] at H
              have c17b0 : (t244 == (-1)) = false := beq_eq_false_iff_ne.mpr c17
              have c17b1 : (t244 != (-1)) = true := bne_iff_ne.mpr c17
              by_cases c22 : (wrap64 (1 + (Int.tmod (wrap64 (a0)) 7))) = 1
              ·rw [if_pos c22] at H
               have c22b0 : ((wrap64 (1 + (Int.tmod (wrap64 (a0)) 7))) == 1) = true := beq_iff_eq.mpr c22
               have c22b1 : ((wrap64 (1 + (Int.tmod (wrap64 (a0)) 7))) != 1) = false := bne_eq_false_iff_eq.mpr c22
               clear c22
               have H' := Aside0.mk H
               clear H
               go_wp2
               go_meet
               case rel => exact ⟨_, (false), (by first | rfl | (simp; done) | (simp [*]; done)), H', ⟨by have := HK1.out; have := HK2.out; have := HK3.out; first | omega | exact Nat.le_refl _⟩, ⟨by (with_reducible repeat (first | apply Kd.R_alloc | apply Kd.R_drewN | apply Kd.R_drew)); exact HO_8.out⟩, ⟨by repeat (first | (with_reducible first | exact HB.out | apply below_alloc | apply pw_below_drewN | apply below_drew1) | exact HB.out)⟩⟩
              ·rw [if_neg c22] at H
               have c22b0 : ((wrap64 (1 + (Int.tmod (wrap64 (a0)) 7))) == 1) = false := beq_eq_false_iff_ne.mpr c22
               have c22b1 : ((wrap64 (1 + (Int.tmod (wrap64 (a0)) 7))) != 1) = true := bne_iff_ne.mpr c22
               replace H := Option.bind_eq_some_iff.mp H
               obtain ⟨t246, A230, H⟩ := H
               replace H : (entrepotlaw07_LayoutOnce.j3 k3 (wrap64 (1 + (Int.tmod (wrap64 (a0)) 7))) (wrap64 (1 + (Int.tmod (wrap64 (a1)) 8))) t237 x8_3 x10_2 x11_3 t244 (t244 != t246)) = some r := H
               have A23 := Aside0.mk A230
               clear A230
               have H' := Aside0.mk H
               clear H
               go_wp2_with (first | (go_at_call 16; (with_reducible refine (layout_Index.calls k3 (wrap64 (1 + (Int.tmod (wrap64 (a0)) 7))) (wrap64 (1 + (Int.tmod (wrap64 (a1)) 8))) x11_3 x10_2 t246 _ (tab_below HTab_.out (by repeat (first | (with_reducible first | exact HB.out | apply below_alloc | apply pw_below_drewN | apply below_drew1 | (refine below_set ?_ ?_; rotate_left; · assumption)) | exact HB.out))) A23.out).mono ?_); rintro e w24 ⟨rfl, hb⟩; have n0_ := Aside0.mk (Kd.R_below (by (with_reducible repeat (first | apply Kd.R_alloc | apply Kd.R_drewN | apply Kd.R_drew)); exact HO_8.out) hb); have n1_ := Aside0.mk (below_step (by repeat (first | (with_reducible first | exact HB.out | apply below_alloc | apply pw_below_drewN | apply below_drew1) | exact HB.out)) hb); clear HO_8; clear HB; have HO_8 := n0_; have HB := n1_; clear n0_ n1_; (try clear hb); (try clear hb2); (try clear hk); (try clear hi)))
               go_meet
               case rel => exact ⟨_, ((t244 != t246)), (by first | rfl | (simp; done) | (simp [*]; done)), H', ⟨by have := HK1.out; have := HK2.out; have := HK3.out; first | omega | exact Nat.le_refl _⟩, ⟨by (with_reducible repeat (first | apply Kd.R_alloc | apply Kd.R_drewN | apply Kd.R_drew)); exact HO_8.out⟩, ⟨by repeat (first | (with_reducible first | exact HB.out | apply below_alloc | apply pw_below_drewN | apply below_drew1) | exact HB.out)⟩⟩
          case rest =>
           clear HC13
           (try clear c11); (try clear c11b0)
           obtain ⟨kq, x81_12, rfl, HA, HJ12, HO_8, HB⟩ := hcut
           cases kq with
           | zero => exact absurd HA.out (by simp [entrepotlaw07_LayoutOnce.j3])
           | succ kj12 =>
            have H := HA.out
            clear HA
            simp only [entrepotlaw07_LayoutOnce.j3] at H
            by_cases c25 : x81_12 = true
            ·subst c25
             have H1 : (some false) = some r := by rw [if_pos rfl] at H; exact H
             clear H
             have H := H1
             clear H1
             exact absurd ((Option.some.inj H).trans hr_.out) (by decide)
            ·replace c25 := Bool.eq_false_iff.mpr c25
             subst c25
             have H1 : (if t244 ≥ 0 then (if x10_2 ≤ x11_3 then (if 0 ≤ t244 then (if t244 < (x8_3.length : Int) then (entrepotlaw07_LayoutOnce.l2 kj12 (wrap64 (1 + (Int.tmod (wrap64 (a0)) 7))) (wrap64 (1 + (Int.tmod (wrap64 (a1)) 8))) t237 (x8_3.set (t244 : Int).toNat (wrap64 ((rd x8_3 t244) + 1))) x10_2 (wrap64 (x11_3 + 1))) else (none)) else (none)) else (if (wrap64 (1 + (Int.tmod (wrap64 (a0)) 7))) = 1 then (if 0 ≤ t244 then (if t244 < (x8_3.length : Int) then (entrepotlaw07_LayoutOnce.l2 kj12 (wrap64 (1 + (Int.tmod (wrap64 (a0)) 7))) (wrap64 (1 + (Int.tmod (wrap64 (a1)) 8))) t237 (x8_3.set (t244 : Int).toNat (wrap64 ((rd x8_3 t244) + 1))) x10_2 (wrap64 (x11_3 + 1))) else (none)) else (none)) else (entrepotlaw07_LayoutOnce.l2 kj12 (wrap64 (1 + (Int.tmod (wrap64 (a0)) 7))) (wrap64 (1 + (Int.tmod (wrap64 (a1)) 8))) t237 x8_3 x10_2 (wrap64 (x11_3 + 1))))) else (entrepotlaw07_LayoutOnce.l2 kj12 (wrap64 (1 + (Int.tmod (wrap64 (a0)) 7))) (wrap64 (1 + (Int.tmod (wrap64 (a1)) 8))) t237 x8_3 x10_2 (wrap64 (x11_3 + 1)))) = some r := by rw [if_neg (show ¬ (false = true) by decide)] at H; exact H
             clear H
             have H := H1
             clear H1
             by_cases c26 : t244 ≥ 0
             ·rw [if_pos c26] at H
              have c26b0 : decide (0 ≤ t244) = true := decide_eq_true c26
              clear c26
              by_cases c27 : x10_2 ≤ x11_3
              ·rw [if_pos c27] at H
               have c27b0 : decide (x10_2 ≤ x11_3) = true := decide_eq_true c27
               clear c27
               by_cases c28 : 0 ≤ t244
               ·rw [if_pos c28] at H
                have c28b0 : decide (0 ≤ t244) = true := decide_eq_true c28
                clear c28
                by_cases c29 : t244 < (x8_3.length : Int)
                ·rw [if_pos c29] at H
                 have c29b0 : decide (t244 < (x8_3.length : Int)) = true := decide_eq_true c29
                 clear c29
                 obtain ⟨y248, hy248⟩ : ∃ y_ : List Int, y_ = (x8_3.set (t244 : Int).toNat (wrap64 ((rd x8_3 t244) + 1))) := ⟨_, rfl⟩
                 replace H : (entrepotlaw07_LayoutOnce.l2 kj12 (wrap64 (1 + (Int.tmod (wrap64 (a0)) 7))) (wrap64 (1 + (Int.tmod (wrap64 (a1)) 8))) t237 y248 x10_2 (wrap64 (x11_3 + 1))) = some r := by first | (rw [hy248]; with_reducible exact H) | (have H2_ := (Option.bind_some _ _).symm.trans H; rw [hy248]; with_reducible exact H2_) | (have H2_ := (Option.bind_some _ _).symm.trans H; with_reducible exact H2_) | with_reducible exact H | (rw [hy248]; exact H) | exact H
                 have Ny248 := Aside0.mk hy248
                 clear hy248
                 have H' := Aside0.mk H
                 clear H
                 obtain ⟨Ao31, co31, eo31⟩ := Kd.R_slice HO_8.out
                 subst eo31
                 have p247 : 0 ≤ (t244 : Int) := of_decide_eq_true (by first | (with_reducible assumption) | assumption)
                 have q247 : t244 < (x8_3.length : Int) := of_decide_eq_true (by first | (with_reducible assumption) | assumption)
                 obtain ⟨ad247, e247, hx247_0⟩ := Kd.at_int (Kd.R_reads' HO_8.out).2.2 t244 p247 q247
                 cases e247
                 replace p247 := eq_true p247
                 replace q247 := eq_true q247
                 have p30 : 0 ≤ (t244 : Int) := of_decide_eq_true (by first | (with_reducible assumption) | assumption)
                 have q30 : (t244 : Int) < ((x8_3.length : Int) : Int) := of_decide_eq_true (by first | (with_reducible assumption) | assumption)
                 obtain ⟨go30, co30, eo30, gb30, gl30, cl30, HG30⟩ := Kd.R_form HO_8.out (by omega)
                 (first | cases eo30 | (injection eo30 with ea_ en_ ec_; (first | subst ea_ | (injection ea_ with ea_; subst ea_)); subst ec_; clear en_))
                 have GB30 := Aside0.mk gb30
                 have GG30 := Aside0.mk HG30
                 clear gb30 gl30 HG30
                 (first | simp only [add_plain] at hx247_0 | skip)
                 obtain ⟨hx30_0, hf30_0⟩ := Kd.R_celln 0 HO_8.out (t244 : Int) p30 q30
                 replace p30 := eq_true p30
                 replace q30 := eq_true q30
                 have HP32 := Kd.R_putg HO_8.out (t244 : Int) (wrap64 ((rd x8_3 t244) + 1))
                 go_wp2_with (first | ((with_reducible refine gate_store (t := 3) (p := 98) rfl ?_); refine store_event (t := 3) (p := 98) (v := ?vo_w33) (w1 := (wc.setCell ⟨go30, (t244 : Int).toNat, none⟩ (.int .i64 (wrap64 ((rd x8_3 t244) + 1))))) ?hg ?ho ?hn ?hr ?_; (case ho => rfl); (case hg => rfl); (case hn => rfl); (case hr => first | (go_simp; done) | (go_simp; rfl)); intro w33 hw; have hg : wc.grownBy w33 (some go30) := (by rw [hw]; exact HP32.2); have hp_ : Kd.R (Kd.int .i64) 3 w33 w.heap.size (fun _ => True) (.slice (some ⟨go30, 0, none⟩) x8_3.length co31) y248 := (by rw [hw, Ny248.out]; exact HP32.1); clear HP32; have n0_ := Aside0.mk (hp_); have n1_ := Aside0.mk ((by rw [hw]; exact below_set (HB.out) GB30.out : Below w.heap.size w w33)); clear HO_8; clear HB; have HO_8 := n0_; have HB := n1_; clear n0_ n1_; clear hg hw hp_))
                 go_roundg kj12
                 case measure => have := HK1.out; have := HK2.out; have := HK3.out; have := HJ12.out; omega
                 case rel => exact ⟨(y248), (wrap64 (x11_3 + 1)), (by first | rfl | (simp; done) | (simp [*]; done)), H', ⟨by have := HK1.out; have := HK2.out; have := HK3.out; have := HJ12.out; omega⟩, ⟨by (with_reducible repeat (first | apply Kd.R_alloc | apply Kd.R_drewN | apply Kd.R_drew)); exact HO_8.out⟩, ⟨by repeat (first | (with_reducible first | exact HB.out | apply below_alloc | apply pw_below_drewN | apply below_drew1) | exact HB.out)⟩⟩
                ·rw [if_neg c29] at H
                 exact absurd H (by simp)
               ·rw [if_neg c28] at H
                exact absurd H (by simp)
              ·rw [if_neg c27] at H
               have c27b0 : decide (x10_2 ≤ x11_3) = false := decide_eq_false c27
               clear c27
               by_cases c34 : (wrap64 (1 + (Int.tmod (wrap64 (a0)) 7))) = 1
               ·rw [if_pos c34] at H
                have c34b0 : ((wrap64 (1 + (Int.tmod (wrap64 (a0)) 7))) == 1) = true := beq_iff_eq.mpr c34
                have c34b1 : ((wrap64 (1 + (Int.tmod (wrap64 (a0)) 7))) != 1) = false := bne_eq_false_iff_eq.mpr c34
                clear c34
                by_cases c35 : 0 ≤ t244
                ·rw [if_pos c35] at H
                 have c35b0 : decide (0 ≤ t244) = true := decide_eq_true c35
                 clear c35
                 by_cases c36 : t244 < (x8_3.length : Int)
                 ·rw [if_pos c36] at H
                  have c36b0 : decide (t244 < (x8_3.length : Int)) = true := decide_eq_true c36
                  clear c36
                  obtain ⟨y250, hy250⟩ : ∃ y_ : List Int, y_ = (x8_3.set (t244 : Int).toNat (wrap64 ((rd x8_3 t244) + 1))) := ⟨_, rfl⟩
                  replace H : (entrepotlaw07_LayoutOnce.l2 kj12 (wrap64 (1 + (Int.tmod (wrap64 (a0)) 7))) (wrap64 (1 + (Int.tmod (wrap64 (a1)) 8))) t237 y250 x10_2 (wrap64 (x11_3 + 1))) = some r := by first | (rw [hy250]; with_reducible exact H) | (have H2_ := (Option.bind_some _ _).symm.trans H; rw [hy250]; with_reducible exact H2_) | (have H2_ := (Option.bind_some _ _).symm.trans H; with_reducible exact H2_) | with_reducible exact H | (rw [hy250]; exact H) | exact H
                  have Ny250 := Aside0.mk hy250
                  clear hy250
                  have H' := Aside0.mk H
                  clear H
                  obtain ⟨Ao38, co38, eo38⟩ := Kd.R_slice HO_8.out
                  subst eo38
                  have p249 : 0 ≤ (t244 : Int) := of_decide_eq_true (by first | (with_reducible assumption) | assumption)
                  have q249 : t244 < (x8_3.length : Int) := of_decide_eq_true (by first | (with_reducible assumption) | assumption)
                  obtain ⟨ad249, e249, hx249_0⟩ := Kd.at_int (Kd.R_reads' HO_8.out).2.2 t244 p249 q249
                  cases e249
                  replace p249 := eq_true p249
                  replace q249 := eq_true q249
                  have p37 : 0 ≤ (t244 : Int) := of_decide_eq_true (by first | (with_reducible assumption) | assumption)
                  have q37 : (t244 : Int) < ((x8_3.length : Int) : Int) := of_decide_eq_true (by first | (with_reducible assumption) | assumption)
                  obtain ⟨go37, co37, eo37, gb37, gl37, cl37, HG37⟩ := Kd.R_form HO_8.out (by omega)
                  (first | cases eo37 | (injection eo37 with ea_ en_ ec_; (first | subst ea_ | (injection ea_ with ea_; subst ea_)); subst ec_; clear en_))
                  have GB37 := Aside0.mk gb37
                  have GG37 := Aside0.mk HG37
                  clear gb37 gl37 HG37
                  (first | simp only [add_plain] at hx249_0 | skip)
                  obtain ⟨hx37_0, hf37_0⟩ := Kd.R_celln 0 HO_8.out (t244 : Int) p37 q37
                  replace p37 := eq_true p37
                  replace q37 := eq_true q37
                  have HP39 := Kd.R_putg HO_8.out (t244 : Int) (wrap64 ((rd x8_3 t244) + 1))
                  go_wp2_with (first | ((with_reducible refine gate_store (t := 3) (p := 98) rfl ?_); refine store_event (t := 3) (p := 98) (v := ?vo_w40) (w1 := (wc.setCell ⟨go37, (t244 : Int).toNat, none⟩ (.int .i64 (wrap64 ((rd x8_3 t244) + 1))))) ?hg ?ho ?hn ?hr ?_; (case ho => rfl); (case hg => rfl); (case hn => rfl); (case hr => first | (go_simp; done) | (go_simp; rfl)); intro w40 hw; have hg : wc.grownBy w40 (some go37) := (by rw [hw]; exact HP39.2); have hp_ : Kd.R (Kd.int .i64) 3 w40 w.heap.size (fun _ => True) (.slice (some ⟨go37, 0, none⟩) x8_3.length co38) y250 := (by rw [hw, Ny250.out]; exact HP39.1); clear HP39; have n0_ := Aside0.mk (hp_); have n1_ := Aside0.mk ((by rw [hw]; exact below_set (HB.out) GB37.out : Below w.heap.size w w40)); clear HO_8; clear HB; have HO_8 := n0_; have HB := n1_; clear n0_ n1_; clear hg hw hp_))
                  go_roundg kj12
                  case measure => have := HK1.out; have := HK2.out; have := HK3.out; have := HJ12.out; omega
                  case rel => exact ⟨(y250), (wrap64 (x11_3 + 1)), (by first | rfl | (simp; done) | (simp [*]; done)), H', ⟨by have := HK1.out; have := HK2.out; have := HK3.out; have := HJ12.out; omega⟩, ⟨by (with_reducible repeat (first | apply Kd.R_alloc | apply Kd.R_drewN | apply Kd.R_drew)); exact HO_8.out⟩, ⟨by repeat (first | (with_reducible first | exact HB.out | apply below_alloc | apply pw_below_drewN | apply below_drew1) | exact HB.out)⟩⟩
                 ·rw [if_neg c36] at H
                  exact absurd H (by simp)
                ·rw [if_neg c35] at H
                 exact absurd H (by simp)
               ·rw [if_neg c34] at H
                have c34b0 : ((wrap64 (1 + (Int.tmod (wrap64 (a0)) 7))) == 1) = false := beq_eq_false_iff_ne.mpr c34
                have c34b1 : ((wrap64 (1 + (Int.tmod (wrap64 (a0)) 7))) != 1) = true := bne_iff_ne.mpr c34
                have H' := Aside0.mk H
                clear H
                go_wp2
                go_roundg kj12
                case measure => have := HK1.out; have := HK2.out; have := HK3.out; have := HJ12.out; omega
                case rel => exact ⟨(x8_3), (wrap64 (x11_3 + 1)), (by first | rfl | (simp; done) | (simp [*]; done)), H', ⟨by have := HK1.out; have := HK2.out; have := HK3.out; have := HJ12.out; omega⟩, ⟨by (with_reducible repeat (first | apply Kd.R_alloc | apply Kd.R_drewN | apply Kd.R_drew)); exact HO_8.out⟩, ⟨by repeat (first | (with_reducible first | exact HB.out | apply below_alloc | apply pw_below_drewN | apply below_drew1) | exact HB.out)⟩⟩
             ·rw [if_neg c26] at H
              have c26b0 : decide (0 ≤ t244) = false := decide_eq_false c26
              clear c26
              have H' := Aside0.mk H
              clear H
              go_wp2
              go_roundg kj12
              case measure => have := HK1.out; have := HK2.out; have := HK3.out; have := HJ12.out; omega
              case rel => exact ⟨(x8_3), (wrap64 (x11_3 + 1)), (by first | rfl | (simp; done) | (simp [*]; done)), H', ⟨by have := HK1.out; have := HK2.out; have := HK3.out; have := HJ12.out; omega⟩, ⟨by (with_reducible repeat (first | apply Kd.R_alloc | apply Kd.R_drewN | apply Kd.R_drew)); exact HO_8.out⟩, ⟨by repeat (first | (with_reducible first | exact HB.out | apply below_alloc | apply pw_below_drewN | apply below_drew1) | exact HB.out)⟩⟩
         ·rw [if_neg c11] at H
          have c11b0 : decide (x11_3 < (wrap64 (1 + (Int.tmod (wrap64 (a1)) 8)))) = false := decide_eq_false c11
          clear c11
          have H' := Aside0.mk H
          clear H
          go_wp2
          go_roundg k3
          case measure => have := HK1.out; have := HK2.out; have := HK3.out; omega
          case rel => exact ⟨(x8_3), (wrap64 (x10_2 + 1)), (by first | rfl | (simp; done) | (simp [*]; done)), H', ⟨by have := HK1.out; have := HK2.out; have := HK3.out; omega⟩, ⟨by (with_reducible repeat (first | apply Kd.R_alloc | apply Kd.R_drewN | apply Kd.R_drew)); exact HO_8.out⟩, ⟨by repeat (first | (with_reducible first | exact HB.out | apply below_alloc | apply pw_below_drewN | apply below_drew1) | exact HB.out)⟩⟩
      ·rw [if_neg c10] at H
       have c10b0 : decide (x10_2 < (wrap64 (1 + (Int.tmod (wrap64 (a1)) 8)))) = false := decide_eq_false c10
       clear c10
       have H' := Aside0.mk H
       clear H
       go_wp2
       go_loopg [13] k2 (fun kq v13 w' => ∃ (x13_3 : Int), v13 = .int .i64 x13_3 ∧ Aside0 (entrepotlaw07_LayoutOnce.l3 kq t237 x8_2 x13_3 = some r) ∧ Aside0 (kq ≤ k2) ∧ Aside0 (Kd.R (Kd.int .i64) 3 w' w.heap.size (fun _ => True) u8 x8_2) ∧ Aside0 (Below w.heap.size w w'))
       case atStart => exact ⟨(0), (by first | rfl | (simp; done) | (simp [*]; done)), H', ⟨Nat.le_refl _⟩, ⟨by (with_reducible repeat (first | apply Kd.R_alloc | apply Kd.R_drewN | apply Kd.R_drew)); exact HO_8.out⟩, ⟨by repeat (first | (with_reducible first | exact HB.out | apply below_alloc | apply pw_below_drewN | apply below_drew1) | exact HB.out)⟩⟩
       case round =>
        clear H'
        (try clear c10); (try clear c10b0)
        obtain ⟨x13_3, rfl, HA, HK3, HO_8, HB⟩ := hrel
        cases gk with
        | zero => exact absurd HA.out (by simp [entrepotlaw07_LayoutOnce.l3])
        | succ k3 =>
         have H := HA.out
         clear HA
         simp only [entrepotlaw07_LayoutOnce.l3] at H
         by_cases c41 : x13_3 < t237
         ·rw [if_pos c41] at H
          have c41b0 : decide (x13_3 < t237) = true := decide_eq_true c41
          clear c41
          by_cases c42 : 0 ≤ x13_3
          ·rw [if_pos c42] at H
           have c42b0 : decide (0 ≤ x13_3) = true := decide_eq_true c42
           clear c42
           by_cases c43 : x13_3 < (x8_2.length : Int)
           ·rw [if_pos c43] at H
            have c43b0 : decide (x13_3 < (x8_2.length : Int)) = true := decide_eq_true c43
            clear c43
            by_cases c44 : (rd x8_2 x13_3) = 1
            ·rw [if_pos c44] at H
             have c44b0 : ((rd x8_2 x13_3) == 1) = true := beq_iff_eq.mpr c44
             have c44b1 : ((rd x8_2 x13_3) != 1) = false := bne_eq_false_iff_eq.mpr c44
             clear c44
             have H' := Aside0.mk H
             clear H
             obtain ⟨Ao45, co45, eo45⟩ := Kd.R_slice HO_8.out
             subst eo45
             have p251 : 0 ≤ (x13_3 : Int) := of_decide_eq_true (by first | (with_reducible assumption) | assumption)
             have q251 : x13_3 < (x8_2.length : Int) := of_decide_eq_true (by first | (with_reducible assumption) | assumption)
             obtain ⟨ad251, e251, hx251_0⟩ := Kd.at_int (Kd.R_reads' HO_8.out).2.2 x13_3 p251 q251
             cases e251
             replace p251 := eq_true p251
             replace q251 := eq_true q251
             go_wp2
             go_roundg k3
             case measure => have := HK1.out; have := HK2.out; have := HK3.out; omega
             case rel => exact ⟨(wrap64 (x13_3 + 1)), (by first | rfl | (simp; done) | (simp [*]; done)), H', ⟨by have := HK1.out; have := HK2.out; have := HK3.out; omega⟩, ⟨by (with_reducible repeat (first | apply Kd.R_alloc | apply Kd.R_drewN | apply Kd.R_drew)); exact HO_8.out⟩, ⟨by repeat (first | (with_reducible first | exact HB.out | apply below_alloc | apply pw_below_drewN | apply below_drew1) | exact HB.out)⟩⟩
            ·rw [if_neg c44] at H
             have c44b0 : ((rd x8_2 x13_3) == 1) = false := beq_eq_false_iff_ne.mpr c44
             have c44b1 : ((rd x8_2 x13_3) != 1) = true := bne_iff_ne.mpr c44
             exact absurd ((Option.some.inj H).trans hr_.out) (by decide)
           ·rw [if_neg c43] at H
            exact absurd H (by simp)
          ·rw [if_neg c42] at H
           exact absurd H (by simp)
         ·rw [if_neg c41] at H
          have c41b0 : decide (x13_3 < t237) = false := decide_eq_false c41
          clear c41
          replace H := Option.bind_eq_some_iff.mp H
          obtain ⟨t252, A460, H⟩ := H
          replace H : (some t252) = some r := H
          have A46 := Aside0.mk A460
          clear A460
          obtain rfl := Option.some.inj H
          go_wp2_with (first | ((with_reducible refine gate_callee (f := 9) rfl ?_); refine goesL_ (some 109) rfl rfl Tryd.func9 (by kernel_rfl) rfl #[] rfl (by (try simp only [List.map_toArray, List.map_cons, List.map_nil]); first | done | rfl | (simp only [List.length_drop, List.length_take]; rfl)) ?_; (with_reducible refine (entrepotlaw07_shown.calls k3  t252 _ (tab_below HTab_.out (by repeat (first | (with_reducible first | exact HB.out | apply below_alloc | apply pw_below_drewN | apply below_drew1 | (refine below_set ?_ ?_; rotate_left; · assumption)) | exact HB.out))) A46.out).mono ?_); rintro e w47 ⟨rfl, hb⟩; refine ⟨_, rfl, ?_⟩; have n0_ := Aside0.mk (Kd.R_below (by (with_reducible repeat (first | apply Kd.R_alloc | apply Kd.R_drewN | apply Kd.R_drew)); exact HO_8.out) hb); have n1_ := Aside0.mk (below_step (by repeat (first | (with_reducible first | exact HB.out | apply below_alloc | apply pw_below_drewN | apply below_drew1) | exact HB.out)) hb); clear HO_8; clear HB; have HO_8 := n0_; have HB := n1_; clear n0_ n1_; (try clear hb); (try clear hb2); (try clear hk); (try clear hi)))
          go_ret
          exact ⟨by first | rfl | (simp [errW_none, errW_some] <;> rfl) | (simp [*, errW_none, errW_some] <;> rfl), by repeat (first | (with_reducible first | exact HB.out | apply below_alloc | apply pw_below_drewN | apply below_drew1) | exact HB.out)⟩

end Go.Proofs.YtdgdhmglcpkkiaaDoor.P
