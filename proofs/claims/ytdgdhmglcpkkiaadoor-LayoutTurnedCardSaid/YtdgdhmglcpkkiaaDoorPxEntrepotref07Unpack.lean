/- Written by a program of this session, after the kit's print: Lean functions for Go functions, and the proof that the machine comes to their answers. -/
import Derived.Test.YtdgdhmglcpkkiaaDoorPx0
import Derived.Test.YtdgdhmglcpkkiaaDoorMla
namespace Go.Proofs.YtdgdhmglcpkkiaaDoor.P
open Go.RowKit Go.Proofs.YtdgdhmglcpkkiaaDoorW.PrintWords Go.Proofs.YtdgdhmglcpkkiaaDoorW.PrintLast Go.Proofs.YtdgdhmglcpkkiaaDoorW.PrintMore
attribute [local go_sem] max2_int min2_int max_two min_two max_three min_three max_four min_four   -- for this text's walks alone
set_option linter.unusedVariables false
set_option linter.unusedSimpArgs false

/-! ### entrepotref07_Unpack: function 11 -/
mutual
def entrepotref07_Unpack.l0 : Nat → Int → Int → List Int → List Int → Int → Option (List Int × Int)
 | 0, _, _, _, _, _ => none
 | k + 1, x0, x1, x2, x8, x9 => if x9 < (wrap64 (x1 * x1)) then (if x8.length < 17592186044416 then (entrepotref07_Unpack.l0 k x0 x1 x2 (x8 ++ [0]) (wrap64 (x9 + 1))) else (none)) else (entrepotref07_Unpack.l1 k x0 x1 x2 x8 0 0)
def entrepotref07_Unpack.l1 : Nat → Int → Int → List Int → List Int → Int → Int → Option (List Int × Int)
 | 0, _, _, _, _, _, _ => none
 | k + 1, x0, x1, x2, x8, x10, x11 => if x11 < x1 then (entrepotref07_Unpack.l2 k x0 x1 x2 x8 x10 x11 0) else (some (x8, 0))
def entrepotref07_Unpack.l2 : Nat → Int → Int → List Int → List Int → Int → Int → Int → Option (List Int × Int)
 | 0, _, _, _, _, _, _, _ => none
 | k + 1, x0, x1, x2, x8, x10, x11, x12 => if x12 < x1 then (if x0 = 6 then (entrepotref07_Unpack.j3 k x0 x1 x2 x8 x10 x11 x12 x11 x12 true) else (entrepotref07_Unpack.j3 k x0 x1 x2 x8 x10 x11 x12 x11 x12 (x0 == 7))) else (entrepotref07_Unpack.l1 k x0 x1 x2 x8 x10 (wrap64 (x11 + 1)))
def entrepotref07_Unpack.j3 : Nat → Int → Int → List Int → List Int → Int → Int → Int → Int → Int → Bool → Option (List Int × Int)
 | 0, _, _, _, _, _, _, _, _, _, _ => none
 | k + 1, x0, x1, x2, x8, x10, x11, x12, x13, x14, x53 => if x53 = true then (entrepotref07_Unpack.j4 k x0 x1 x2 x8 x10 x11 x12 x12 x11) else (entrepotref07_Unpack.j4 k x0 x1 x2 x8 x10 x11 x12 x13 x14)
def entrepotref07_Unpack.j4 : Nat → Int → Int → List Int → List Int → Int → Int → Int → Int → Int → Option (List Int × Int)
 | 0, _, _, _, _, _, _, _, _, _ => none
 | k + 1, x0, x1, x2, x8, x10, x11, x12, x13, x14 => (entrepotref07_tells.f k x0 x13 x14).bind fun t170 => (if t170 = true then (if 0 ≤ x10 then (if x10 < (x2.length : Int) then (if 0 ≤ (wrap64 ((wrap64 (x13 * x1)) + x14)) then (if (wrap64 ((wrap64 (x13 * x1)) + x14)) < (x8.length : Int) then ((some (x8.set ((wrap64 ((wrap64 (x13 * x1)) + x14)) : Int).toNat (rd x2 x10) : List Int)).bind fun y172 => (if x0 = 1 then (entrepotref07_Unpack.l2 k x0 x1 x2 y172 (wrap64 (x10 + 1)) x11 (wrap64 (x12 + 1))) else (if 0 ≤ (wrap64 ((wrap64 (x14 * x1)) + x13)) then (if (wrap64 ((wrap64 (x14 * x1)) + x13)) < (x8.length : Int) then (entrepotref07_Unpack.l2 k x0 x1 x2 (y172.set ((wrap64 ((wrap64 (x14 * x1)) + x13)) : Int).toNat (rd x2 x10)) (wrap64 (x10 + 1)) x11 (wrap64 (x12 + 1))) else (none)) else (none)))) else (none)) else (none)) else (none)) else (none)) else (entrepotref07_Unpack.l2 k x0 x1 x2 x8 x10 x11 (wrap64 (x12 + 1))))
end
def entrepotref07_Unpack.f (k : Nat) (a0 : Int) (a1 : Int) (l2 : List Int) : Option (List Int × Int) := (entrepotref07_may.f a0 a1).bind fun t162 => (if t162 = true then ((entrepotref07_Count.f a0 a1).bind fun t163 => (if (l2.length : Int) = t163 then (entrepotref07_Unpack.l0 k a0 a1 l2 (([] : List Int)) 0) else (some (([] : List Int), 70)))) else (some (([] : List Int), 1)))
theorem entrepotref07_Unpack.mono_l : ∀ k, (∀ y0 y1 y2 y3 y4, LeO (entrepotref07_Unpack.l0 k y0 y1 y2 y3 y4) (entrepotref07_Unpack.l0 (k + 1) y0 y1 y2 y3 y4)) ∧ (∀ y0 y1 y2 y3 y4 y5, LeO (entrepotref07_Unpack.l1 k y0 y1 y2 y3 y4 y5) (entrepotref07_Unpack.l1 (k + 1) y0 y1 y2 y3 y4 y5)) ∧ (∀ y0 y1 y2 y3 y4 y5 y6, LeO (entrepotref07_Unpack.l2 k y0 y1 y2 y3 y4 y5 y6) (entrepotref07_Unpack.l2 (k + 1) y0 y1 y2 y3 y4 y5 y6)) ∧ (∀ y0 y1 y2 y3 y4 y5 y6 y7 y8 y9, LeO (entrepotref07_Unpack.j3 k y0 y1 y2 y3 y4 y5 y6 y7 y8 y9) (entrepotref07_Unpack.j3 (k + 1) y0 y1 y2 y3 y4 y5 y6 y7 y8 y9)) ∧ (∀ y0 y1 y2 y3 y4 y5 y6 y7 y8, LeO (entrepotref07_Unpack.j4 k y0 y1 y2 y3 y4 y5 y6 y7 y8) (entrepotref07_Unpack.j4 (k + 1) y0 y1 y2 y3 y4 y5 y6 y7 y8))
 | 0 => ⟨fun _ _ _ _ _ r h => by simp [entrepotref07_Unpack.l0] at h, fun _ _ _ _ _ _ r h => by simp [entrepotref07_Unpack.l1] at h, fun _ _ _ _ _ _ _ r h => by simp [entrepotref07_Unpack.l2] at h, fun _ _ _ _ _ _ _ _ _ _ r h => by simp [entrepotref07_Unpack.j3] at h, fun _ _ _ _ _ _ _ _ _ r h => by simp [entrepotref07_Unpack.j4] at h⟩
 | k + 1 => by
  obtain ⟨ih0, ih1, ih2, ih3, ih4⟩ := entrepotref07_Unpack.mono_l k
  refine ⟨?_, ?_, ?_, ?_, ?_⟩ <;> intros
  all_goals first | unfold entrepotref07_Unpack.l0 | unfold entrepotref07_Unpack.l1 | unfold entrepotref07_Unpack.l2 | unfold entrepotref07_Unpack.j3 | unfold entrepotref07_Unpack.j4
  all_goals repeat' first
  | (with_reducible exact ih0 _ _ _ _ _)
  | (with_reducible exact ih1 _ _ _ _ _ _)
  | (with_reducible exact ih2 _ _ _ _ _ _ _)
  | (with_reducible exact ih3 _ _ _ _ _ _ _ _ _ _)
  | (with_reducible exact ih4 _ _ _ _ _ _ _ _ _)
  | (with_reducible exact entrepotref07_tells.mono _ _ _ _)
  | (with_reducible exact LeO.refl _)
  | (with_reducible exact LeO.none _)
  | (with_reducible refine LeO.ite ?_ ?_)
  | (with_reducible refine LeO.bind ?_ (fun _ => ?_))
  | exact ih0 _ _ _ _ _
  | exact ih1 _ _ _ _ _ _
  | exact ih2 _ _ _ _ _ _ _
  | exact ih3 _ _ _ _ _ _ _ _ _ _
  | exact ih4 _ _ _ _ _ _ _ _ _
  | exact entrepotref07_tells.mono _ _ _ _
  | exact LeO.none _
  | refine LeO.ite ?_ ?_
  | refine LeO.bind ?_ (fun _ => ?_)
theorem entrepotref07_Unpack.mono : ∀ a0 a1 a2 k, LeO (entrepotref07_Unpack.f k a0 a1 a2) (entrepotref07_Unpack.f (k + 1) a0 a1 a2) := by
 intro a0 a1 a2 k
 obtain ⟨ih0, ih1, ih2, ih3, ih4⟩ := entrepotref07_Unpack.mono_l k
 unfold entrepotref07_Unpack.f
 repeat' first
   | (with_reducible exact ih0 _ _ _ _ _)
   | (with_reducible exact ih1 _ _ _ _ _ _)
   | (with_reducible exact ih2 _ _ _ _ _ _ _)
   | (with_reducible exact ih3 _ _ _ _ _ _ _ _ _ _)
   | (with_reducible exact ih4 _ _ _ _ _ _ _ _ _)
   | (with_reducible exact entrepotref07_tells.mono _ _ _ _)
   | (with_reducible exact LeO.refl _)
   | (with_reducible exact LeO.none _)
   | (with_reducible refine LeO.ite ?_ ?_)
   | (with_reducible refine LeO.bind ?_ (fun _ => ?_))
   | exact ih0 _ _ _ _ _
   | exact ih1 _ _ _ _ _ _
   | exact ih2 _ _ _ _ _ _ _
   | exact ih3 _ _ _ _ _ _ _ _ _ _
   | exact ih4 _ _ _ _ _ _ _ _ _
   | exact entrepotref07_tells.mono _ _ _ _
   | exact LeO.none _
   | refine LeO.ite ?_ ?_
   | refine LeO.bind ?_ (fun _ => ?_)
set_option maxHeartbeats 8000000 in
set_option maxRecDepth 100000 in
theorem entrepotref07_Unpack.calls (k : Nat) (a0 : Int) (a1 : Int) (A2 : Option Addr) (c2 : Nat) (l2 : List Int) (r1 : List Int) (r2 : Int) (w : World) (hr2 : Kd.C (Kd.int .i64) w A2 l2.length l2) (hc2 : l2.length ≤ c2) (h : entrepotref07_Unpack.f k a0 a1 l2 = some (r1, r2)) :
  Calls Tryd.prog 11 #[.int .i64 a0, .int .i64 a1, .slice A2 l2.length c2] w fun e w' => ∃ v0_ : Value, e = .returned (.tuple #[v0_, .int .i64 r2]) ∧ Kd.R (Kd.int .i64) 3 w' w.heap.size (fun _ => True) v0_ r1 ∧ Below w.heap.size w w' := by
 have HR2 := Aside0.mk hr2
 have HC2 := Aside0.mk hc2
 clear hr2 hc2
 have HB := Aside0.mk (Below.refl w.heap.size w)
 have H : ((entrepotref07_may.f a0 a1).bind fun t162 => (if t162 = true then ((entrepotref07_Count.f a0 a1).bind fun t163 => (if (l2.length : Int) = t163 then (entrepotref07_Unpack.l0 k a0 a1 l2 (([] : List Int)) 0) else (some (([] : List Int), 70)))) else (some (([] : List Int), 1)))) = some (r1, r2) := h
 clear h
 replace H := Option.bind_eq_some_iff.mp H
 obtain ⟨t162, A40, H⟩ := H
 replace H : (if t162 = true then ((entrepotref07_Count.f a0 a1).bind fun t163 => (if (l2.length : Int) = t163 then (entrepotref07_Unpack.l0 k a0 a1 l2 (([] : List Int)) 0) else (some (([] : List Int), 70)))) else (some (([] : List Int), 1))) = some (r1, r2) := H
 have A4 := Aside0.mk A40
 clear A40
 by_cases c5 : t162 = true
 ·subst c5
  have H1 : ((entrepotref07_Count.f a0 a1).bind fun t163 => (if (l2.length : Int) = t163 then (entrepotref07_Unpack.l0 k a0 a1 l2 (([] : List Int)) 0) else (some (([] : List Int), 70)))) = some (r1, r2) := by rw [if_pos rfl] at H; exact H
  clear H
  have H := H1
  clear H1
  replace H := Option.bind_eq_some_iff.mp H
  obtain ⟨t163, A60, H⟩ := H
  replace H : (if (l2.length : Int) = t163 then (entrepotref07_Unpack.l0 k a0 a1 l2 (([] : List Int)) 0) else (some (([] : List Int), 70))) = some (r1, r2) := H
  have A6 := Aside0.mk A60
  clear A60
  by_cases c7 : (l2.length : Int) = t163
  ·rw [if_pos c7] at H
   have c7b0 : ((l2.length : Int) == t163) = true := beq_iff_eq.mpr c7
   have c7b1 : ((l2.length : Int) != t163) = false := bne_eq_false_iff_eq.mpr c7
   clear c7
   obtain ⟨y164, hy164⟩ : ∃ y_ : List Int, y_ = (([] : List Int)) := ⟨_, rfl⟩
   replace H : (entrepotref07_Unpack.l0 k a0 a1 l2 y164 0) = some (r1, r2) := by first | (rw [hy164]; with_reducible exact H) | (have H2_ := (Option.bind_some _ _).symm.trans H; rw [hy164]; with_reducible exact H2_) | (have H2_ := (Option.bind_some _ _).symm.trans H; with_reducible exact H2_) | with_reducible exact H | (rw [hy164]; exact H) | exact H
   have Ny164 := Aside0.mk hy164
   clear hy164
   have H' := Aside0.mk H
   clear H
   go_enter Tryd.func11, Tryd.ntmps11
   go_wp2_with (first | ((with_reducible refine gate_callee (f := 24) rfl ?_); refine goesL_ (some 17) rfl rfl Tryd.func24 (by kernel_rfl) rfl #[.int .i64 a0, .int .i64 a1] rfl (by (try simp only [List.map_toArray, List.map_cons, List.map_nil]); first | done | rfl | (simp only [List.length_drop, List.length_take]; rfl)) ?_; (with_reducible refine (entrepotref07_may.calls a0 a1 true _ A4.out).mono ?_); rintro e w' ⟨rfl, ⟨nd, rfl⟩⟩; refine ⟨_, rfl, ?_⟩) | ((with_reducible refine gate_callee (f := 17) rfl ?_); refine goesL_ (some 23) rfl rfl Tryd.func17 (by kernel_rfl) rfl #[.int .i64 a0, .int .i64 a1] rfl (by (try simp only [List.map_toArray, List.map_cons, List.map_nil]); first | done | rfl | (simp only [List.length_drop, List.length_take]; rfl)) ?_; (with_reducible refine (entrepotref07_Count.calls a0 a1 t163 _ A6.out).mono ?_); rintro e w' ⟨rfl, ⟨nd, rfl⟩⟩; refine ⟨_, rfl, ?_⟩) | ((with_reducible refine gate_dst (N := 25) rfl ?_); refine Kd.R_lit (Kd.int .i64) _ 3 ?hg (N := 25) ?hd (xs := ([] : List Int)) (inner := []) (ok := fun _ => True) (okp := fun _ => True) ?hr ?hp (fun _ hk => hk) trivial (Below.refl _ _) (Nat.le_refl _) (by simp) ?_; (case hd => rfl); (case hg => rfl); (case hr => first | (go_simp; done) | (go_simp; rfl)); (case hp => exact (Reps.none _ _)); intro v165 w8 ho9 hb hg_ hnew_; clear hg_ hnew_; (first | rw [← Ny164.out] at ho9 | (simp only [Int.reduceToNat] at ho9; rw [← Ny164.out] at ho9)); have n0_ := Aside0.mk (Kd.R_lower ho9 (below_size (by repeat (first | (with_reducible first | exact HB.out | apply below_alloc | apply pw_below_drewN | apply below_drew1) | exact HB.out)))); have n1_ := Aside0.mk (below_step (by repeat (first | (with_reducible first | exact HB.out | apply below_alloc | apply pw_below_drewN | apply below_drew1) | exact HB.out)) hb); clear HB; have HO166 := n0_; have HB := n1_; clear n0_ n1_; clear hb ho9))
   go_loopg [8, 9] k (fun kq v8 v9 w' => ∃ (x8_1 : List Int) (x9_1 : Int), v9 = .int .i64 x9_1 ∧ Aside0 (entrepotref07_Unpack.l0 kq a0 a1 l2 x8_1 x9_1 = some (r1, r2)) ∧ Aside0 (kq ≤ k) ∧ Aside0 (Kd.R (Kd.int .i64) 3 w' w.heap.size (fun _ => True) v8 x8_1) ∧ Aside0 (Below w.heap.size w w'))
   case atStart => exact ⟨(y164), (0), (by first | rfl | (simp; done) | (simp [*]; done)), H', ⟨Nat.le_refl _⟩, ⟨by (with_reducible repeat (first | apply Kd.R_alloc | apply Kd.R_drewN | apply Kd.R_drew)); exact HO166.out⟩, ⟨by repeat (first | (with_reducible first | exact HB.out | apply below_alloc | apply pw_below_drewN | apply below_drew1) | exact HB.out)⟩⟩
   case round =>
    clear H'
    (try clear c2); (try clear c5); (try clear c7); (try clear c7b0); (try clear c7b1)
    obtain ⟨x8_1, x9_1, rfl, HA, HK1, HO_8, HB⟩ := hrel
    cases gk with
    | zero => exact absurd HA.out (by simp [entrepotref07_Unpack.l0])
    | succ k1 =>
     have H := HA.out
     clear HA
     simp only [entrepotref07_Unpack.l0] at H
     by_cases c10 : x9_1 < (wrap64 (a1 * a1))
     ·rw [if_pos c10] at H
      have c10b0 : decide (x9_1 < (wrap64 (a1 * a1))) = true := decide_eq_true c10
      clear c10
      by_cases c11 : x8_1.length < 17592186044416
      ·rw [if_pos c11] at H
       have LMc11 := Aside0.mk c11
       clear c11
       obtain ⟨y167, hy167⟩ : ∃ y_ : List Int, y_ = (x8_1 ++ [0]) := ⟨_, rfl⟩
       replace H : (entrepotref07_Unpack.l0 k1 a0 a1 l2 y167 (wrap64 (x9_1 + 1))) = some (r1, r2) := by first | (rw [hy167]; with_reducible exact H) | (have H2_ := (Option.bind_some _ _).symm.trans H; rw [hy167]; with_reducible exact H2_) | (have H2_ := (Option.bind_some _ _).symm.trans H; with_reducible exact H2_) | with_reducible exact H | (rw [hy167]; exact H) | exact H
       have Ny167 := Aside0.mk hy167
       clear hy167
       have H' := Aside0.mk H
       clear H
       go_wp2_with (first | ((with_reducible refine gate_builtin (b := .append) (xs := #[.tmp 33, .tmp 34]) rfl ?_); at_builtin; refine Kd.R_append (Kd.int .i64) (w0 := w) w.heap.size rfl (.tmp 33) (.tmp 34) 22 3 (.int .i64 0) 8 rfl Tryd.underlying22 info3 rfl (by decide) (by omega) u8 x8_1 0 [.int .i64 0] (fun _ => True) (fun _ => False) rfl rfl ?aP (fun _ hk => hk.elim) ?aF ?aO ?aB ?aS ?aL ?_; (case aP => exact rfl); (case aB => exact (by repeat (first | (with_reducible first | exact HB.out | apply below_alloc | apply pw_below_drewN | apply below_drew1) | exact HB.out))); (case aF => exact (fun _ _ => trivial)); (case aO => exact (by (with_reducible repeat (first | apply Kd.R_alloc | apply Kd.R_drewN | apply Kd.R_drew)); exact HO_8.out)); (case aS => exact (below_size (by repeat (first | (with_reducible first | exact HB.out | apply below_alloc | apply pw_below_drewN | apply below_drew1) | exact HB.out)))); (case aL => have := LMc11.out; omega); intro v168 w12 ho hb hg hat; rw [← Ny167.out] at ho; have n0_ := Aside0.mk (hb); have n1_ := Aside0.mk (ho); clear HB; clear HO_8; have HB := n0_; have HO169 := n1_; clear n0_ n1_; clear ho hb hg hat))
       go_roundg k1
       case measure => have := HK1.out; omega
       case rel => exact ⟨(y167), (wrap64 (x9_1 + 1)), (by first | rfl | (simp; done) | (simp [*]; done)), H', ⟨by have := HK1.out; omega⟩, ⟨by (with_reducible repeat (first | apply Kd.R_alloc | apply Kd.R_drewN | apply Kd.R_drew)); exact HO169.out⟩, ⟨by repeat (first | (with_reducible first | exact HB.out | apply below_alloc | apply pw_below_drewN | apply below_drew1) | exact HB.out)⟩⟩
      ·rw [if_neg c11] at H
       exact absurd H (by simp)
     ·rw [if_neg c10] at H
      have c10b0 : decide (x9_1 < (wrap64 (a1 * a1))) = false := decide_eq_false c10
      clear c10
      have H' := Aside0.mk H
      clear H
      go_wp2
      go_loopg [10, 11] k1 (fun kq v10 v11 w' => ∃ (x8_2 : List Int) (x10_2 : Int) (x11_2 : Int), v10 = .int .i64 x10_2 ∧ v11 = .int .i64 x11_2 ∧ Aside0 (entrepotref07_Unpack.l1 kq a0 a1 l2 x8_2 x10_2 x11_2 = some (r1, r2)) ∧ Aside0 (kq ≤ k1) ∧ Aside0 (Kd.R (Kd.int .i64) 3 w' w.heap.size (fun _ => True) u8 x8_2) ∧ Aside0 (Below w.heap.size w w'))
      case atStart => exact ⟨(x8_1), (0), (0), (by first | rfl | (simp; done) | (simp [*]; done)), (by first | rfl | (simp; done) | (simp [*]; done)), H', ⟨Nat.le_refl _⟩, ⟨by (with_reducible repeat (first | apply Kd.R_alloc | apply Kd.R_drewN | apply Kd.R_drew)); exact HO_8.out⟩, ⟨by repeat (first | (with_reducible first | exact HB.out | apply below_alloc | apply pw_below_drewN | apply below_drew1) | exact HB.out)⟩⟩
      case round =>
       clear H'
       (try clear c10); (try clear c10b0)
       obtain ⟨x8_2, x10_2, x11_2, rfl, rfl, HA, HK2, HO_8, HB⟩ := hrel
       cases gk with
       | zero => exact absurd HA.out (by simp [entrepotref07_Unpack.l1])
       | succ k2 =>
        have H := HA.out
        clear HA
        simp only [entrepotref07_Unpack.l1] at H
        by_cases c13 : x11_2 < a1
        ·rw [if_pos c13] at H
         have c13b0 : decide (x11_2 < a1) = true := decide_eq_true c13
         clear c13
         have H' := Aside0.mk H
         clear H
         go_wp2
         go_loopg [10, 12] k2 (fun kq v10 v12 w' => ∃ (x8_3 : List Int) (x10_3 : Int) (x12_3 : Int), v10 = .int .i64 x10_3 ∧ v12 = .int .i64 x12_3 ∧ Aside0 (entrepotref07_Unpack.l2 kq a0 a1 l2 x8_3 x10_3 x11_2 x12_3 = some (r1, r2)) ∧ Aside0 (kq ≤ k2) ∧ Aside0 (Kd.R (Kd.int .i64) 3 w' w.heap.size (fun _ => True) u8 x8_3) ∧ Aside0 (Below w.heap.size w w'))
         case atStart => exact ⟨(x8_2), (x10_2), (0), (by first | rfl | (simp; done) | (simp [*]; done)), (by first | rfl | (simp; done) | (simp [*]; done)), H', ⟨Nat.le_refl _⟩, ⟨by (with_reducible repeat (first | apply Kd.R_alloc | apply Kd.R_drewN | apply Kd.R_drew)); exact HO_8.out⟩, ⟨by repeat (first | (with_reducible first | exact HB.out | apply below_alloc | apply pw_below_drewN | apply below_drew1) | exact HB.out)⟩⟩
         case round =>
          clear H'
          (try clear c13); (try clear c13b0)
          obtain ⟨x8_3, x10_3, x12_3, rfl, rfl, HA, HK3, HO_8, HB⟩ := hrel
          cases gk with
          | zero => exact absurd HA.out (by simp [entrepotref07_Unpack.l2])
          | succ k3 =>
           have H := HA.out
           clear HA
           simp only [entrepotref07_Unpack.l2] at H
           by_cases c14 : x12_3 < a1
           ·rw [if_pos c14] at H
            have c14b0 : decide (x12_3 < a1) = true := decide_eq_true c14
            clear c14
            have HC15 := Aside0.mk H
            clear H
            go_upto_region 19 with (fail)
            go_cut [53] (fun v53 wc => ∃ (kq : Nat) (x53_14 : Bool), v53 = .bool x53_14 ∧ Aside0 (entrepotref07_Unpack.j3 kq a0 a1 l2 x8_3 x10_3 x11_2 x12_3 x11_2 x12_3 x53_14 = some (r1, r2)) ∧ Aside0 (kq ≤ k3) ∧ Aside0 (Kd.R (Kd.int .i64) 3 wc w.heap.size (fun _ => True) u8 x8_3) ∧ Aside0 (Below w.heap.size w wc))
            case first =>
             have H := HC15.out
             clear HC15
             by_cases c16 : a0 = 6
             ·rw [if_pos c16] at H
              have c16b0 : (a0 == 6) = true := beq_iff_eq.mpr c16
              have c16b1 : (a0 != 6) = false := bne_eq_false_iff_eq.mpr c16
              clear c16
              (first | rw [c16b0] | (simp only [i64_w, i32_w]; rw [c16b0]) | skip)
              have H' := Aside0.mk H
              clear H
              go_wp2
              go_meet
              case rel => exact ⟨_, (true), (by first | rfl | (simp; done) | (simp [*]; done)), H', ⟨by have := HK1.out; have := HK2.out; have := HK3.out; first | omega | exact Nat.le_refl _⟩, ⟨by (with_reducible repeat (first | apply Kd.R_alloc | apply Kd.R_drewN | apply Kd.R_drew)); exact HO_8.out⟩, ⟨by repeat (first | (with_reducible first | exact HB.out | apply below_alloc | apply pw_below_drewN | apply below_drew1) | exact HB.out)⟩⟩
             ·rw [if_neg c16] at H
              have c16b0 : (a0 == 6) = false := beq_eq_false_iff_ne.mpr c16
              have c16b1 : (a0 != 6) = true := bne_iff_ne.mpr c16
              (first | rw [c16b0] | (simp only [i64_w, i32_w]; rw [c16b0]) | skip)
              have H' := Aside0.mk H
              clear H
              go_wp2
              go_meet
              case rel => exact ⟨_, ((a0 == 7)), (by first | rfl | (simp; done) | (simp [*]; done)), H', ⟨by have := HK1.out; have := HK2.out; have := HK3.out; first | omega | exact Nat.le_refl _⟩, ⟨by (with_reducible repeat (first | apply Kd.R_alloc | apply Kd.R_drewN | apply Kd.R_drew)); exact HO_8.out⟩, ⟨by repeat (first | (with_reducible first | exact HB.out | apply below_alloc | apply pw_below_drewN | apply below_drew1) | exact HB.out)⟩⟩
            case rest =>
             clear HC15
             (try clear c14); (try clear c14b0)
             obtain ⟨kq, x53_14, rfl, HA, HJ14, HO_8, HB⟩ := hcut
             cases kq with
             | zero => exact absurd HA.out (by simp [entrepotref07_Unpack.j3])
             | succ kj14 =>
              have H := HA.out
              clear HA
              simp only [entrepotref07_Unpack.j3] at H
              have HC17 := Aside0.mk H
              clear H
              go_upto_if 53 with (fail)
              go_cut [13, 14] (fun v13 v14 wc => ∃ (kq : Nat) (x13_16 : Int) (x14_16 : Int), v13 = .int .i64 x13_16 ∧ v14 = .int .i64 x14_16 ∧ Aside0 (entrepotref07_Unpack.j4 kq a0 a1 l2 x8_3 x10_3 x11_2 x12_3 x13_16 x14_16 = some (r1, r2)) ∧ Aside0 (kq ≤ kj14) ∧ Aside0 (Kd.R (Kd.int .i64) 3 wc w.heap.size (fun _ => True) u8 x8_3) ∧ Aside0 (Below w.heap.size w wc))
              case first =>
               have H := HC17.out
               clear HC17
               by_cases c18 : x53_14 = true
               ·subst c18
                have H1 : (entrepotref07_Unpack.j4 kj14 a0 a1 l2 x8_3 x10_3 x11_2 x12_3 x12_3 x11_2) = some (r1, r2) := by rw [if_pos rfl] at H; exact H
                clear H
                have H := H1
                clear H1
                have H' := Aside0.mk H
                clear H
                go_wp2
                go_meet
                case rel => exact ⟨_, (x12_3), (x11_2), (by first | rfl | (simp; done) | (simp [*]; done)), (by first | rfl | (simp; done) | (simp [*]; done)), H', ⟨by have := HK1.out; have := HK2.out; have := HK3.out; have := HJ14.out; first | omega | exact Nat.le_refl _⟩, ⟨by (with_reducible repeat (first | apply Kd.R_alloc | apply Kd.R_drewN | apply Kd.R_drew)); exact HO_8.out⟩, ⟨by repeat (first | (with_reducible first | exact HB.out | apply below_alloc | apply pw_below_drewN | apply below_drew1) | exact HB.out)⟩⟩
               ·replace c18 := Bool.eq_false_iff.mpr c18
                subst c18
                have H1 : (entrepotref07_Unpack.j4 kj14 a0 a1 l2 x8_3 x10_3 x11_2 x12_3 x11_2 x12_3) = some (r1, r2) := by rw [if_neg (show ¬ (false = true) by decide)] at H; exact H
                clear H
                have H := H1
                clear H1
                have H' := Aside0.mk H
                clear H
                go_wp2
                go_meet
                case rel => exact ⟨_, (x11_2), (x12_3), (by first | rfl | (simp; done) | (simp [*]; done)), (by first | rfl | (simp; done) | (simp [*]; done)), H', ⟨by have := HK1.out; have := HK2.out; have := HK3.out; have := HJ14.out; first | omega | exact Nat.le_refl _⟩, ⟨by (with_reducible repeat (first | apply Kd.R_alloc | apply Kd.R_drewN | apply Kd.R_drew)); exact HO_8.out⟩, ⟨by repeat (first | (with_reducible first | exact HB.out | apply below_alloc | apply pw_below_drewN | apply below_drew1) | exact HB.out)⟩⟩
              case rest =>
               clear HC17
               obtain ⟨kq, x13_16, x14_16, rfl, rfl, HA, HJ16, HO_8, HB⟩ := hcut
               cases kq with
               | zero => exact absurd HA.out (by simp [entrepotref07_Unpack.j4])
               | succ kj16 =>
                have H := HA.out
                clear HA
                simp only [entrepotref07_Unpack.j4] at H
                replace H := Option.bind_eq_some_iff.mp H
                obtain ⟨t170, A190, H⟩ := H
                replace H : (if t170 = true then (if 0 ≤ x10_3 then (if x10_3 < (l2.length : Int) then (if 0 ≤ (wrap64 ((wrap64 (x13_16 * a1)) + x14_16)) then (if (wrap64 ((wrap64 (x13_16 * a1)) + x14_16)) < (x8_3.length : Int) then ((some (x8_3.set ((wrap64 ((wrap64 (x13_16 * a1)) + x14_16)) : Int).toNat (rd l2 x10_3) : List Int)).bind fun y172 => (if a0 = 1 then (entrepotref07_Unpack.l2 kj16 a0 a1 l2 y172 (wrap64 (x10_3 + 1)) x11_2 (wrap64 (x12_3 + 1))) else (if 0 ≤ (wrap64 ((wrap64 (x14_16 * a1)) + x13_16)) then (if (wrap64 ((wrap64 (x14_16 * a1)) + x13_16)) < (x8_3.length : Int) then (entrepotref07_Unpack.l2 kj16 a0 a1 l2 (y172.set ((wrap64 ((wrap64 (x14_16 * a1)) + x13_16)) : Int).toNat (rd l2 x10_3)) (wrap64 (x10_3 + 1)) x11_2 (wrap64 (x12_3 + 1))) else (none)) else (none)))) else (none)) else (none)) else (none)) else (none)) else (entrepotref07_Unpack.l2 kj16 a0 a1 l2 x8_3 x10_3 x11_2 (wrap64 (x12_3 + 1)))) = some (r1, r2) := H
                have A19 := Aside0.mk A190
                clear A190
                by_cases c20 : t170 = true
                ·subst c20
                 have H1 : (if 0 ≤ x10_3 then (if x10_3 < (l2.length : Int) then (if 0 ≤ (wrap64 ((wrap64 (x13_16 * a1)) + x14_16)) then (if (wrap64 ((wrap64 (x13_16 * a1)) + x14_16)) < (x8_3.length : Int) then ((some (x8_3.set ((wrap64 ((wrap64 (x13_16 * a1)) + x14_16)) : Int).toNat (rd l2 x10_3) : List Int)).bind fun y172 => (if a0 = 1 then (entrepotref07_Unpack.l2 kj16 a0 a1 l2 y172 (wrap64 (x10_3 + 1)) x11_2 (wrap64 (x12_3 + 1))) else (if 0 ≤ (wrap64 ((wrap64 (x14_16 * a1)) + x13_16)) then (if (wrap64 ((wrap64 (x14_16 * a1)) + x13_16)) < (x8_3.length : Int) then (entrepotref07_Unpack.l2 kj16 a0 a1 l2 (y172.set ((wrap64 ((wrap64 (x14_16 * a1)) + x13_16)) : Int).toNat (rd l2 x10_3)) (wrap64 (x10_3 + 1)) x11_2 (wrap64 (x12_3 + 1))) else (none)) else (none)))) else (none)) else (none)) else (none)) else (none)) = some (r1, r2) := by rw [if_pos rfl] at H; exact H
                 clear H
                 have H := H1
                 clear H1
                 by_cases c21 : 0 ≤ x10_3
                 ·rw [if_pos c21] at H
                  have c21b0 : decide (0 ≤ x10_3) = true := decide_eq_true c21
                  clear c21
                  by_cases c22 : x10_3 < (l2.length : Int)
                  ·rw [if_pos c22] at H
                   have c22b0 : decide (x10_3 < (l2.length : Int)) = true := decide_eq_true c22
                   clear c22
                   obtain ⟨ji23, hji23⟩ : ∃ j_ : Int, (wrap64 ((wrap64 (x13_16 * a1)) + x14_16)) = j_ := ⟨_, rfl⟩
                   replace H : (if 0 ≤ (ji23) then (if (ji23) < (x8_3.length : Int) then ((some (x8_3.set ((ji23) : Int).toNat (rd l2 x10_3) : List Int)).bind fun y172 => (if a0 = 1 then (entrepotref07_Unpack.l2 kj16 a0 a1 l2 y172 (wrap64 (x10_3 + 1)) x11_2 (wrap64 (x12_3 + 1))) else (if 0 ≤ (wrap64 ((wrap64 (x14_16 * a1)) + x13_16)) then (if (wrap64 ((wrap64 (x14_16 * a1)) + x13_16)) < (x8_3.length : Int) then (entrepotref07_Unpack.l2 kj16 a0 a1 l2 (y172.set ((wrap64 ((wrap64 (x14_16 * a1)) + x13_16)) : Int).toNat (rd l2 x10_3)) (wrap64 (x10_3 + 1)) x11_2 (wrap64 (x12_3 + 1))) else (none)) else (none)))) else (none)) else (none)) = some (r1, r2) := by first | (rw [hji23] at H; exact H) | (simp only [hji23] at H ⊢; exact H)
                   (try rw [hji23] at A19)
                   have hji23w : (IntKind.i64.wrap ((wrap64 (x13_16 * a1)) + x14_16)) = ji23 := (i64_w _).trans hji23
                   by_cases c24 : 0 ≤ (ji23)
                   ·rw [if_pos c24] at H
                    have c24b0 : decide (0 ≤ (ji23)) = true := decide_eq_true c24
                    clear c24
                    by_cases c25 : (ji23) < (x8_3.length : Int)
                    ·rw [if_pos c25] at H
                     have c25b0 : decide ((ji23) < (x8_3.length : Int)) = true := decide_eq_true c25
                     clear c25
                     obtain ⟨y172, hy172⟩ : ∃ y_ : List Int, y_ = (x8_3.set ((ji23) : Int).toNat (rd l2 x10_3)) := ⟨_, rfl⟩
                     replace H : (if a0 = 1 then (entrepotref07_Unpack.l2 kj16 a0 a1 l2 y172 (wrap64 (x10_3 + 1)) x11_2 (wrap64 (x12_3 + 1))) else (if 0 ≤ (wrap64 ((wrap64 (x14_16 * a1)) + x13_16)) then (if (wrap64 ((wrap64 (x14_16 * a1)) + x13_16)) < (x8_3.length : Int) then (entrepotref07_Unpack.l2 kj16 a0 a1 l2 (y172.set ((wrap64 ((wrap64 (x14_16 * a1)) + x13_16)) : Int).toNat (rd l2 x10_3)) (wrap64 (x10_3 + 1)) x11_2 (wrap64 (x12_3 + 1))) else (none)) else (none))) = some (r1, r2) := by first | (rw [hy172]; with_reducible exact H) | (have H2_ := (Option.bind_some _ _).symm.trans H; rw [hy172]; with_reducible exact H2_) | (have H2_ := (Option.bind_some _ _).symm.trans H; with_reducible exact H2_) | with_reducible exact H | (rw [hy172]; exact H) | exact H
                     have Ny172 := Aside0.mk hy172
                     clear hy172
                     by_cases c27 : a0 = 1
                     ·rw [if_pos c27] at H
                      have c27b0 : (a0 == 1) = true := beq_iff_eq.mpr c27
                      have c27b1 : (a0 != 1) = false := bne_eq_false_iff_eq.mpr c27
                      clear c27
                      have H' := Aside0.mk H
                      clear H
                      go_wp2_with (first | ((with_reducible refine gate_callee (f := 25) rfl ?_); refine goesL_ (some 59) rfl rfl Tryd.func25 (by kernel_rfl) rfl #[.int .i64 a0, .int .i64 x13_16, .int .i64 x14_16] rfl (by (try simp only [List.map_toArray, List.map_cons, List.map_nil]); first | done | rfl | (simp only [List.length_drop, List.length_take]; rfl)) ?_; (with_reducible refine (entrepotref07_tells.calls kj16 a0 x13_16 x14_16 true _ A19.out).mono ?_); rintro e w' ⟨rfl, ⟨nd, rfl⟩⟩; refine ⟨_, rfl, ?_⟩; (try (rw [drewN_self wc]; generalize hq_ : World.drewN wc _ = wc; have n0_ : Aside0 (Kd.R (Kd.int .i64) 3 wc w.heap.size (fun _ => True) u8 x8_3) := ⟨by rw [← hq_]; exact (by (with_reducible repeat (first | apply Kd.R_alloc | apply Kd.R_drewN | apply Kd.R_drew)); exact HO_8.out)⟩; have n1_ : Aside0 (Below w.heap.size w wc) := ⟨by rw [← hq_]; exact (by repeat (first | (with_reducible first | exact HB.out | apply below_alloc | apply pw_below_drewN | apply below_drew1) | exact HB.out))⟩; clear HO_8 HB hq_; have HO_8 := n0_; have HB := n1_; clear n0_ n1_)); have p171 : 0 ≤ (x10_3 : Int) := of_decide_eq_true (by first | (with_reducible assumption) | assumption); have q171 : x10_3 < (l2.length : Int) := of_decide_eq_true (by first | (with_reducible assumption) | assumption); obtain ⟨ad171, e171, hx171_0⟩ := Kd.at_int HR2.out x10_3 p171 q171; cases e171; replace hx171_0 := (HB.out.cell (World.block_lt_of_cell? w _ hx171_0)).trans hx171_0; replace p171 := eq_true p171; replace q171 := eq_true q171; have p26 : 0 ≤ ((ji23) : Int) := of_decide_eq_true (by first | (with_reducible assumption) | assumption); have q26 : ((ji23) : Int) < ((x8_3.length : Int) : Int) := of_decide_eq_true (by first | (with_reducible assumption) | assumption); obtain ⟨go26, co26, eo26, gb26, gl26, cl26, HG26⟩ := Kd.R_form HO_8.out (by omega); (first | cases eo26 | (injection eo26 with ea_ en_ ec_; (first | subst ea_ | (injection ea_ with ea_; subst ea_)); subst ec_; clear en_)); have GB26 := Aside0.mk gb26; have GG26 := Aside0.mk HG26; clear gb26 gl26 HG26; obtain ⟨hx26_0, hf26_0⟩ := Kd.R_celln 0 HO_8.out ((ji23) : Int) p26 q26; replace p26 := eq_true p26; replace q26 := eq_true q26; obtain ⟨hy28_, hz28_⟩ := Kd.R_celln 0 HO_8.out ((ji23) : Int) (of_decide_eq_true (by first | (with_reducible assumption) | assumption)) (of_decide_eq_true (by first | (with_reducible assumption) | assumption)); have HP28 := Kd.R_putg HO_8.out ((ji23) : Int) (rd l2 x10_3)) | ((with_reducible refine gate_store (t := 3) (p := 70) rfl ?_); refine store_event (t := 3) (p := 70) (v := ?vo_w29) (w1 := (wc.setCell ⟨go26, ((ji23) : Int).toNat, none⟩ (.int .i64 (rd l2 x10_3)))) ?hg ?ho ?hn ?hr ?_; (case ho => rfl); (case hg => rfl); (case hn => rfl); (case hr => first | (go_simp; done) | (go_simp; rfl)); intro w29 hw; have hg : wc.grownBy w29 (some go26) := (by rw [hw]; exact HP28.2); have hp_ : Kd.R (Kd.int .i64) 3 w29 w.heap.size (fun _ => True) (.slice (some ⟨go26, 0, none⟩) x8_3.length co26) y172 := (by rw [hw, Ny172.out]; exact HP28.1); clear HP28; have n0_ := Aside0.mk (hp_); have n1_ := Aside0.mk ((by rw [hw]; exact below_set (HB.out) GB26.out : Below w.heap.size w w29)); clear HO_8; clear HB; have HO_8 := n0_; have HB := n1_; clear n0_ n1_; clear hg hw hp_))
                      go_roundg kj16
                      case measure => have := HK1.out; have := HK2.out; have := HK3.out; have := HJ14.out; have := HJ16.out; omega
                      case rel => exact ⟨(y172), (wrap64 (x10_3 + 1)), (wrap64 (x12_3 + 1)), (by first | rfl | (simp; done) | (simp [*]; done)), (by first | rfl | (simp; done) | (simp [*]; done)), H', ⟨by have := HK1.out; have := HK2.out; have := HK3.out; have := HJ14.out; have := HJ16.out; omega⟩, ⟨by (with_reducible repeat (first | apply Kd.R_alloc | apply Kd.R_drewN | apply Kd.R_drew)); exact HO_8.out⟩, ⟨by repeat (first | (with_reducible first | exact HB.out | apply below_alloc | apply pw_below_drewN | apply below_drew1) | exact HB.out)⟩⟩
                     ·rw [if_neg c27] at H
                      have c27b0 : (a0 == 1) = false := beq_eq_false_iff_ne.mpr c27
                      have c27b1 : (a0 != 1) = true := bne_iff_ne.mpr c27
                      obtain ⟨ji30, hji30⟩ : ∃ j_ : Int, (wrap64 ((wrap64 (x14_16 * a1)) + x13_16)) = j_ := ⟨_, rfl⟩
                      replace H : (if 0 ≤ (ji30) then (if (ji30) < (x8_3.length : Int) then (entrepotref07_Unpack.l2 kj16 a0 a1 l2 (y172.set ((ji30) : Int).toNat (rd l2 x10_3)) (wrap64 (x10_3 + 1)) x11_2 (wrap64 (x12_3 + 1))) else (none)) else (none)) = some (r1, r2) := by first | (rw [hji30] at H; exact H) | (simp only [hji30] at H ⊢; exact H)
                      (try rw [hji30] at A19)
                      have hji30w : (IntKind.i64.wrap ((wrap64 (x14_16 * a1)) + x13_16)) = ji30 := (i64_w _).trans hji30
                      by_cases c31 : 0 ≤ (ji30)
                      ·rw [if_pos c31] at H
                       have c31b0 : decide (0 ≤ (ji30)) = true := decide_eq_true c31
                       clear c31
                       by_cases c32 : (ji30) < (x8_3.length : Int)
                       ·rw [if_pos c32] at H
                        have c32b0 : decide ((ji30) < (x8_3.length : Int)) = true := decide_eq_true c32
                        clear c32
                        obtain ⟨y174, hy174⟩ : ∃ y_ : List Int, y_ = (y172.set ((ji30) : Int).toNat (rd l2 x10_3)) := ⟨_, rfl⟩
                        replace H : (entrepotref07_Unpack.l2 kj16 a0 a1 l2 y174 (wrap64 (x10_3 + 1)) x11_2 (wrap64 (x12_3 + 1))) = some (r1, r2) := by first | (rw [hy174]; with_reducible exact H) | (have H2_ := (Option.bind_some _ _).symm.trans H; rw [hy174]; with_reducible exact H2_) | (have H2_ := (Option.bind_some _ _).symm.trans H; with_reducible exact H2_) | with_reducible exact H | (rw [hy174]; exact H) | exact H
                        have Ny174 := Aside0.mk hy174
                        clear hy174
                        have H' := Aside0.mk H
                        clear H
                        go_wp2_with (first | ((with_reducible refine gate_callee (f := 25) rfl ?_); refine goesL_ (some 59) rfl rfl Tryd.func25 (by kernel_rfl) rfl #[.int .i64 a0, .int .i64 x13_16, .int .i64 x14_16] rfl (by (try simp only [List.map_toArray, List.map_cons, List.map_nil]); first | done | rfl | (simp only [List.length_drop, List.length_take]; rfl)) ?_; (with_reducible refine (entrepotref07_tells.calls kj16 a0 x13_16 x14_16 true _ A19.out).mono ?_); rintro e w' ⟨rfl, ⟨nd, rfl⟩⟩; refine ⟨_, rfl, ?_⟩; (try (rw [drewN_self wc]; generalize hq_ : World.drewN wc _ = wc; have n0_ : Aside0 (Kd.R (Kd.int .i64) 3 wc w.heap.size (fun _ => True) u8 x8_3) := ⟨by rw [← hq_]; exact (by (with_reducible repeat (first | apply Kd.R_alloc | apply Kd.R_drewN | apply Kd.R_drew)); exact HO_8.out)⟩; have n1_ : Aside0 (Below w.heap.size w wc) := ⟨by rw [← hq_]; exact (by repeat (first | (with_reducible first | exact HB.out | apply below_alloc | apply pw_below_drewN | apply below_drew1) | exact HB.out))⟩; clear HO_8 HB hq_; have HO_8 := n0_; have HB := n1_; clear n0_ n1_)); have p171 : 0 ≤ (x10_3 : Int) := of_decide_eq_true (by first | (with_reducible assumption) | assumption); have q171 : x10_3 < (l2.length : Int) := of_decide_eq_true (by first | (with_reducible assumption) | assumption); obtain ⟨ad171, e171, hx171_0⟩ := Kd.at_int HR2.out x10_3 p171 q171; cases e171; replace hx171_0 := (HB.out.cell (World.block_lt_of_cell? w _ hx171_0)).trans hx171_0; replace p171 := eq_true p171; replace q171 := eq_true q171; have p26 : 0 ≤ ((ji23) : Int) := of_decide_eq_true (by first | (with_reducible assumption) | assumption); have q26 : ((ji23) : Int) < ((x8_3.length : Int) : Int) := of_decide_eq_true (by first | (with_reducible assumption) | assumption); obtain ⟨go26, co26, eo26, gb26, gl26, cl26, HG26⟩ := Kd.R_form HO_8.out (by omega); (first | cases eo26 | (injection eo26 with ea_ en_ ec_; (first | subst ea_ | (injection ea_ with ea_; subst ea_)); subst ec_; clear en_)); have GB26 := Aside0.mk gb26; have GG26 := Aside0.mk HG26; clear gb26 gl26 HG26; obtain ⟨hx26_0, hf26_0⟩ := Kd.R_celln 0 HO_8.out ((ji23) : Int) p26 q26; replace p26 := eq_true p26; replace q26 := eq_true q26; obtain ⟨hy34_, hz34_⟩ := Kd.R_celln 0 HO_8.out ((ji23) : Int) (of_decide_eq_true (by first | (with_reducible assumption) | assumption)) (of_decide_eq_true (by first | (with_reducible assumption) | assumption)); have HP34 := Kd.R_putg HO_8.out ((ji23) : Int) (rd l2 x10_3)) | ((with_reducible refine gate_store (t := 3) (p := 70) rfl ?_); refine store_event (t := 3) (p := 70) (v := ?vo_w35) (w1 := (wc.setCell ⟨go26, ((ji23) : Int).toNat, none⟩ (.int .i64 (rd l2 x10_3)))) ?hg ?ho ?hn ?hr ?_; (case ho => rfl); (case hg => rfl); (case hn => rfl); (case hr => first | (go_simp; done) | (go_simp; rfl)); intro w35 hw; have hg : wc.grownBy w35 (some go26) := (by rw [hw]; exact HP34.2); have hp_ : Kd.R (Kd.int .i64) 3 w35 w.heap.size (fun _ => True) (.slice (some ⟨go26, 0, none⟩) x8_3.length co26) y172 := (by rw [hw, Ny172.out]; exact HP34.1); clear HP34; have n0_ := Aside0.mk (hp_); have n1_ := Aside0.mk ((by rw [hw]; exact below_set (HB.out) GB26.out : Below w.heap.size w w35)); clear HO_8; clear HB; have HO_8 := n0_; have HB := n1_; clear n0_ n1_; clear hg hw hp_; have p173 : 0 ≤ (x10_3 : Int) := of_decide_eq_true (by first | (with_reducible assumption) | assumption); have q173 : x10_3 < (l2.length : Int) := of_decide_eq_true (by first | (with_reducible assumption) | assumption); obtain ⟨ad173, e173, hx173_0⟩ := Kd.at_int HR2.out x10_3 p173 q173; obtain rfl : ad171 = ad173 := (by injection e173); replace hx173_0 := (HB.out.cell (World.block_lt_of_cell? w _ hx173_0)).trans hx173_0; replace p173 := eq_true p173; replace q173 := eq_true q173; have p33 : 0 ≤ ((ji30) : Int) := of_decide_eq_true (by first | (with_reducible assumption) | assumption); have q33 : ((ji30) : Int) < ((x8_3.length : Int) : Int) := of_decide_eq_true (by first | (with_reducible assumption) | assumption); obtain ⟨hx33_0, hf33_0⟩ := Kd.R_celln 0 HO_8.out ((ji30) : Int) p33 q33; replace p33 := eq_true p33; replace q33 := eq_true q33; obtain ⟨hy36_, hz36_⟩ := Kd.R_celln 0 HO_8.out ((ji30) : Int) (of_decide_eq_true (by first | (with_reducible assumption) | assumption)) (of_decide_eq_true (by first | (with_reducible assumption) | assumption)); have HP36 := Kd.R_putg HO_8.out ((ji30) : Int) (rd l2 x10_3)) | ((with_reducible refine gate_store (t := 3) (p := 83) rfl ?_); refine store_event (t := 3) (p := 83) (v := ?vo_w37) (w1 := (w35.setCell ⟨go26, ((ji30) : Int).toNat, none⟩ (.int .i64 (rd l2 x10_3)))) ?hg ?ho ?hn ?hr ?_; (case ho => rfl); (case hg => rfl); (case hn => rfl); (case hr => first | (go_simp; done) | (go_simp; rfl)); intro w37 hw; have hg : w35.grownBy w37 (some go26) := (by rw [hw]; exact HP36.2); have hp_ : Kd.R (Kd.int .i64) 3 w37 w.heap.size (fun _ => True) (.slice (some ⟨go26, 0, none⟩) x8_3.length co26) y174 := (by rw [hw, Ny174.out]; exact HP36.1); clear HP36; have n0_ := Aside0.mk (hp_); have n1_ := Aside0.mk ((by rw [hw]; exact below_set (HB.out) GB26.out : Below w.heap.size w w37)); clear HO_8; clear HB; have HO_8 := n0_; have HB := n1_; clear n0_ n1_; clear hg hw hp_))
                        go_roundg kj16
                        case measure => have := HK1.out; have := HK2.out; have := HK3.out; have := HJ14.out; have := HJ16.out; omega
                        case rel => exact ⟨(y174), (wrap64 (x10_3 + 1)), (wrap64 (x12_3 + 1)), (by first | rfl | (simp; done) | (simp [*]; done)), (by first | rfl | (simp; done) | (simp [*]; done)), H', ⟨by have := HK1.out; have := HK2.out; have := HK3.out; have := HJ14.out; have := HJ16.out; omega⟩, ⟨by (with_reducible repeat (first | apply Kd.R_alloc | apply Kd.R_drewN | apply Kd.R_drew)); exact HO_8.out⟩, ⟨by repeat (first | (with_reducible first | exact HB.out | apply below_alloc | apply pw_below_drewN | apply below_drew1) | exact HB.out)⟩⟩
                       ·rw [if_neg c32] at H
                        exact absurd H (by simp)
                      ·rw [if_neg c31] at H
                       exact absurd H (by simp)
                    ·rw [if_neg c25] at H
                     exact absurd H (by simp)
                   ·rw [if_neg c24] at H
                    exact absurd H (by simp)
                  ·rw [if_neg c22] at H
                   exact absurd H (by simp)
                 ·rw [if_neg c21] at H
                  exact absurd H (by simp)
                ·replace c20 := Bool.eq_false_iff.mpr c20
                 subst c20
                 have H1 : (entrepotref07_Unpack.l2 kj16 a0 a1 l2 x8_3 x10_3 x11_2 (wrap64 (x12_3 + 1))) = some (r1, r2) := by rw [if_neg (show ¬ (false = true) by decide)] at H; exact H
                 clear H
                 have H := H1
                 clear H1
                 have H' := Aside0.mk H
                 clear H
                 go_wp2_with (first | ((with_reducible refine gate_callee (f := 25) rfl ?_); refine goesL_ (some 59) rfl rfl Tryd.func25 (by kernel_rfl) rfl #[.int .i64 a0, .int .i64 x13_16, .int .i64 x14_16] rfl (by (try simp only [List.map_toArray, List.map_cons, List.map_nil]); first | done | rfl | (simp only [List.length_drop, List.length_take]; rfl)) ?_; (with_reducible refine (entrepotref07_tells.calls kj16 a0 x13_16 x14_16 false _ A19.out).mono ?_); rintro e w' ⟨rfl, ⟨nd, rfl⟩⟩; refine ⟨_, rfl, ?_⟩))
                 go_roundg kj16
                 case measure => have := HK1.out; have := HK2.out; have := HK3.out; have := HJ14.out; have := HJ16.out; omega
                 case rel => exact ⟨(x8_3), (x10_3), (wrap64 (x12_3 + 1)), (by first | rfl | (simp; done) | (simp [*]; done)), (by first | rfl | (simp; done) | (simp [*]; done)), H', ⟨by have := HK1.out; have := HK2.out; have := HK3.out; have := HJ14.out; have := HJ16.out; omega⟩, ⟨by (with_reducible repeat (first | apply Kd.R_alloc | apply Kd.R_drewN | apply Kd.R_drew)); exact HO_8.out⟩, ⟨by repeat (first | (with_reducible first | exact HB.out | apply below_alloc | apply pw_below_drewN | apply below_drew1) | exact HB.out)⟩⟩
           ·rw [if_neg c14] at H
            have c14b0 : decide (x12_3 < a1) = false := decide_eq_false c14
            clear c14
            have H' := Aside0.mk H
            clear H
            go_wp2
            go_roundg k3
            case measure => have := HK1.out; have := HK2.out; have := HK3.out; omega
            case rel => exact ⟨(x8_3), (x10_3), (wrap64 (x11_2 + 1)), (by first | rfl | (simp; done) | (simp [*]; done)), (by first | rfl | (simp; done) | (simp [*]; done)), H', ⟨by have := HK1.out; have := HK2.out; have := HK3.out; omega⟩, ⟨by (with_reducible repeat (first | apply Kd.R_alloc | apply Kd.R_drewN | apply Kd.R_drew)); exact HO_8.out⟩, ⟨by repeat (first | (with_reducible first | exact HB.out | apply below_alloc | apply pw_below_drewN | apply below_drew1) | exact HB.out)⟩⟩
        ·rw [if_neg c13] at H
         have c13b0 : decide (x11_2 < a1) = false := decide_eq_false c13
         clear c13
         simp only [Option.some.injEq, Prod.mk.injEq] at H
         obtain ⟨rfl, rfl⟩ := H
         go_wp2
         go_ret2
         exact ⟨_, by first | rfl | (simp [errW_none, errW_some] <;> rfl) | (simp [*, errW_none, errW_some] <;> rfl), by (with_reducible repeat (first | apply Kd.R_alloc | apply Kd.R_drewN | apply Kd.R_drew)); exact HO_8.out, by repeat (first | (with_reducible first | exact HB.out | apply below_alloc | apply pw_below_drewN | apply below_drew1) | exact HB.out)⟩
  ·rw [if_neg c7] at H
   have c7b0 : ((l2.length : Int) == t163) = false := beq_eq_false_iff_ne.mpr c7
   have c7b1 : ((l2.length : Int) != t163) = true := bne_iff_ne.mpr c7
   simp only [Option.some.injEq, Prod.mk.injEq] at H
   obtain ⟨rfl, rfl⟩ := H
   go_enter Tryd.func11, Tryd.ntmps11
   go_wp2_with (first | ((with_reducible refine gate_callee (f := 24) rfl ?_); refine goesL_ (some 17) rfl rfl Tryd.func24 (by kernel_rfl) rfl #[.int .i64 a0, .int .i64 a1] rfl (by (try simp only [List.map_toArray, List.map_cons, List.map_nil]); first | done | rfl | (simp only [List.length_drop, List.length_take]; rfl)) ?_; (with_reducible refine (entrepotref07_may.calls a0 a1 true _ A4.out).mono ?_); rintro e w' ⟨rfl, ⟨nd, rfl⟩⟩; refine ⟨_, rfl, ?_⟩) | ((with_reducible refine gate_callee (f := 17) rfl ?_); refine goesL_ (some 23) rfl rfl Tryd.func17 (by kernel_rfl) rfl #[.int .i64 a0, .int .i64 a1] rfl (by (try simp only [List.map_toArray, List.map_cons, List.map_nil]); first | done | rfl | (simp only [List.length_drop, List.length_take]; rfl)) ?_; (with_reducible refine (entrepotref07_Count.calls a0 a1 t163 _ A6.out).mono ?_); rintro e w' ⟨rfl, ⟨nd, rfl⟩⟩; refine ⟨_, rfl, ?_⟩))
   go_ret2
   exact ⟨_, by first | rfl | (simp [errW_none, errW_some] <;> rfl) | (simp [*, errW_none, errW_some] <;> rfl), by first | exact Kd.R_nil _ _ _ _ _ | exact Kd.N_nil _ _ _ _ _ | exact Kd.V_nil _ _ _ _ _ | exact Kd.Q_nil _ _ _ _ _ | exact Kd.S_nil _ _ _ _ _, by repeat (first | (with_reducible first | exact HB.out | apply below_alloc | apply pw_below_drewN | apply below_drew1) | exact HB.out)⟩
 ·replace c5 := Bool.eq_false_iff.mpr c5
  subst c5
  have H1 : (some (([] : List Int), 1)) = some (r1, r2) := by rw [if_neg (show ¬ (false = true) by decide)] at H; exact H
  clear H
  have H := H1
  clear H1
  simp only [Option.some.injEq, Prod.mk.injEq] at H
  obtain ⟨rfl, rfl⟩ := H
  go_enter Tryd.func11, Tryd.ntmps11
  go_wp2_with (first | ((with_reducible refine gate_callee (f := 24) rfl ?_); refine goesL_ (some 17) rfl rfl Tryd.func24 (by kernel_rfl) rfl #[.int .i64 a0, .int .i64 a1] rfl (by (try simp only [List.map_toArray, List.map_cons, List.map_nil]); first | done | rfl | (simp only [List.length_drop, List.length_take]; rfl)) ?_; (with_reducible refine (entrepotref07_may.calls a0 a1 false _ A4.out).mono ?_); rintro e w' ⟨rfl, ⟨nd, rfl⟩⟩; refine ⟨_, rfl, ?_⟩))
  go_ret2
  exact ⟨_, by first | rfl | (simp [errW_none, errW_some] <;> rfl) | (simp [*, errW_none, errW_some] <;> rfl), by first | exact Kd.R_nil _ _ _ _ _ | exact Kd.N_nil _ _ _ _ _ | exact Kd.V_nil _ _ _ _ _ | exact Kd.Q_nil _ _ _ _ _ | exact Kd.S_nil _ _ _ _ _, by repeat (first | (with_reducible first | exact HB.out | apply below_alloc | apply pw_below_drewN | apply below_drew1) | exact HB.out)⟩

end Go.Proofs.YtdgdhmglcpkkiaaDoor.P
