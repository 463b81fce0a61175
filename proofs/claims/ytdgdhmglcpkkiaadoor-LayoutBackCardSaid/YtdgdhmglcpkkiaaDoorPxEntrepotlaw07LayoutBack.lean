/- Written by a program of this session, after the kit's print: Lean functions for Go functions, and the proof that the machine comes to their answers. -/
import Derived.Test.YtdgdhmglcpkkiaaDoorPx0
import Derived.Test.YtdgdhmglcpkkiaaDoorPxEntrepotlaw07shown
import Derived.Test.YtdgdhmglcpkkiaaDoorPxEntrepotref07Ints
import Derived.Test.YtdgdhmglcpkkiaaDoorMlb
import Derived.Test.YtdgdhmglcpkkiaaDoorGLayF
namespace Go.Proofs.YtdgdhmglcpkkiaaDoor.P
open Go.RowKit Go.Proofs.YtdgdhmglcpkkiaaDoorW.PrintWords Go.Proofs.YtdgdhmglcpkkiaaDoorW.PrintLast Go.Proofs.YtdgdhmglcpkkiaaDoorW.PrintMore
attribute [local go_sem] max2_int min2_int max_two min_two max_three min_three max_four min_four   -- for this text's walks alone
set_option linter.unusedVariables false
set_option linter.unusedSimpArgs false

/-! ### entrepotlaw07_LayoutBack: function 5 -/
mutual
def entrepotlaw07_LayoutBack.j0 : Nat → Int → Int → List Int → Bool → Option (Bool)
 | 0, _, _, _, _ => none
 | k + 1, x0, x1, x2, x29 => if x29 = true then ((entrepotlaw07_shown.f k).bind fun t218 => (some t218)) else ((layout_Unpack.f k x0 x1 x2).bind fun bt219 => (if bt219.2 = 0 then ((layout_Pack.f x0 x1 bt219.1).bind fun bt223 => (if bt223.2 = 0 then ((entrepotref07_Ints.f k bt223.1 x2).bind fun t227 => (if t227 = true then (entrepotlaw07_LayoutBack.j1 k x0 x1 x2) else (some false))) else (some false))) else (entrepotlaw07_LayoutBack.j1 k x0 x1 x2)))
def entrepotlaw07_LayoutBack.j1 : Nat → Int → Int → List Int → Option (Bool)
 | 0, _, _, _ => none
 | k + 1, x0, x1, x2 => (layout_Pack.f x0 x1 x2).bind fun bt228 => (if bt228.2 = 0 then ((layout_Unpack.f k x0 x1 bt228.1).bind fun bt232 => (if bt232.2 = 0 then ((entrepotref07_Ints.f k bt232.1 x2).bind fun t236 => (some t236)) else (some false))) else (some ((bt228.1.length : Int) == 0)))
end
def entrepotlaw07_LayoutBack.f (k : Nat) (a0 : Int) (a1 : Int) (l2 : List Int) : Option (Bool) := if (l2.length : Int) > 400 then (entrepotlaw07_LayoutBack.j0 k a0 a1 l2 true) else (if a1 > 20 then (if a1 ≤ 400 then (entrepotlaw07_LayoutBack.j0 k a0 a1 l2 true) else ((entrepotlaw07_shown.f k).bind fun t216 => (entrepotlaw07_LayoutBack.j0 k a0 a1 l2 (!t216)))) else ((entrepotlaw07_shown.f k).bind fun t217 => (entrepotlaw07_LayoutBack.j0 k a0 a1 l2 (!t217))))
theorem entrepotlaw07_LayoutBack.mono_l : ∀ k, (∀ y0 y1 y2 y3, LeO (entrepotlaw07_LayoutBack.j0 k y0 y1 y2 y3) (entrepotlaw07_LayoutBack.j0 (k + 1) y0 y1 y2 y3)) ∧ (∀ y0 y1 y2, LeO (entrepotlaw07_LayoutBack.j1 k y0 y1 y2) (entrepotlaw07_LayoutBack.j1 (k + 1) y0 y1 y2))
 | 0 => ⟨fun _ _ _ _ r h => by simp [entrepotlaw07_LayoutBack.j0] at h, fun _ _ _ r h => by simp [entrepotlaw07_LayoutBack.j1] at h⟩
 | k + 1 => by
  obtain ⟨ih0, ih1⟩ := entrepotlaw07_LayoutBack.mono_l k
  refine ⟨?_, ?_⟩
  ·intro y0 y1 y2 y3
   unfold entrepotlaw07_LayoutBack.j0
   repeat' first
   | (with_reducible exact ih0 _ _ _ _)
   | (with_reducible exact ih1 _ _ _)
   | (with_reducible exact entrepotlaw07_shown.mono _)
   | (with_reducible exact entrepotref07_Ints.mono _ _ _)
   | (with_reducible exact layout_Unpack.mono _ _ _ _)
   | (with_reducible exact LeO.refl _)
   | (with_reducible exact LeO.none _)
   | (with_reducible refine LeO.ite ?_ ?_)
   | (with_reducible refine LeO.bind ?_ (fun _ => ?_))
   | exact ih0 _ _ _ _
   | exact ih1 _ _ _
   | exact entrepotlaw07_shown.mono _
   | exact entrepotref07_Ints.mono _ _ _
   | exact layout_Unpack.mono _ _ _ _
   | exact LeO.none _
   | refine LeO.ite ?_ ?_
   | refine LeO.bind ?_ (fun _ => ?_)
  ·intro y0 y1 y2
   unfold entrepotlaw07_LayoutBack.j1
   repeat' first
   | (with_reducible exact ih0 _ _ _ _)
   | (with_reducible exact ih1 _ _ _)
   | (with_reducible exact entrepotlaw07_shown.mono _)
   | (with_reducible exact entrepotref07_Ints.mono _ _ _)
   | (with_reducible exact layout_Unpack.mono _ _ _ _)
   | (with_reducible exact LeO.refl _)
   | (with_reducible exact LeO.none _)
   | (with_reducible refine LeO.ite ?_ ?_)
   | (with_reducible refine LeO.bind ?_ (fun _ => ?_))
   | exact ih0 _ _ _ _
   | exact ih1 _ _ _
   | exact entrepotlaw07_shown.mono _
   | exact entrepotref07_Ints.mono _ _ _
   | exact layout_Unpack.mono _ _ _ _
   | exact LeO.none _
   | refine LeO.ite ?_ ?_
   | refine LeO.bind ?_ (fun _ => ?_)
theorem entrepotlaw07_LayoutBack.mono : ∀ a0 a1 a2 k, LeO (entrepotlaw07_LayoutBack.f k a0 a1 a2) (entrepotlaw07_LayoutBack.f (k + 1) a0 a1 a2) := by
 intro a0 a1 a2 k
 obtain ⟨ih0, ih1⟩ := entrepotlaw07_LayoutBack.mono_l k
 unfold entrepotlaw07_LayoutBack.f
 repeat' first
   | (with_reducible exact ih0 _ _ _ _)
   | (with_reducible exact ih1 _ _ _)
   | (with_reducible exact entrepotlaw07_shown.mono _)
   | (with_reducible exact entrepotref07_Ints.mono _ _ _)
   | (with_reducible exact layout_Unpack.mono _ _ _ _)
   | (with_reducible exact LeO.refl _)
   | (with_reducible exact LeO.none _)
   | (with_reducible refine LeO.ite ?_ ?_)
   | (with_reducible refine LeO.bind ?_ (fun _ => ?_))
   | exact ih0 _ _ _ _
   | exact ih1 _ _ _
   | exact entrepotlaw07_shown.mono _
   | exact entrepotref07_Ints.mono _ _ _
   | exact layout_Unpack.mono _ _ _ _
   | exact LeO.none _
   | refine LeO.ite ?_ ?_
   | refine LeO.bind ?_ (fun _ => ?_)
set_option maxHeartbeats 8000000 in
set_option maxRecDepth 100000 in
theorem entrepotlaw07_LayoutBack.callsT (k : Nat) (a0 : Int) (a1 : Int) (A2 : Option Addr) (c2 : Nat) (l2 : List Int) (r : Bool) (w : World) (hr2 : Kd.C (Kd.int .i64) w A2 l2.length l2) (hc2 : l2.length ≤ c2) (ht : Tab w) (h : entrepotlaw07_LayoutBack.f k a0 a1 l2 = some r) (hr_ : Aside0 (r = true)) :
  Calls Tryd.prog 5 #[.int .i64 a0, .int .i64 a1, .slice A2 l2.length c2] w fun e w' => e = .returned (.bool r) ∧ Below w.heap.size w w' := by
 have HTab_ := Aside0.mk ht
 clear ht
 have HR2 := Aside0.mk hr2
 have HC2 := Aside0.mk hc2
 clear hr2 hc2
 have HB := Aside0.mk (Below.refl w.heap.size w)
 have H : (if (l2.length : Int) > 400 then (entrepotlaw07_LayoutBack.j0 k a0 a1 l2 true) else (if a1 > 20 then (if a1 ≤ 400 then (entrepotlaw07_LayoutBack.j0 k a0 a1 l2 true) else ((entrepotlaw07_shown.f k).bind fun t216 => (entrepotlaw07_LayoutBack.j0 k a0 a1 l2 (!t216)))) else ((entrepotlaw07_shown.f k).bind fun t217 => (entrepotlaw07_LayoutBack.j0 k a0 a1 l2 (!t217))))) = some r := h
 clear h
 have HC4 := Aside0.mk H
 clear H
 go_enter Tryd.func5, Tryd.ntmps5
 go_upto_region 1 with (fail)
 go_cut [29] (fun v29 wc => ∃ (kq : Nat) (x29_3 : Bool), v29 = .bool x29_3 ∧ Aside0 (entrepotlaw07_LayoutBack.j0 kq a0 a1 l2 x29_3 = some r) ∧ Aside0 (kq ≤ k) ∧ Aside0 (Below w.heap.size w wc))
 case first =>
  have H := HC4.out
  clear HC4
  by_cases c5 : (l2.length : Int) > 400
  ·rw [if_pos c5] at H
   have c5b0 : decide (400 < (l2.length : Int)) = true := decide_eq_true c5
   have c5b1 : decide (400 < l2.length) = true := decide_eq_true (by omega)
   clear c5
   (first | rw [c5b0] | (simp only [i64_w, i32_w]; rw [c5b0]) | skip)
   have H' := Aside0.mk H
   clear H
   go_wp2
   go_meet
   case rel => exact ⟨_, (true), (by first | rfl | (simp; done) | (simp [*]; done)), H', ⟨by first | omega | exact Nat.le_refl _⟩, ⟨by repeat (first | (with_reducible first | exact HB.out | apply below_alloc | apply pw_below_drewN | apply below_drew1) | exact HB.out)⟩⟩
  ·rw [if_neg c5] at H
   have c5b0 : decide (400 < (l2.length : Int)) = false := decide_eq_false c5
   have c5b1 : decide (400 < l2.length) = false := decide_eq_false (by omega)
   clear c5
   (first | rw [c5b0] | (simp only [i64_w, i32_w]; rw [c5b0]) | skip)
   by_cases c6 : a1 > 20
   ·rw [if_pos c6] at H
    have c6b0 : decide (20 < a1) = true := decide_eq_true c6
    clear c6
    by_cases c7 : a1 ≤ 400
    ·rw [if_pos c7] at H
     have c7b0 : decide (a1 ≤ 400) = true := decide_eq_true c7
     clear c7
     have H' := Aside0.mk H
     clear H
     go_wp2
     go_meet
     case rel => exact ⟨_, (true), (by first | rfl | (simp; done) | (simp [*]; done)), H', ⟨by first | omega | exact Nat.le_refl _⟩, ⟨by repeat (first | (with_reducible first | exact HB.out | apply below_alloc | apply pw_below_drewN | apply below_drew1) | exact HB.out)⟩⟩
    ·rw [if_neg c7] at H
     have c7b0 : decide (a1 ≤ 400) = false := decide_eq_false c7
     clear c7
     replace H := Option.bind_eq_some_iff.mp H
     obtain ⟨t216, A80, H⟩ := H
     replace H : (entrepotlaw07_LayoutBack.j0 k a0 a1 l2 (!t216)) = some r := H
     have A8 := Aside0.mk A80
     clear A80
     have H' := Aside0.mk H
     clear H
     go_wp2_with (first | (go_at_call 9; (with_reducible refine (entrepotlaw07_shown.calls k  t216 _ (tab_below HTab_.out (by repeat (first | (with_reducible first | exact HB.out | apply below_alloc | apply pw_below_drewN | apply below_drew1 | (refine below_set ?_ ?_; rotate_left; · assumption)) | exact HB.out))) A8.out).mono ?_); rintro e w9 ⟨rfl, hb⟩; have n0_ := Aside0.mk (below_step (by repeat (first | (with_reducible first | exact HB.out | apply below_alloc | apply pw_below_drewN | apply below_drew1) | exact HB.out)) hb); clear HB; have HB := n0_; clear n0_; (try clear hb); (try clear hb2); (try clear hk); (try clear hi)))
     go_meet
     case rel => exact ⟨_, (!t216), (by first | rfl | (simp; done) | (simp [*]; done)), H', ⟨by first | omega | exact Nat.le_refl _⟩, ⟨by repeat (first | (with_reducible first | exact HB.out | apply below_alloc | apply pw_below_drewN | apply below_drew1) | exact HB.out)⟩⟩
   ·rw [if_neg c6] at H
    have c6b0 : decide (20 < a1) = false := decide_eq_false c6
    clear c6
    replace H := Option.bind_eq_some_iff.mp H
    obtain ⟨t217, A100, H⟩ := H
    replace H : (entrepotlaw07_LayoutBack.j0 k a0 a1 l2 (!t217)) = some r := H
    have A10 := Aside0.mk A100
    clear A100
    have H' := Aside0.mk H
    clear H
    go_wp2_with (first | (go_at_call 9; (with_reducible refine (entrepotlaw07_shown.calls k  t217 _ (tab_below HTab_.out (by repeat (first | (with_reducible first | exact HB.out | apply below_alloc | apply pw_below_drewN | apply below_drew1 | (refine below_set ?_ ?_; rotate_left; · assumption)) | exact HB.out))) A10.out).mono ?_); rintro e w11 ⟨rfl, hb⟩; have n0_ := Aside0.mk (below_step (by repeat (first | (with_reducible first | exact HB.out | apply below_alloc | apply pw_below_drewN | apply below_drew1) | exact HB.out)) hb); clear HB; have HB := n0_; clear n0_; (try clear hb); (try clear hb2); (try clear hk); (try clear hi)))
    go_meet
    case rel => exact ⟨_, (!t217), (by first | rfl | (simp; done) | (simp [*]; done)), H', ⟨by first | omega | exact Nat.le_refl _⟩, ⟨by repeat (first | (with_reducible first | exact HB.out | apply below_alloc | apply pw_below_drewN | apply below_drew1) | exact HB.out)⟩⟩
 case rest =>
  clear HC4
  (try clear c2)
  obtain ⟨kq, x29_3, rfl, HA, HJ3, HB⟩ := hcut
  cases kq with
  | zero => exact absurd HA.out (by simp [entrepotlaw07_LayoutBack.j0])
  | succ kj3 =>
   have H := HA.out
   clear HA
   simp only [entrepotlaw07_LayoutBack.j0] at H
   by_cases c12 : x29_3 = true
   ·subst c12
    have H1 : ((entrepotlaw07_shown.f kj3).bind fun t218 => (some t218)) = some r := by rw [if_pos rfl] at H; exact H
    clear H
    have H := H1
    clear H1
    replace H := Option.bind_eq_some_iff.mp H
    obtain ⟨t218, A130, H⟩ := H
    replace H : (some t218) = some r := H
    have A13 := Aside0.mk A130
    clear A130
    obtain rfl := Option.some.inj H
    go_wp2_with (first | ((with_reducible refine gate_callee (f := 9) rfl ?_); refine goesL_ (some 30) rfl rfl Tryd.func9 (by kernel_rfl) rfl #[] rfl (by (try simp only [List.map_toArray, List.map_cons, List.map_nil]); first | done | rfl | (simp only [List.length_drop, List.length_take]; rfl)) ?_; (with_reducible refine (entrepotlaw07_shown.calls kj3  t218 _ (tab_below HTab_.out (by repeat (first | (with_reducible first | exact HB.out | apply below_alloc | apply pw_below_drewN | apply below_drew1 | (refine below_set ?_ ?_; rotate_left; · assumption)) | exact HB.out))) A13.out).mono ?_); rintro e w14 ⟨rfl, hb⟩; refine ⟨_, rfl, ?_⟩; have n0_ := Aside0.mk (below_step (by repeat (first | (with_reducible first | exact HB.out | apply below_alloc | apply pw_below_drewN | apply below_drew1) | exact HB.out)) hb); clear HB; have HB := n0_; clear n0_; (try clear hb); (try clear hb2); (try clear hk); (try clear hi)))
    go_ret
    exact ⟨by first | rfl | (simp [errW_none, errW_some] <;> rfl) | (simp [*, errW_none, errW_some] <;> rfl), by repeat (first | (with_reducible first | exact HB.out | apply below_alloc | apply pw_below_drewN | apply below_drew1) | exact HB.out)⟩
   ·replace c12 := Bool.eq_false_iff.mpr c12
    subst c12
    have H1 : ((layout_Unpack.f kj3 a0 a1 l2).bind fun bt219 => (if bt219.2 = 0 then ((layout_Pack.f a0 a1 bt219.1).bind fun bt223 => (if bt223.2 = 0 then ((entrepotref07_Ints.f kj3 bt223.1 l2).bind fun t227 => (if t227 = true then (entrepotlaw07_LayoutBack.j1 kj3 a0 a1 l2) else (some false))) else (some false))) else (entrepotlaw07_LayoutBack.j1 kj3 a0 a1 l2))) = some r := by rw [if_neg (show ¬ (false = true) by decide)] at H; exact H
    clear H
    have H := H1
    clear H1
    replace H := Option.bind_eq_some_iff.mp H
    obtain ⟨⟨t219, t220⟩, A150, H⟩ := H
    replace H : (if t220 = 0 then ((layout_Pack.f a0 a1 t219).bind fun bt223 => (if bt223.2 = 0 then ((entrepotref07_Ints.f kj3 bt223.1 l2).bind fun t227 => (if t227 = true then (entrepotlaw07_LayoutBack.j1 kj3 a0 a1 l2) else (some false))) else (some false))) else (entrepotlaw07_LayoutBack.j1 kj3 a0 a1 l2)) = some r := H
    have A15 := Aside0.mk A150
    clear A150
    have HC16 := Aside0.mk H
    clear H
    go_upto_if 39 with (first | ((with_reducible refine gate_callee (f := 10) rfl ?_); refine goesL_ (some 35) rfl rfl Tryd.func10 (by kernel_rfl) rfl #[.int .i64 a0, .int .i64 a1, .slice A2 l2.length c2] rfl (by (try simp only [List.map_toArray, List.map_cons, List.map_nil]); first | done | rfl | (simp only [List.length_drop, List.length_take]; rfl)) ?_; (with_reducible refine (layout_Unpack.calls kj3 a0 a1 _ _ l2 t219 t220 _ ?side1 ?side2 (tab_below HTab_.out (by repeat (first | (with_reducible first | exact HB.out | apply below_alloc | apply pw_below_drewN | apply below_drew1 | (refine below_set ?_ ?_; rotate_left; · assumption)) | exact HB.out))) A15.out).mono ?_); (case side1 => repeat (first | exact (Kd.C_below HR2.out HB.out) | (with_reducible refine Kd.C_alloc ?_ _) | (with_reducible refine Kd.C_drewN ?_ _) | (with_reducible refine Kd.C_drew ?_))); (case side2 => exact HC2.out); rintro e w17 ⟨v221, rfl, ho0, hb⟩; refine ⟨_, rfl, ?_⟩; have n0_ := Aside0.mk (Kd.R_lower ho0 (below_size (by repeat (first | (with_reducible first | exact HB.out | apply below_alloc | apply pw_below_drewN | apply below_drew1) | exact HB.out)))); have n1_ := Aside0.mk (below_step (by repeat (first | (with_reducible first | exact HB.out | apply below_alloc | apply pw_below_drewN | apply below_drew1) | exact HB.out)) hb); clear HB; have HO222 := n0_; have HB := n1_; clear n0_ n1_; (try clear hb); (try clear hb2); (try clear hk); (try clear hi); (try clear ho0)))
    (try simp only [Act.put, List.setIfInBounds_toArray, List.set_cons_zero, List.set_cons_succ])
    go_cut [] (fun wc => ∃ (kq : Nat), Aside0 (entrepotlaw07_LayoutBack.j1 kq a0 a1 l2 = some r) ∧ Aside0 (kq ≤ kj3) ∧ Aside0 (Below w.heap.size w wc))
    case first =>
     have H := HC16.out
     clear HC16
     by_cases c18 : t220 = 0
     ·rw [if_pos c18] at H
      have c18b0 : (t220 == 0) = true := beq_iff_eq.mpr c18
      have c18b1 : (t220 != 0) = false := bne_eq_false_iff_eq.mpr c18
      clear c18
      (first | rw [c18b0] | (simp only [i64_w, i32_w]; rw [c18b0]) | skip)
      replace H := Option.bind_eq_some_iff.mp H
      obtain ⟨⟨t223, t224⟩, A190, H⟩ := H
      replace H : (if t224 = 0 then ((entrepotref07_Ints.f kj3 t223 l2).bind fun t227 => (if t227 = true then (entrepotlaw07_LayoutBack.j1 kj3 a0 a1 l2) else (some false))) else (some false)) = some r := H
      have A19 := Aside0.mk A190
      clear A190
      by_cases c20 : t224 = 0
      ·rw [if_pos c20] at H
       have c20b0 : (t224 == 0) = true := beq_iff_eq.mpr c20
       have c20b1 : (t224 != 0) = false := bne_eq_false_iff_eq.mpr c20
       clear c20
       replace H := Option.bind_eq_some_iff.mp H
       obtain ⟨t227, A210, H⟩ := H
       replace H : (if t227 = true then (entrepotlaw07_LayoutBack.j1 kj3 a0 a1 l2) else (some false)) = some r := H
       have A21 := Aside0.mk A210
       clear A210
       by_cases c22 : t227 = true
       ·subst c22
        have H1 : (entrepotlaw07_LayoutBack.j1 kj3 a0 a1 l2) = some r := by rw [if_pos rfl] at H; exact H
        clear H
        have H := H1
        clear H1
        have H' := Aside0.mk H
        clear H
        obtain ⟨Ao23, co23, eo23⟩ := Kd.R_slice HO222.out
        subst eo23
        go_wp2_with (first | ((with_reducible refine gate_callee (f := 13) rfl ?_); refine goesL_ (some 44) rfl rfl Tryd.func13 (by kernel_rfl) rfl #[.int .i64 a0, .int .i64 a1, .slice Ao23 t219.length co23] rfl (by (try simp only [List.map_toArray, List.map_cons, List.map_nil]); first | done | rfl | (simp only [List.length_drop, List.length_take]; rfl)) ?_; (with_reducible refine (layout_Pack.calls a0 a1 _ _ t219 t223 t224 _ ?side1 ?side2 (tab_below HTab_.out (by repeat (first | (with_reducible first | exact HB.out | apply below_alloc | apply pw_below_drewN | apply below_drew1 | (refine below_set ?_ ?_; rotate_left; · assumption)) | exact HB.out))) A19.out).mono ?_); (case side1 => repeat (first | exact (Kd.R_reads' HO222.out).2.2 | (with_reducible refine Kd.C_alloc ?_ _) | (with_reducible refine Kd.C_drewN ?_ _) | (with_reducible refine Kd.C_drew ?_))); (case side2 => exact (Kd.R_reads' HO222.out).2.1); rintro e w24 ⟨v225, rfl, ho0, hb⟩; refine ⟨_, rfl, ?_⟩; have n0_ := Aside0.mk (Kd.R_elder' (by (with_reducible repeat (first | apply Kd.R_alloc | apply Kd.R_drewN | apply Kd.R_drew)); exact HO222.out) (Kd.R_base ho0) hb); have n1_ := Aside0.mk (Kd.R_lower (Kd.R_new' ho0 (Kd.R_lt (by (with_reducible repeat (first | apply Kd.R_alloc | apply Kd.R_drewN | apply Kd.R_drew)); exact HO222.out))) (below_size (by repeat (first | (with_reducible first | exact HB.out | apply below_alloc | apply pw_below_drewN | apply below_drew1) | exact HB.out)))); have n2_ := Aside0.mk (below_step (by repeat (first | (with_reducible first | exact HB.out | apply below_alloc | apply pw_below_drewN | apply below_drew1) | exact HB.out)) hb); clear HO222; clear HB; have HO222 := n0_; have HO226 := n1_; have HB := n2_; clear n0_ n1_ n2_; (try clear hb); (try clear hb2); (try clear hk); (try clear hi); (try clear ho0); obtain ⟨Ao25, co25, eo25⟩ := Kd.R_slice HO226.out; subst eo25) | (go_at_call 12; (with_reducible refine (entrepotref07_Ints.calls kj3 _ _ t223 _ _ l2 true _ ?side1 ?side2 ?side3 ?side4 A21.out).mono ?_); (case side1 => repeat (first | exact (Kd.R_reads' HO226.out).2.2 | (with_reducible refine Kd.C_alloc ?_ _) | (with_reducible refine Kd.C_drewN ?_ _) | (with_reducible refine Kd.C_drew ?_))); (case side2 => exact (Kd.R_reads' HO226.out).2.1); (case side3 => repeat (first | exact (Kd.C_below HR2.out HB.out) | (with_reducible refine Kd.C_alloc ?_ _) | (with_reducible refine Kd.C_drewN ?_ _) | (with_reducible refine Kd.C_drew ?_))); (case side4 => exact HC2.out); rintro e w' ⟨rfl, ⟨nd, rfl⟩⟩))
        go_meet
        case rel => exact ⟨_, H', ⟨by have := HJ3.out; first | omega | exact Nat.le_refl _⟩, ⟨by repeat (first | (with_reducible first | exact HB.out | apply below_alloc | apply pw_below_drewN | apply below_drew1) | exact HB.out)⟩⟩
       ·replace c22 := Bool.eq_false_iff.mpr c22
        subst c22
        have H1 : (some false) = some r := by rw [if_neg (show ¬ (false = true) by decide)] at H; exact H
        clear H
        have H := H1
        clear H1
        exact absurd ((Option.some.inj H).trans hr_.out) (by decide)
      ·rw [if_neg c20] at H
       have c20b0 : (t224 == 0) = false := beq_eq_false_iff_ne.mpr c20
       have c20b1 : (t224 != 0) = true := bne_iff_ne.mpr c20
       exact absurd ((Option.some.inj H).trans hr_.out) (by decide)
     ·rw [if_neg c18] at H
      have c18b0 : (t220 == 0) = false := beq_eq_false_iff_ne.mpr c18
      have c18b1 : (t220 != 0) = true := bne_iff_ne.mpr c18
      (first | rw [c18b0] | (simp only [i64_w, i32_w]; rw [c18b0]) | skip)
      have H' := Aside0.mk H
      clear H
      go_wp2
      go_meet
      case rel => exact ⟨_, H', ⟨by have := HJ3.out; first | omega | exact Nat.le_refl _⟩, ⟨by repeat (first | (with_reducible first | exact HB.out | apply below_alloc | apply pw_below_drewN | apply below_drew1) | exact HB.out)⟩⟩
    case rest =>
     clear HC16
     (try clear c2); (try clear c12)
     obtain ⟨kq, HA, HJ15, HB⟩ := hcut
     cases kq with
     | zero => exact absurd HA.out (by simp [entrepotlaw07_LayoutBack.j1])
     | succ kj15 =>
      have H := HA.out
      clear HA
      simp only [entrepotlaw07_LayoutBack.j1] at H
      replace H := Option.bind_eq_some_iff.mp H
      obtain ⟨⟨t228, t229⟩, A260, H⟩ := H
      replace H : (if t229 = 0 then ((layout_Unpack.f kj15 a0 a1 t228).bind fun bt232 => (if bt232.2 = 0 then ((entrepotref07_Ints.f kj15 bt232.1 l2).bind fun t236 => (some t236)) else (some false))) else (some ((t228.length : Int) == 0))) = some r := H
      have A26 := Aside0.mk A260
      clear A260
      by_cases c27 : t229 = 0
      ·rw [if_pos c27] at H
       have c27b0 : (t229 == 0) = true := beq_iff_eq.mpr c27
       have c27b1 : (t229 != 0) = false := bne_eq_false_iff_eq.mpr c27
       clear c27
       replace H := Option.bind_eq_some_iff.mp H
       obtain ⟨⟨t232, t233⟩, A280, H⟩ := H
       replace H : (if t233 = 0 then ((entrepotref07_Ints.f kj15 t232 l2).bind fun t236 => (some t236)) else (some false)) = some r := H
       have A28 := Aside0.mk A280
       clear A280
       by_cases c29 : t233 = 0
       ·rw [if_pos c29] at H
        have c29b0 : (t233 == 0) = true := beq_iff_eq.mpr c29
        have c29b1 : (t233 != 0) = false := bne_eq_false_iff_eq.mpr c29
        clear c29
        replace H := Option.bind_eq_some_iff.mp H
        obtain ⟨t236, A300, H⟩ := H
        replace H : (some t236) = some r := H
        have A30 := Aside0.mk A300
        clear A300
        obtain rfl := Option.some.inj H
        go_wp2_with (first | ((with_reducible refine gate_callee (f := 13) rfl ?_); refine goesL_ (some 59) rfl rfl Tryd.func13 (by kernel_rfl) rfl #[.int .i64 a0, .int .i64 a1, .slice A2 l2.length c2] rfl (by (try simp only [List.map_toArray, List.map_cons, List.map_nil]); first | done | rfl | (simp only [List.length_drop, List.length_take]; rfl)) ?_; (with_reducible refine (layout_Pack.calls a0 a1 _ _ l2 t228 t229 _ ?side1 ?side2 (tab_below HTab_.out (by repeat (first | (with_reducible first | exact HB.out | apply below_alloc | apply pw_below_drewN | apply below_drew1 | (refine below_set ?_ ?_; rotate_left; · assumption)) | exact HB.out))) A26.out).mono ?_); (case side1 => repeat (first | exact (Kd.C_below HR2.out HB.out) | (with_reducible refine Kd.C_alloc ?_ _) | (with_reducible refine Kd.C_drewN ?_ _) | (with_reducible refine Kd.C_drew ?_))); (case side2 => exact HC2.out); rintro e w31 ⟨v230, rfl, ho0, hb⟩; refine ⟨_, rfl, ?_⟩; have n0_ := Aside0.mk (Kd.R_lower ho0 (below_size (by repeat (first | (with_reducible first | exact HB.out | apply below_alloc | apply pw_below_drewN | apply below_drew1) | exact HB.out)))); have n1_ := Aside0.mk (below_step (by repeat (first | (with_reducible first | exact HB.out | apply below_alloc | apply pw_below_drewN | apply below_drew1) | exact HB.out)) hb); clear HB; have HO231 := n0_; have HB := n1_; clear n0_ n1_; (try clear hb); (try clear hb2); (try clear hk); (try clear hi); (try clear ho0); obtain ⟨Ao32, co32, eo32⟩ := Kd.R_slice HO231.out; subst eo32) | ((with_reducible refine gate_callee (f := 10) rfl ?_); refine goesL_ (some 71) rfl rfl Tryd.func10 (by kernel_rfl) rfl #[.int .i64 a0, .int .i64 a1, .slice Ao32 t228.length co32] rfl (by (try simp only [List.map_toArray, List.map_cons, List.map_nil]); first | done | rfl | (simp only [List.length_drop, List.length_take]; rfl)) ?_; (with_reducible refine (layout_Unpack.calls kj15 a0 a1 _ _ t228 t232 t233 _ ?side1 ?side2 (tab_below HTab_.out (by repeat (first | (with_reducible first | exact HB.out | apply below_alloc | apply pw_below_drewN | apply below_drew1 | (refine below_set ?_ ?_; rotate_left; · assumption)) | exact HB.out))) A28.out).mono ?_); (case side1 => repeat (first | exact (Kd.R_reads' HO231.out).2.2 | (with_reducible refine Kd.C_alloc ?_ _) | (with_reducible refine Kd.C_drewN ?_ _) | (with_reducible refine Kd.C_drew ?_))); (case side2 => exact (Kd.R_reads' HO231.out).2.1); rintro e w33 ⟨v234, rfl, ho0, hb⟩; refine ⟨_, rfl, ?_⟩; have n0_ := Aside0.mk (Kd.R_elder' (by (with_reducible repeat (first | apply Kd.R_alloc | apply Kd.R_drewN | apply Kd.R_drew)); exact HO231.out) (Kd.R_base ho0) hb); have n1_ := Aside0.mk (Kd.R_lower (Kd.R_new' ho0 (Kd.R_lt (by (with_reducible repeat (first | apply Kd.R_alloc | apply Kd.R_drewN | apply Kd.R_drew)); exact HO231.out))) (below_size (by repeat (first | (with_reducible first | exact HB.out | apply below_alloc | apply pw_below_drewN | apply below_drew1) | exact HB.out)))); have n2_ := Aside0.mk (below_step (by repeat (first | (with_reducible first | exact HB.out | apply below_alloc | apply pw_below_drewN | apply below_drew1) | exact HB.out)) hb); clear HO231; clear HB; have HO231 := n0_; have HO235 := n1_; have HB := n2_; clear n0_ n1_ n2_; (try clear hb); (try clear hb2); (try clear hk); (try clear hi); (try clear ho0); obtain ⟨Ao34, co34, eo34⟩ := Kd.R_slice HO235.out; subst eo34) | (go_at_call 12; (with_reducible refine (entrepotref07_Ints.calls kj15 _ _ t232 _ _ l2 t236 _ ?side1 ?side2 ?side3 ?side4 A30.out).mono ?_); (case side1 => repeat (first | exact (Kd.R_reads' HO235.out).2.2 | (with_reducible refine Kd.C_alloc ?_ _) | (with_reducible refine Kd.C_drewN ?_ _) | (with_reducible refine Kd.C_drew ?_))); (case side2 => exact (Kd.R_reads' HO235.out).2.1); (case side3 => repeat (first | exact (Kd.C_below HR2.out HB.out) | (with_reducible refine Kd.C_alloc ?_ _) | (with_reducible refine Kd.C_drewN ?_ _) | (with_reducible refine Kd.C_drew ?_))); (case side4 => exact HC2.out); rintro e w' ⟨rfl, ⟨nd, rfl⟩⟩))
        go_ret
        exact ⟨by first | rfl | (simp [errW_none, errW_some] <;> rfl) | (simp [*, errW_none, errW_some] <;> rfl), by repeat (first | (with_reducible first | exact HB.out | apply below_alloc | apply pw_below_drewN | apply below_drew1) | exact HB.out)⟩
       ·rw [if_neg c29] at H
        have c29b0 : (t233 == 0) = false := beq_eq_false_iff_ne.mpr c29
        have c29b1 : (t233 != 0) = true := bne_iff_ne.mpr c29
        exact absurd ((Option.some.inj H).trans hr_.out) (by decide)
      ·rw [if_neg c27] at H
       have c27b0 : (t229 == 0) = false := beq_eq_false_iff_ne.mpr c27
       have c27b1 : (t229 != 0) = true := bne_iff_ne.mpr c27
       obtain rfl := Option.some.inj H
       go_wp2_with (first | ((with_reducible refine gate_callee (f := 13) rfl ?_); refine goesL_ (some 59) rfl rfl Tryd.func13 (by kernel_rfl) rfl #[.int .i64 a0, .int .i64 a1, .slice A2 l2.length c2] rfl (by (try simp only [List.map_toArray, List.map_cons, List.map_nil]); first | done | rfl | (simp only [List.length_drop, List.length_take]; rfl)) ?_; (with_reducible refine (layout_Pack.calls a0 a1 _ _ l2 t228 t229 _ ?side1 ?side2 (tab_below HTab_.out (by repeat (first | (with_reducible first | exact HB.out | apply below_alloc | apply pw_below_drewN | apply below_drew1 | (refine below_set ?_ ?_; rotate_left; · assumption)) | exact HB.out))) A26.out).mono ?_); (case side1 => repeat (first | exact (Kd.C_below HR2.out HB.out) | (with_reducible refine Kd.C_alloc ?_ _) | (with_reducible refine Kd.C_drewN ?_ _) | (with_reducible refine Kd.C_drew ?_))); (case side2 => exact HC2.out); rintro e w35 ⟨v230, rfl, ho0, hb⟩; refine ⟨_, rfl, ?_⟩; have n0_ := Aside0.mk (Kd.R_lower ho0 (below_size (by repeat (first | (with_reducible first | exact HB.out | apply below_alloc | apply pw_below_drewN | apply below_drew1) | exact HB.out)))); have n1_ := Aside0.mk (below_step (by repeat (first | (with_reducible first | exact HB.out | apply below_alloc | apply pw_below_drewN | apply below_drew1) | exact HB.out)) hb); clear HB; have HO231 := n0_; have HB := n1_; clear n0_ n1_; (try clear hb); (try clear hb2); (try clear hk); (try clear hi); (try clear ho0); obtain ⟨Ao36, co36, eo36⟩ := Kd.R_slice HO231.out; subst eo36))
       go_ret
       exact ⟨by first | rfl | (simp [errW_none, errW_some] <;> rfl) | (simp [*, errW_none, errW_some] <;> rfl), by repeat (first | (with_reducible first | exact HB.out | apply below_alloc | apply pw_below_drewN | apply below_drew1) | exact HB.out)⟩

end Go.Proofs.YtdgdhmglcpkkiaaDoor.P
