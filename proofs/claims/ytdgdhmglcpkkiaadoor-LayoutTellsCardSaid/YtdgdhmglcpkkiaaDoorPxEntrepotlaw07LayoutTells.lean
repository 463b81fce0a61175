/- Written by a program of this session, after the kit's print: Lean functions for Go functions, and the proof that the machine comes to their answers. -/
import Derived.Test.YtdgdhmglcpkkiaaDoorPx0
import Derived.Test.YtdgdhmglcpkkiaaDoorPxEntrepotlaw07shown
import Derived.Test.YtdgdhmglcpkkiaaDoorMla
import Derived.Test.YtdgdhmglcpkkiaaDoorMlb
import Derived.Test.YtdgdhmglcpkkiaaDoorGKeyword7
namespace Go.Proofs.YtdgdhmglcpkkiaaDoor.P
open Go.RowKit Go.Proofs.YtdgdhmglcpkkiaaDoorW.PrintWords Go.Proofs.YtdgdhmglcpkkiaaDoorW.PrintLast Go.Proofs.YtdgdhmglcpkkiaaDoorW.PrintMore
attribute [local go_sem] max2_int min2_int max_two min_two max_three min_three max_four min_four   -- for this text's walks alone
set_option linter.unusedVariables false
set_option linter.unusedSimpArgs false

/-! ### entrepotlaw07_LayoutTells: function 8 -/
def entrepotlaw07_LayoutTells.j0 : Nat → Int → Int → Int → Int → ByteArray → Bool → Option (Bool)
 | 0, _, _, _, _, _, _ => none
 | k + 1, x0, x1, x2, x3, x4, x25 => if x25 = true then ((entrepotlaw07_shown.f k).bind fun t153 => (some t153)) else ((layout_Count.f x0 x1).bind fun t154 => ((entrepotref07_Count.f x0 x1).bind fun t155 => (if t154 = t155 then ((layout_Index.f k x0 x1 x2 x3).bind fun t156 => ((entrepotref07_Index.f k x0 x1 x2 x3).bind fun t157 => (if t156 = t157 then ((layout_Keyword.f x0).bind fun t158 => ((entrepotref07_Keyword.f x0).bind fun t159 => (if t158.toList = t159.toList then ((layout_Of.f k x4).bind fun t160 => ((entrepotref07_Of.f k x4).bind fun t161 => (some (t160 == t161)))) else (some false)))) else (some false)))) else (some false))))
def entrepotlaw07_LayoutTells.f (k : Nat) (a0 : Int) (a1 : Int) (a2 : Int) (a3 : Int) (a4 : ByteArray) : Option (Bool) := if (a4.size : Int) > 100 then (entrepotlaw07_LayoutTells.j0 k a0 a1 a2 a3 a4 true) else (if a1 > 60 then (if a1 ≤ 400 then (entrepotlaw07_LayoutTells.j0 k a0 a1 a2 a3 a4 true) else ((entrepotlaw07_shown.f k).bind fun t151 => (entrepotlaw07_LayoutTells.j0 k a0 a1 a2 a3 a4 (!t151)))) else ((entrepotlaw07_shown.f k).bind fun t152 => (entrepotlaw07_LayoutTells.j0 k a0 a1 a2 a3 a4 (!t152))))
theorem entrepotlaw07_LayoutTells.mono_l : ∀ k, (∀ y0 y1 y2 y3 y4 y5, LeO (entrepotlaw07_LayoutTells.j0 k y0 y1 y2 y3 y4 y5) (entrepotlaw07_LayoutTells.j0 (k + 1) y0 y1 y2 y3 y4 y5))
 | 0 => fun _ _ _ _ _ _ r h => by simp [entrepotlaw07_LayoutTells.j0] at h
 | k + 1 => by
  have ih0 := entrepotlaw07_LayoutTells.mono_l k
  ·intro y0 y1 y2 y3 y4 y5
   unfold entrepotlaw07_LayoutTells.j0
   repeat' first
   | (with_reducible exact ih0 _ _ _ _ _ _)
   | (with_reducible exact entrepotlaw07_shown.mono _)
   | (with_reducible exact entrepotref07_Index.mono _ _ _ _ _)
   | (with_reducible exact entrepotref07_Of.mono _ _)
   | (with_reducible exact layout_Index.mono _ _ _ _ _)
   | (with_reducible exact layout_Of.mono _ _)
   | (with_reducible exact LeO.refl _)
   | (with_reducible exact LeO.none _)
   | (with_reducible refine LeO.ite ?_ ?_)
   | (with_reducible refine LeO.bind ?_ (fun _ => ?_))
   | exact ih0 _ _ _ _ _ _
   | exact entrepotlaw07_shown.mono _
   | exact entrepotref07_Index.mono _ _ _ _ _
   | exact entrepotref07_Of.mono _ _
   | exact layout_Index.mono _ _ _ _ _
   | exact layout_Of.mono _ _
   | exact LeO.none _
   | refine LeO.ite ?_ ?_
   | refine LeO.bind ?_ (fun _ => ?_)
theorem entrepotlaw07_LayoutTells.mono : ∀ a0 a1 a2 a3 a4 k, LeO (entrepotlaw07_LayoutTells.f k a0 a1 a2 a3 a4) (entrepotlaw07_LayoutTells.f (k + 1) a0 a1 a2 a3 a4) := by
 intro a0 a1 a2 a3 a4 k
 have ih0 := entrepotlaw07_LayoutTells.mono_l k
 unfold entrepotlaw07_LayoutTells.f
 repeat' first
   | (with_reducible exact ih0 _ _ _ _ _ _)
   | (with_reducible exact entrepotlaw07_shown.mono _)
   | (with_reducible exact entrepotref07_Index.mono _ _ _ _ _)
   | (with_reducible exact entrepotref07_Of.mono _ _)
   | (with_reducible exact layout_Index.mono _ _ _ _ _)
   | (with_reducible exact layout_Of.mono _ _)
   | (with_reducible exact LeO.refl _)
   | (with_reducible exact LeO.none _)
   | (with_reducible refine LeO.ite ?_ ?_)
   | (with_reducible refine LeO.bind ?_ (fun _ => ?_))
   | exact ih0 _ _ _ _ _ _
   | exact entrepotlaw07_shown.mono _
   | exact entrepotref07_Index.mono _ _ _ _ _
   | exact entrepotref07_Of.mono _ _
   | exact layout_Index.mono _ _ _ _ _
   | exact layout_Of.mono _ _
   | exact LeO.none _
   | refine LeO.ite ?_ ?_
   | refine LeO.bind ?_ (fun _ => ?_)
set_option maxHeartbeats 8000000 in
set_option maxRecDepth 100000 in
theorem entrepotlaw07_LayoutTells.callsT (k : Nat) (a0 : Int) (a1 : Int) (a2 : Int) (a3 : Int) (a4 : ByteArray) (r : Bool) (w : World) (ht : Tab w) (h : entrepotlaw07_LayoutTells.f k a0 a1 a2 a3 a4 = some r) (hr_ : Aside0 (r = true)) :
  Calls Tryd.prog 8 #[.int .i64 a0, .int .i64 a1, .int .i64 a2, .int .i64 a3, .string a4] w fun e w' => e = .returned (.bool r) ∧ Below w.heap.size w w' := by
 have HTab_ := Aside0.mk ht
 clear ht
 have HB := Aside0.mk (Below.refl w.heap.size w)
 have H : (if (a4.size : Int) > 100 then (entrepotlaw07_LayoutTells.j0 k a0 a1 a2 a3 a4 true) else (if a1 > 60 then (if a1 ≤ 400 then (entrepotlaw07_LayoutTells.j0 k a0 a1 a2 a3 a4 true) else ((entrepotlaw07_shown.f k).bind fun t151 => (entrepotlaw07_LayoutTells.j0 k a0 a1 a2 a3 a4 (!t151)))) else ((entrepotlaw07_shown.f k).bind fun t152 => (entrepotlaw07_LayoutTells.j0 k a0 a1 a2 a3 a4 (!t152))))) = some r := h
 clear h
 have HC6 := Aside0.mk H
 clear H
 go_enter Tryd.func8, Tryd.ntmps8
 go_upto_region 1 with (fail)
 go_cut [25] (fun v25 wc => ∃ (kq : Nat) (x25_5 : Bool), v25 = .bool x25_5 ∧ Aside0 (entrepotlaw07_LayoutTells.j0 kq a0 a1 a2 a3 a4 x25_5 = some r) ∧ Aside0 (kq ≤ k) ∧ Aside0 (Below w.heap.size w wc))
 case first =>
  have H := HC6.out
  clear HC6
  by_cases c7 : (a4.size : Int) > 100
  ·rw [if_pos c7] at H
   have c7b0 : decide (100 < (a4.size : Int)) = true := decide_eq_true c7
   have c7b1 : decide (100 < a4.size) = true := decide_eq_true (by omega)
   clear c7
   (first | rw [c7b0] | (simp only [i64_w, i32_w]; rw [c7b0]) | skip)
   have H' := Aside0.mk H
   clear H
   go_wp2
   go_meet
   case rel => exact ⟨_, (true), (by first | rfl | (simp; done) | (simp [*]; done)), H', ⟨by first | omega | exact Nat.le_refl _⟩, ⟨by repeat (first | (with_reducible first | exact HB.out | apply below_alloc | apply pw_below_drewN | apply below_drew1) | exact HB.out)⟩⟩
  ·rw [if_neg c7] at H
   have c7b0 : decide (100 < (a4.size : Int)) = false := decide_eq_false c7
   have c7b1 : decide (100 < a4.size) = false := decide_eq_false (by omega)
   clear c7
   (first | rw [c7b0] | (simp only [i64_w, i32_w]; rw [c7b0]) | skip)
   by_cases c8 : a1 > 60
   ·rw [if_pos c8] at H
    have c8b0 : decide (60 < a1) = true := decide_eq_true c8
    clear c8
    by_cases c9 : a1 ≤ 400
    ·rw [if_pos c9] at H
     have c9b0 : decide (a1 ≤ 400) = true := decide_eq_true c9
     clear c9
     have H' := Aside0.mk H
     clear H
     go_wp2
     go_meet
     case rel => exact ⟨_, (true), (by first | rfl | (simp; done) | (simp [*]; done)), H', ⟨by first | omega | exact Nat.le_refl _⟩, ⟨by repeat (first | (with_reducible first | exact HB.out | apply below_alloc | apply pw_below_drewN | apply below_drew1) | exact HB.out)⟩⟩
    ·rw [if_neg c9] at H
     have c9b0 : decide (a1 ≤ 400) = false := decide_eq_false c9
     clear c9
     replace H := Option.bind_eq_some_iff.mp H
     obtain ⟨t151, A100, H⟩ := H
     replace H : (entrepotlaw07_LayoutTells.j0 k a0 a1 a2 a3 a4 (!t151)) = some r := H
     have A10 := Aside0.mk A100
     clear A100
     have H' := Aside0.mk H
     clear H
     go_wp2_with (first | (go_at_call 9; (with_reducible refine (entrepotlaw07_shown.calls k  t151 _ (tab_below HTab_.out (by repeat (first | (with_reducible first | exact HB.out | apply below_alloc | apply pw_below_drewN | apply below_drew1 | (refine below_set ?_ ?_; rotate_left; · assumption)) | exact HB.out))) A10.out).mono ?_); rintro e w11 ⟨rfl, hb⟩; have n0_ := Aside0.mk (below_step (by repeat (first | (with_reducible first | exact HB.out | apply below_alloc | apply pw_below_drewN | apply below_drew1) | exact HB.out)) hb); clear HB; have HB := n0_; clear n0_; (try clear hb); (try clear hb2); (try clear hk); (try clear hi)))
     go_meet
     case rel => exact ⟨_, (!t151), (by first | rfl | (simp; done) | (simp [*]; done)), H', ⟨by first | omega | exact Nat.le_refl _⟩, ⟨by repeat (first | (with_reducible first | exact HB.out | apply below_alloc | apply pw_below_drewN | apply below_drew1) | exact HB.out)⟩⟩
   ·rw [if_neg c8] at H
    have c8b0 : decide (60 < a1) = false := decide_eq_false c8
    clear c8
    replace H := Option.bind_eq_some_iff.mp H
    obtain ⟨t152, A120, H⟩ := H
    replace H : (entrepotlaw07_LayoutTells.j0 k a0 a1 a2 a3 a4 (!t152)) = some r := H
    have A12 := Aside0.mk A120
    clear A120
    have H' := Aside0.mk H
    clear H
    go_wp2_with (first | (go_at_call 9; (with_reducible refine (entrepotlaw07_shown.calls k  t152 _ (tab_below HTab_.out (by repeat (first | (with_reducible first | exact HB.out | apply below_alloc | apply pw_below_drewN | apply below_drew1 | (refine below_set ?_ ?_; rotate_left; · assumption)) | exact HB.out))) A12.out).mono ?_); rintro e w13 ⟨rfl, hb⟩; have n0_ := Aside0.mk (below_step (by repeat (first | (with_reducible first | exact HB.out | apply below_alloc | apply pw_below_drewN | apply below_drew1) | exact HB.out)) hb); clear HB; have HB := n0_; clear n0_; (try clear hb); (try clear hb2); (try clear hk); (try clear hi)))
    go_meet
    case rel => exact ⟨_, (!t152), (by first | rfl | (simp; done) | (simp [*]; done)), H', ⟨by first | omega | exact Nat.le_refl _⟩, ⟨by repeat (first | (with_reducible first | exact HB.out | apply below_alloc | apply pw_below_drewN | apply below_drew1) | exact HB.out)⟩⟩
 case rest =>
  clear HC6
  obtain ⟨kq, x25_5, rfl, HA, HJ5, HB⟩ := hcut
  cases kq with
  | zero => exact absurd HA.out (by simp [entrepotlaw07_LayoutTells.j0])
  | succ kj5 =>
   have H := HA.out
   clear HA
   simp only [entrepotlaw07_LayoutTells.j0] at H
   by_cases c14 : x25_5 = true
   ·subst c14
    have H1 : ((entrepotlaw07_shown.f kj5).bind fun t153 => (some t153)) = some r := by rw [if_pos rfl] at H; exact H
    clear H
    have H := H1
    clear H1
    replace H := Option.bind_eq_some_iff.mp H
    obtain ⟨t153, A150, H⟩ := H
    replace H : (some t153) = some r := H
    have A15 := Aside0.mk A150
    clear A150
    obtain rfl := Option.some.inj H
    go_wp2_with (first | ((with_reducible refine gate_callee (f := 9) rfl ?_); refine goesL_ (some 26) rfl rfl Tryd.func9 (by kernel_rfl) rfl #[] rfl (by (try simp only [List.map_toArray, List.map_cons, List.map_nil]); first | done | rfl | (simp only [List.length_drop, List.length_take]; rfl)) ?_; (with_reducible refine (entrepotlaw07_shown.calls kj5  t153 _ (tab_below HTab_.out (by repeat (first | (with_reducible first | exact HB.out | apply below_alloc | apply pw_below_drewN | apply below_drew1 | (refine below_set ?_ ?_; rotate_left; · assumption)) | exact HB.out))) A15.out).mono ?_); rintro e w16 ⟨rfl, hb⟩; refine ⟨_, rfl, ?_⟩; have n0_ := Aside0.mk (below_step (by repeat (first | (with_reducible first | exact HB.out | apply below_alloc | apply pw_below_drewN | apply below_drew1) | exact HB.out)) hb); clear HB; have HB := n0_; clear n0_; (try clear hb); (try clear hb2); (try clear hk); (try clear hi)))
    go_ret
    exact ⟨by first | rfl | (simp [errW_none, errW_some] <;> rfl) | (simp [*, errW_none, errW_some] <;> rfl), by repeat (first | (with_reducible first | exact HB.out | apply below_alloc | apply pw_below_drewN | apply below_drew1) | exact HB.out)⟩
   ·replace c14 := Bool.eq_false_iff.mpr c14
    subst c14
    have H1 : ((layout_Count.f a0 a1).bind fun t154 => ((entrepotref07_Count.f a0 a1).bind fun t155 => (if t154 = t155 then ((layout_Index.f kj5 a0 a1 a2 a3).bind fun t156 => ((entrepotref07_Index.f kj5 a0 a1 a2 a3).bind fun t157 => (if t156 = t157 then ((layout_Keyword.f a0).bind fun t158 => ((entrepotref07_Keyword.f a0).bind fun t159 => (if t158.toList = t159.toList then ((layout_Of.f kj5 a4).bind fun t160 => ((entrepotref07_Of.f kj5 a4).bind fun t161 => (some (t160 == t161)))) else (some false)))) else (some false)))) else (some false)))) = some r := by rw [if_neg (show ¬ (false = true) by decide)] at H; exact H
    clear H
    have H := H1
    clear H1
    replace H := Option.bind_eq_some_iff.mp H
    obtain ⟨t154, A170, H⟩ := H
    replace H : ((entrepotref07_Count.f a0 a1).bind fun t155 => (if t154 = t155 then ((layout_Index.f kj5 a0 a1 a2 a3).bind fun t156 => ((entrepotref07_Index.f kj5 a0 a1 a2 a3).bind fun t157 => (if t156 = t157 then ((layout_Keyword.f a0).bind fun t158 => ((entrepotref07_Keyword.f a0).bind fun t159 => (if t158.toList = t159.toList then ((layout_Of.f kj5 a4).bind fun t160 => ((entrepotref07_Of.f kj5 a4).bind fun t161 => (some (t160 == t161)))) else (some false)))) else (some false)))) else (some false))) = some r := H
    have A17 := Aside0.mk A170
    clear A170
    replace H := Option.bind_eq_some_iff.mp H
    obtain ⟨t155, A180, H⟩ := H
    replace H : (if t154 = t155 then ((layout_Index.f kj5 a0 a1 a2 a3).bind fun t156 => ((entrepotref07_Index.f kj5 a0 a1 a2 a3).bind fun t157 => (if t156 = t157 then ((layout_Keyword.f a0).bind fun t158 => ((entrepotref07_Keyword.f a0).bind fun t159 => (if t158.toList = t159.toList then ((layout_Of.f kj5 a4).bind fun t160 => ((entrepotref07_Of.f kj5 a4).bind fun t161 => (some (t160 == t161)))) else (some false)))) else (some false)))) else (some false)) = some r := H
    have A18 := Aside0.mk A180
    clear A180
    by_cases c19 : t154 = t155
    ·rw [if_pos c19] at H
     have c19b0 : (t154 == t155) = true := beq_iff_eq.mpr c19
     have c19b1 : (t154 != t155) = false := bne_eq_false_iff_eq.mpr c19
     clear c19
     replace H := Option.bind_eq_some_iff.mp H
     obtain ⟨t156, A200, H⟩ := H
     replace H : ((entrepotref07_Index.f kj5 a0 a1 a2 a3).bind fun t157 => (if t156 = t157 then ((layout_Keyword.f a0).bind fun t158 => ((entrepotref07_Keyword.f a0).bind fun t159 => (if t158.toList = t159.toList then ((layout_Of.f kj5 a4).bind fun t160 => ((entrepotref07_Of.f kj5 a4).bind fun t161 => (some (t160 == t161)))) else (some false)))) else (some false))) = some r := H
     have A20 := Aside0.mk A200
     clear A200
     replace H := Option.bind_eq_some_iff.mp H
     obtain ⟨t157, A210, H⟩ := H
     replace H : (if t156 = t157 then ((layout_Keyword.f a0).bind fun t158 => ((entrepotref07_Keyword.f a0).bind fun t159 => (if t158.toList = t159.toList then ((layout_Of.f kj5 a4).bind fun t160 => ((entrepotref07_Of.f kj5 a4).bind fun t161 => (some (t160 == t161)))) else (some false)))) else (some false)) = some r := H
     have A21 := Aside0.mk A210
     clear A210
     by_cases c22 : t156 = t157
     ·rw [if_pos c22] at H
      have c22b0 : (t156 == t157) = true := beq_iff_eq.mpr c22
      have c22b1 : (t156 != t157) = false := bne_eq_false_iff_eq.mpr c22
      clear c22
      replace H := Option.bind_eq_some_iff.mp H
      obtain ⟨t158, A230, H⟩ := H
      replace H : ((entrepotref07_Keyword.f a0).bind fun t159 => (if t158.toList = t159.toList then ((layout_Of.f kj5 a4).bind fun t160 => ((entrepotref07_Of.f kj5 a4).bind fun t161 => (some (t160 == t161)))) else (some false))) = some r := H
      have A23 := Aside0.mk A230
      clear A230
      replace H := Option.bind_eq_some_iff.mp H
      obtain ⟨t159, A240, H⟩ := H
      replace H : (if t158.toList = t159.toList then ((layout_Of.f kj5 a4).bind fun t160 => ((entrepotref07_Of.f kj5 a4).bind fun t161 => (some (t160 == t161)))) else (some false)) = some r := H
      have A24 := Aside0.mk A240
      clear A240
      by_cases c25 : t158.toList = t159.toList
      ·rw [if_pos c25] at H
       have c25b0 : (t158.toList == t159.toList) = true := beq_iff_eq.mpr c25
       have c25b1 : (t158.toList != t159.toList) = false := bne_eq_false_iff_eq.mpr c25
       clear c25
       replace H := Option.bind_eq_some_iff.mp H
       obtain ⟨t160, A260, H⟩ := H
       replace H : ((entrepotref07_Of.f kj5 a4).bind fun t161 => (some (t160 == t161))) = some r := H
       have A26 := Aside0.mk A260
       clear A260
       replace H := Option.bind_eq_some_iff.mp H
       obtain ⟨t161, A270, H⟩ := H
       replace H : (some (t160 == t161)) = some r := H
       have A27 := Aside0.mk A270
       clear A270
       obtain rfl := Option.some.inj H
       go_wp2_with (first | ((with_reducible refine gate_callee (f := 15) rfl ?_); refine goesL_ (some 29) rfl rfl Tryd.func15 (by kernel_rfl) rfl #[.int .i64 a0, .int .i64 a1] rfl (by (try simp only [List.map_toArray, List.map_cons, List.map_nil]); first | done | rfl | (simp only [List.length_drop, List.length_take]; rfl)) ?_; (with_reducible refine (layout_Count.calls a0 a1 t154 _ (tab_below HTab_.out (by repeat (first | (with_reducible first | exact HB.out | apply below_alloc | apply pw_below_drewN | apply below_drew1 | (refine below_set ?_ ?_; rotate_left; · assumption)) | exact HB.out))) A17.out).mono ?_); rintro e w28 ⟨rfl, hb⟩; refine ⟨_, rfl, ?_⟩; have n0_ := Aside0.mk (below_step (by repeat (first | (with_reducible first | exact HB.out | apply below_alloc | apply pw_below_drewN | apply below_drew1) | exact HB.out)) hb); clear HB; have HB := n0_; clear n0_; (try clear hb); (try clear hb2); (try clear hk); (try clear hi)) | ((with_reducible refine gate_callee (f := 17) rfl ?_); refine goesL_ (some 32) rfl rfl Tryd.func17 (by kernel_rfl) rfl #[.int .i64 a0, .int .i64 a1] rfl (by (try simp only [List.map_toArray, List.map_cons, List.map_nil]); first | done | rfl | (simp only [List.length_drop, List.length_take]; rfl)) ?_; (with_reducible refine (entrepotref07_Count.calls a0 a1 t155 _ A18.out).mono ?_); rintro e w' ⟨rfl, ⟨nd, rfl⟩⟩; refine ⟨_, rfl, ?_⟩) | (go_at_call 16; (with_reducible refine (layout_Index.calls kj5 a0 a1 a2 a3 t156 _ (tab_below HTab_.out (by repeat (first | (with_reducible first | exact HB.out | apply below_alloc | apply pw_below_drewN | apply below_drew1 | (refine below_set ?_ ?_; rotate_left; · assumption)) | exact HB.out))) A20.out).mono ?_); rintro e w29 ⟨rfl, hb⟩; have n0_ := Aside0.mk (below_step (by repeat (first | (with_reducible first | exact HB.out | apply below_alloc | apply pw_below_drewN | apply below_drew1) | exact HB.out)) hb); clear HB; have HB := n0_; clear n0_; (try clear hb); (try clear hb2); (try clear hk); (try clear hi)) | (go_at_call 18; (with_reducible refine (entrepotref07_Index.calls kj5 a0 a1 a2 a3 t157 _ A21.out).mono ?_); rintro e w' ⟨rfl, ⟨nd, rfl⟩⟩) | (go_at_call 19; (with_reducible refine (layout_Keyword.calls a0 t158 _ (tab_below HTab_.out (by repeat (first | (with_reducible first | exact HB.out | apply below_alloc | apply pw_below_drewN | apply below_drew1 | (refine below_set ?_ ?_; rotate_left; · assumption)) | exact HB.out))) A23.out).mono ?_); rintro e w30 ⟨rfl, hb⟩; have n0_ := Aside0.mk (below_step (by repeat (first | (with_reducible first | exact HB.out | apply below_alloc | apply pw_below_drewN | apply below_drew1) | exact HB.out)) hb); clear HB; have HB := n0_; clear n0_; (try clear hb); (try clear hb2); (try clear hk); (try clear hi)) | (go_at_call 20; (with_reducible refine (entrepotref07_Keyword.calls a0 t159 _ A24.out).mono ?_); rintro e w' ⟨rfl, ⟨nd, rfl⟩⟩) | (go_at_call 21; (with_reducible refine (layout_Of.calls kj5 a4 t160 _ (tab_below HTab_.out (by repeat (first | (with_reducible first | exact HB.out | apply below_alloc | apply pw_below_drewN | apply below_drew1 | (refine below_set ?_ ?_; rotate_left; · assumption)) | exact HB.out))) A26.out).mono ?_); rintro e w31 ⟨rfl, hb⟩; have n0_ := Aside0.mk (below_step (by repeat (first | (with_reducible first | exact HB.out | apply below_alloc | apply pw_below_drewN | apply below_drew1) | exact HB.out)) hb); clear HB; have HB := n0_; clear n0_; (try clear hb); (try clear hb2); (try clear hk); (try clear hi)) | (go_at_call 22; (with_reducible refine (entrepotref07_Of.calls kj5 a4 t161 _ A27.out).mono ?_); rintro e w' ⟨rfl, ⟨nd, rfl⟩⟩))
       go_ret
       exact ⟨by first | rfl | (simp [errW_none, errW_some] <;> rfl) | (simp [*, errW_none, errW_some] <;> rfl), by repeat (first | (with_reducible first | exact HB.out | apply below_alloc | apply pw_below_drewN | apply below_drew1) | exact HB.out)⟩
      ·rw [if_neg c25] at H
       have c25b0 : (t158.toList == t159.toList) = false := beq_eq_false_iff_ne.mpr c25
       have c25b1 : (t158.toList != t159.toList) = true := bne_iff_ne.mpr c25
       exact absurd ((Option.some.inj H).trans hr_.out) (by decide)
     ·rw [if_neg c22] at H
      have c22b0 : (t156 == t157) = false := beq_eq_false_iff_ne.mpr c22
      have c22b1 : (t156 != t157) = true := bne_iff_ne.mpr c22
      exact absurd ((Option.some.inj H).trans hr_.out) (by decide)
    ·rw [if_neg c19] at H
     have c19b0 : (t154 == t155) = false := beq_eq_false_iff_ne.mpr c19
     have c19b1 : (t154 != t155) = true := bne_iff_ne.mpr c19
     exact absurd ((Option.some.inj H).trans hr_.out) (by decide)

end Go.Proofs.YtdgdhmglcpkkiaaDoor.P
