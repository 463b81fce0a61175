/- Written by a program of this session, after the kit's print: Lean functions for Go functions, and the proof that the machine comes to their answers. -/
import Derived.Test.YtdpfljkcnlamlaaDoorPx0
import Derived.Test.YtdpfljkcnlamlaaDoorPxEntrepotlaw06shown
import Derived.Test.YtdpfljkcnlamlaaDoorPxEntrepotref06Keyword
import Derived.Test.YtdpfljkcnlamlaaDoorPxEntrepotref06Known
import Derived.Test.YtdpfljkcnlamlaaDoorPxEntrepotref06Of
import Derived.Test.YtdpfljkcnlamlaaDoorPxMetricKnown
import Derived.Test.YtdpfljkcnlamlaaDoorGKeyword
namespace Go.Proofs.YtdpfljkcnlamlaaDoor.P
open Go.RowKit Go.Proofs.YtdpfljkcnlamlaaDoorW.PrintWords Go.Proofs.YtdpfljkcnlamlaaDoorW.PrintLast Go.Proofs.YtdpfljkcnlamlaaDoorW.PrintMore
attribute [local go_sem] max2_int min2_int max_two min_two max_three min_three max_four min_four   -- for this text's walks alone
set_option linter.unusedVariables false
set_option linter.unusedSimpArgs false

/-! ### entrepotlaw06_MetricKeys: function 8 -/
def entrepotlaw06_MetricKeys.j0 : Nat → Int → ByteArray → Bool → Option (Bool)
 | 0, _, _, _ => none
 | k + 1, x0, x1, x15 => if x15 = true then ((entrepotlaw06_shown.f).bind fun t189 => (some t189)) else ((metric_Of.f x1).bind fun bt190 => ((entrepotref06_Of.f k x1).bind fun bt192 => ((metric_Known.f x0).bind fun t194 => ((entrepotref06_Known.f x0).bind fun t195 => (if (t194 == t195) = true then ((metric_Keyword.f x0).bind fun t196 => ((entrepotref06_Keyword.f x0).bind fun t197 => (if t196.toList = t197.toList then (if bt190.1 = bt192.1 then (if (bt190.2 == bt192.2) = true then (if bt190.2 = true then ((metric_Keyword.f bt190.1).bind fun t198 => (some (t198.toList == x1.toList))) else (some true)) else (some false)) else (some false)) else (some false)))) else (some false))))))
def entrepotlaw06_MetricKeys.f (k : Nat) (a0 : Int) (a1 : ByteArray) : Option (Bool) := if (a1.size : Int) > 100 then (entrepotlaw06_MetricKeys.j0 k a0 a1 true) else ((entrepotlaw06_shown.f).bind fun t188 => (entrepotlaw06_MetricKeys.j0 k a0 a1 (!t188)))
theorem entrepotlaw06_MetricKeys.mono_l : ∀ k, (∀ y0 y1 y2, LeO (entrepotlaw06_MetricKeys.j0 k y0 y1 y2) (entrepotlaw06_MetricKeys.j0 (k + 1) y0 y1 y2))
 | 0 => fun _ _ _ r h => by simp [entrepotlaw06_MetricKeys.j0] at h
 | k + 1 => by
  have ih0 := entrepotlaw06_MetricKeys.mono_l k
  ·intro y0 y1 y2
   unfold entrepotlaw06_MetricKeys.j0
   repeat' first
   | (with_reducible exact ih0 _ _ _)
   | (with_reducible exact entrepotref06_Of.mono _ _)
   | (with_reducible exact LeO.refl _)
   | (with_reducible exact LeO.none _)
   | (with_reducible refine LeO.ite ?_ ?_)
   | (with_reducible refine LeO.bind ?_ (fun _ => ?_))
   | exact ih0 _ _ _
   | exact entrepotref06_Of.mono _ _
   | exact LeO.none _
   | refine LeO.ite ?_ ?_
   | refine LeO.bind ?_ (fun _ => ?_)
theorem entrepotlaw06_MetricKeys.mono : ∀ a0 a1 k, LeO (entrepotlaw06_MetricKeys.f k a0 a1) (entrepotlaw06_MetricKeys.f (k + 1) a0 a1) := by
 intro a0 a1 k
 have ih0 := entrepotlaw06_MetricKeys.mono_l k
 unfold entrepotlaw06_MetricKeys.f
 repeat' first
   | (with_reducible exact ih0 _ _ _)
   | (with_reducible exact entrepotref06_Of.mono _ _)
   | (with_reducible exact LeO.refl _)
   | (with_reducible exact LeO.none _)
   | (with_reducible refine LeO.ite ?_ ?_)
   | (with_reducible refine LeO.bind ?_ (fun _ => ?_))
   | exact ih0 _ _ _
   | exact entrepotref06_Of.mono _ _
   | exact LeO.none _
   | refine LeO.ite ?_ ?_
   | refine LeO.bind ?_ (fun _ => ?_)
set_option maxHeartbeats 8000000 in
set_option maxRecDepth 100000 in
theorem entrepotlaw06_MetricKeys.callsT (k : Nat) (a0 : Int) (a1 : ByteArray) (r : Bool) (w : World) (ht : Tab w) (h : entrepotlaw06_MetricKeys.f k a0 a1 = some r) (hr_ : Aside0 (r = true)) :
  Calls Tryd.prog 8 #[.int .i64 a0, .string a1] w fun e w' => e = .returned (.bool r) ∧ Below w.heap.size w w' := by
 have HTab_ := Aside0.mk ht
 clear ht
 have HB := Aside0.mk (Below.refl w.heap.size w)
 have H : (if (a1.size : Int) > 100 then (entrepotlaw06_MetricKeys.j0 k a0 a1 true) else ((entrepotlaw06_shown.f).bind fun t188 => (entrepotlaw06_MetricKeys.j0 k a0 a1 (!t188)))) = some r := h
 clear h
 have HC3 := Aside0.mk H
 clear H
 go_enter Tryd.func8, Tryd.ntmps8
 go_upto_region 1 with (fail)
 go_cut [15] (fun v15 wc => ∃ (kq : Nat) (x15_2 : Bool), v15 = .bool x15_2 ∧ Aside0 (entrepotlaw06_MetricKeys.j0 kq a0 a1 x15_2 = some r) ∧ Aside0 (kq ≤ k) ∧ Aside0 (Below w.heap.size w wc))
 case first =>
  have H := HC3.out
  clear HC3
  by_cases c4 : (a1.size : Int) > 100
  ·rw [if_pos c4] at H
   have c4b0 : decide (100 < (a1.size : Int)) = true := decide_eq_true c4
   have c4b1 : decide (100 < a1.size) = true := decide_eq_true (by omega)
   clear c4
   (first | rw [c4b0] | (simp only [i64_w, i32_w]; rw [c4b0]) | skip)
   have H' := Aside0.mk H
   clear H
   go_wp2
   go_meet
   case rel => exact ⟨_, (true), (by first | rfl | (simp; done) | (simp [*]; done)), H', ⟨by first | omega | exact Nat.le_refl _⟩, ⟨by repeat (first | (with_reducible first | exact HB.out | apply below_alloc | apply pw_below_drewN | apply below_drew1) | exact HB.out)⟩⟩
  ·rw [if_neg c4] at H
   have c4b0 : decide (100 < (a1.size : Int)) = false := decide_eq_false c4
   have c4b1 : decide (100 < a1.size) = false := decide_eq_false (by omega)
   clear c4
   (first | rw [c4b0] | (simp only [i64_w, i32_w]; rw [c4b0]) | skip)
   replace H := Option.bind_eq_some_iff.mp H
   obtain ⟨t188, A50, H⟩ := H
   replace H : (entrepotlaw06_MetricKeys.j0 k a0 a1 (!t188)) = some r := H
   have A5 := Aside0.mk A50
   clear A50
   have H' := Aside0.mk H
   clear H
   go_wp2_with (first | (go_at_call 11; (with_reducible refine (entrepotlaw06_shown.calls  t188 _ (tab_below HTab_.out (by repeat (first | (with_reducible first | exact HB.out | apply below_alloc | apply pw_below_drewN | apply below_drew1 | (refine below_set ?_ ?_; rotate_left; · assumption)) | exact HB.out))) A5.out).mono ?_); rintro e w6 ⟨rfl, hb⟩; have n0_ := Aside0.mk (below_step (by repeat (first | (with_reducible first | exact HB.out | apply below_alloc | apply pw_below_drewN | apply below_drew1) | exact HB.out)) hb); clear HB; have HB := n0_; clear n0_; (try clear hb); (try clear hb2); (try clear hk); (try clear hi)))
   go_meet
   case rel => exact ⟨_, (!t188), (by first | rfl | (simp; done) | (simp [*]; done)), H', ⟨by first | omega | exact Nat.le_refl _⟩, ⟨by repeat (first | (with_reducible first | exact HB.out | apply below_alloc | apply pw_below_drewN | apply below_drew1) | exact HB.out)⟩⟩
 case rest =>
  clear HC3
  obtain ⟨kq, x15_2, rfl, HA, HJ2, HB⟩ := hcut
  cases kq with
  | zero => exact absurd HA.out (by simp [entrepotlaw06_MetricKeys.j0])
  | succ kj2 =>
   have H := HA.out
   clear HA
   simp only [entrepotlaw06_MetricKeys.j0] at H
   by_cases c7 : x15_2 = true
   ·subst c7
    have H1 : ((entrepotlaw06_shown.f).bind fun t189 => (some t189)) = some r := by rw [if_pos rfl] at H; exact H
    clear H
    have H := H1
    clear H1
    replace H := Option.bind_eq_some_iff.mp H
    obtain ⟨t189, A80, H⟩ := H
    replace H : (some t189) = some r := H
    have A8 := Aside0.mk A80
    clear A80
    obtain rfl := Option.some.inj H
    go_wp2_with (first | ((with_reducible refine gate_callee (f := 11) rfl ?_); refine goesL_ (some 16) rfl rfl Tryd.func11 (by kernel_rfl) rfl #[] rfl (by (try simp only [List.map_toArray, List.map_cons, List.map_nil]); first | done | rfl | (simp only [List.length_drop, List.length_take]; rfl)) ?_; (with_reducible refine (entrepotlaw06_shown.calls  t189 _ (tab_below HTab_.out (by repeat (first | (with_reducible first | exact HB.out | apply below_alloc | apply pw_below_drewN | apply below_drew1 | (refine below_set ?_ ?_; rotate_left; · assumption)) | exact HB.out))) A8.out).mono ?_); rintro e w9 ⟨rfl, hb⟩; refine ⟨_, rfl, ?_⟩; have n0_ := Aside0.mk (below_step (by repeat (first | (with_reducible first | exact HB.out | apply below_alloc | apply pw_below_drewN | apply below_drew1) | exact HB.out)) hb); clear HB; have HB := n0_; clear n0_; (try clear hb); (try clear hb2); (try clear hk); (try clear hi)))
    go_ret
    exact ⟨by first | rfl | (simp [errW_none, errW_some] <;> rfl) | (simp [*, errW_none, errW_some] <;> rfl), by repeat (first | (with_reducible first | exact HB.out | apply below_alloc | apply pw_below_drewN | apply below_drew1) | exact HB.out)⟩
   ·replace c7 := Bool.eq_false_iff.mpr c7
    subst c7
    have H1 : ((metric_Of.f a1).bind fun bt190 => ((entrepotref06_Of.f kj2 a1).bind fun bt192 => ((metric_Known.f a0).bind fun t194 => ((entrepotref06_Known.f a0).bind fun t195 => (if (t194 == t195) = true then ((metric_Keyword.f a0).bind fun t196 => ((entrepotref06_Keyword.f a0).bind fun t197 => (if t196.toList = t197.toList then (if bt190.1 = bt192.1 then (if (bt190.2 == bt192.2) = true then (if bt190.2 = true then ((metric_Keyword.f bt190.1).bind fun t198 => (some (t198.toList == a1.toList))) else (some true)) else (some false)) else (some false)) else (some false)))) else (some false)))))) = some r := by rw [if_neg (show ¬ (false = true) by decide)] at H; exact H
    clear H
    have H := H1
    clear H1
    replace H := Option.bind_eq_some_iff.mp H
    obtain ⟨⟨t190, t191⟩, A100, H⟩ := H
    replace H : ((entrepotref06_Of.f kj2 a1).bind fun bt192 => ((metric_Known.f a0).bind fun t194 => ((entrepotref06_Known.f a0).bind fun t195 => (if (t194 == t195) = true then ((metric_Keyword.f a0).bind fun t196 => ((entrepotref06_Keyword.f a0).bind fun t197 => (if t196.toList = t197.toList then (if t190 = bt192.1 then (if (t191 == bt192.2) = true then (if t191 = true then ((metric_Keyword.f t190).bind fun t198 => (some (t198.toList == a1.toList))) else (some true)) else (some false)) else (some false)) else (some false)))) else (some false))))) = some r := H
    have A10 := Aside0.mk A100
    clear A100
    replace H := Option.bind_eq_some_iff.mp H
    obtain ⟨⟨t192, t193⟩, A110, H⟩ := H
    replace H : ((metric_Known.f a0).bind fun t194 => ((entrepotref06_Known.f a0).bind fun t195 => (if (t194 == t195) = true then ((metric_Keyword.f a0).bind fun t196 => ((entrepotref06_Keyword.f a0).bind fun t197 => (if t196.toList = t197.toList then (if t190 = t192 then (if (t191 == t193) = true then (if t191 = true then ((metric_Keyword.f t190).bind fun t198 => (some (t198.toList == a1.toList))) else (some true)) else (some false)) else (some false)) else (some false)))) else (some false)))) = some r := H
    have A11 := Aside0.mk A110
    clear A110
    replace H := Option.bind_eq_some_iff.mp H
    obtain ⟨t194, A120, H⟩ := H
    replace H : ((entrepotref06_Known.f a0).bind fun t195 => (if (t194 == t195) = true then ((metric_Keyword.f a0).bind fun t196 => ((entrepotref06_Keyword.f a0).bind fun t197 => (if t196.toList = t197.toList then (if t190 = t192 then (if (t191 == t193) = true then (if t191 = true then ((metric_Keyword.f t190).bind fun t198 => (some (t198.toList == a1.toList))) else (some true)) else (some false)) else (some false)) else (some false)))) else (some false))) = some r := H
    have A12 := Aside0.mk A120
    clear A120
    replace H := Option.bind_eq_some_iff.mp H
    obtain ⟨t195, A130, H⟩ := H
    replace H : (if (t194 == t195) = true then ((metric_Keyword.f a0).bind fun t196 => ((entrepotref06_Keyword.f a0).bind fun t197 => (if t196.toList = t197.toList then (if t190 = t192 then (if (t191 == t193) = true then (if t191 = true then ((metric_Keyword.f t190).bind fun t198 => (some (t198.toList == a1.toList))) else (some true)) else (some false)) else (some false)) else (some false)))) else (some false)) = some r := H
    have A13 := Aside0.mk A130
    clear A130
    by_cases c14 : (t194 == t195) = true
    ·rw [if_pos c14] at H
     have c14b0 : (t194 == t195) = true := c14
     (try (have c14b1 : decide (t194 = t195) = true := by simpa using c14))
     (try (have c14b2 : (t194 == t195) = true := by simpa using c14))
     clear c14
     replace H := Option.bind_eq_some_iff.mp H
     obtain ⟨t196, A150, H⟩ := H
     replace H : ((entrepotref06_Keyword.f a0).bind fun t197 => (if t196.toList = t197.toList then (if t190 = t192 then (if (t191 == t193) = true then (if t191 = true then ((metric_Keyword.f t190).bind fun t198 => (some (t198.toList == a1.toList))) else (some true)) else (some false)) else (some false)) else (some false))) = some r := H
     have A15 := Aside0.mk A150
     clear A150
     replace H := Option.bind_eq_some_iff.mp H
     obtain ⟨t197, A160, H⟩ := H
     replace H : (if t196.toList = t197.toList then (if t190 = t192 then (if (t191 == t193) = true then (if t191 = true then ((metric_Keyword.f t190).bind fun t198 => (some (t198.toList == a1.toList))) else (some true)) else (some false)) else (some false)) else (some false)) = some r := H
     have A16 := Aside0.mk A160
     clear A160
     by_cases c17 : t196.toList = t197.toList
     ·rw [if_pos c17] at H
      have c17b0 : (t196.toList == t197.toList) = true := beq_iff_eq.mpr c17
      have c17b1 : (t196.toList != t197.toList) = false := bne_eq_false_iff_eq.mpr c17
      clear c17
      by_cases c18 : t190 = t192
      ·rw [if_pos c18] at H
       have c18b0 : (t190 == t192) = true := beq_iff_eq.mpr c18
       have c18b1 : (t190 != t192) = false := bne_eq_false_iff_eq.mpr c18
       clear c18
       by_cases c19 : (t191 == t193) = true
       ·rw [if_pos c19] at H
        have c19b0 : (t191 == t193) = true := c19
        (try (have c19b1 : decide (t191 = t193) = true := by simpa using c19))
        (try (have c19b2 : (t191 == t193) = true := by simpa using c19))
        clear c19
        by_cases c20 : t191 = true
        ·subst c20
         have H1 : ((metric_Keyword.f t190).bind fun t198 => (some (t198.toList == a1.toList))) = some r := by rw [if_pos rfl] at H; exact H
         clear H
         have H := H1
         clear H1
         replace H := Option.bind_eq_some_iff.mp H
         obtain ⟨t198, A210, H⟩ := H
         replace H : (some (t198.toList == a1.toList)) = some r := H
         have A21 := Aside0.mk A210
         clear A210
         obtain rfl := Option.some.inj H
         go_wp2_with (first | ((with_reducible refine gate_callee (f := 13) rfl ?_); refine goesL_ (some 19) rfl rfl Tryd.func13 (by kernel_rfl) rfl #[.string a1] rfl (by (try simp only [List.map_toArray, List.map_cons, List.map_nil]); first | done | rfl | (simp only [List.length_drop, List.length_take]; rfl)) ?_; (with_reducible refine (metric_Of.calls a1 t190 true _ (tab_below HTab_.out (by repeat (first | (with_reducible first | exact HB.out | apply below_alloc | apply pw_below_drewN | apply below_drew1 | (refine below_set ?_ ?_; rotate_left; · assumption)) | exact HB.out))) A10.out).mono ?_); rintro e w22 ⟨rfl, hb⟩; refine ⟨_, rfl, ?_⟩; have n0_ := Aside0.mk (below_step (by repeat (first | (with_reducible first | exact HB.out | apply below_alloc | apply pw_below_drewN | apply below_drew1) | exact HB.out)) hb); clear HB; have HB := n0_; clear n0_; (try clear hb); (try clear hb2); (try clear hk); (try clear hi)) | ((with_reducible refine gate_callee (f := 14) rfl ?_); refine goesL_ (some 24) rfl rfl Tryd.func14 (by kernel_rfl) rfl #[.string a1] rfl (by (try simp only [List.map_toArray, List.map_cons, List.map_nil]); first | done | rfl | (simp only [List.length_drop, List.length_take]; rfl)) ?_; (with_reducible refine (entrepotref06_Of.calls kj2 a1 t192 t193 _ A11.out).mono ?_); rintro e w' ⟨rfl, ⟨nd, rfl⟩⟩; refine ⟨_, rfl, ?_⟩) | ((with_reducible refine gate_callee (f := 15) rfl ?_); refine goesL_ (some 28) rfl rfl Tryd.func15 (by kernel_rfl) rfl #[.int .i64 a0] rfl (by (try simp only [List.map_toArray, List.map_cons, List.map_nil]); first | done | rfl | (simp only [List.length_drop, List.length_take]; rfl)) ?_; (with_reducible refine (metric_Known.calls a0 t194 _ A12.out).mono ?_); rintro e w' ⟨rfl, ⟨nd, rfl⟩⟩; refine ⟨_, rfl, ?_⟩) | ((with_reducible refine gate_callee (f := 16) rfl ?_); refine goesL_ (some 30) rfl rfl Tryd.func16 (by kernel_rfl) rfl #[.int .i64 a0] rfl (by (try simp only [List.map_toArray, List.map_cons, List.map_nil]); first | done | rfl | (simp only [List.length_drop, List.length_take]; rfl)) ?_; (with_reducible refine (entrepotref06_Known.calls a0 t195 _ A13.out).mono ?_); rintro e w' ⟨rfl, ⟨nd, rfl⟩⟩; refine ⟨_, rfl, ?_⟩) | (go_at_call 17; (with_reducible refine (metric_Keyword.calls a0 t196 _ (tab_below HTab_.out (by repeat (first | (with_reducible first | exact HB.out | apply below_alloc | apply pw_below_drewN | apply below_drew1 | (refine below_set ?_ ?_; rotate_left; · assumption)) | exact HB.out))) A15.out).mono ?_); rintro e w23 ⟨rfl, hb⟩; have n0_ := Aside0.mk (below_step (by repeat (first | (with_reducible first | exact HB.out | apply below_alloc | apply pw_below_drewN | apply below_drew1) | exact HB.out)) hb); clear HB; have HB := n0_; clear n0_; (try clear hb); (try clear hb2); (try clear hk); (try clear hi)) | (go_at_call 18; (with_reducible refine (entrepotref06_Keyword.calls a0 t197 _ A16.out).mono ?_); rintro e w' ⟨rfl, ⟨nd, rfl⟩⟩) | (go_at_call 17; (with_reducible refine (metric_Keyword.calls t190 t198 _ (tab_below HTab_.out (by repeat (first | (with_reducible first | exact HB.out | apply below_alloc | apply pw_below_drewN | apply below_drew1 | (refine below_set ?_ ?_; rotate_left; · assumption)) | exact HB.out))) A21.out).mono ?_); rintro e w24 ⟨rfl, hb⟩; have n0_ := Aside0.mk (below_step (by repeat (first | (with_reducible first | exact HB.out | apply below_alloc | apply pw_below_drewN | apply below_drew1) | exact HB.out)) hb); clear HB; have HB := n0_; clear n0_; (try clear hb); (try clear hb2); (try clear hk); (try clear hi)))
         go_ret
         exact ⟨by first | rfl | (simp [errW_none, errW_some] <;> rfl) | (simp [*, errW_none, errW_some] <;> rfl), by repeat (first | (with_reducible first | exact HB.out | apply below_alloc | apply pw_below_drewN | apply below_drew1) | exact HB.out)⟩
        ·replace c20 := Bool.eq_false_iff.mpr c20
         subst c20
         have H1 : (some true) = some r := by rw [if_neg (show ¬ (false = true) by decide)] at H; exact H
         clear H
         have H := H1
         clear H1
         obtain rfl := Option.some.inj H
         go_wp2_with (first | ((with_reducible refine gate_callee (f := 13) rfl ?_); refine goesL_ (some 19) rfl rfl Tryd.func13 (by kernel_rfl) rfl #[.string a1] rfl (by (try simp only [List.map_toArray, List.map_cons, List.map_nil]); first | done | rfl | (simp only [List.length_drop, List.length_take]; rfl)) ?_; (with_reducible refine (metric_Of.calls a1 t190 false _ (tab_below HTab_.out (by repeat (first | (with_reducible first | exact HB.out | apply below_alloc | apply pw_below_drewN | apply below_drew1 | (refine below_set ?_ ?_; rotate_left; · assumption)) | exact HB.out))) A10.out).mono ?_); rintro e w25 ⟨rfl, hb⟩; refine ⟨_, rfl, ?_⟩; have n0_ := Aside0.mk (below_step (by repeat (first | (with_reducible first | exact HB.out | apply below_alloc | apply pw_below_drewN | apply below_drew1) | exact HB.out)) hb); clear HB; have HB := n0_; clear n0_; (try clear hb); (try clear hb2); (try clear hk); (try clear hi)) | ((with_reducible refine gate_callee (f := 14) rfl ?_); refine goesL_ (some 24) rfl rfl Tryd.func14 (by kernel_rfl) rfl #[.string a1] rfl (by (try simp only [List.map_toArray, List.map_cons, List.map_nil]); first | done | rfl | (simp only [List.length_drop, List.length_take]; rfl)) ?_; (with_reducible refine (entrepotref06_Of.calls kj2 a1 t192 t193 _ A11.out).mono ?_); rintro e w' ⟨rfl, ⟨nd, rfl⟩⟩; refine ⟨_, rfl, ?_⟩) | ((with_reducible refine gate_callee (f := 15) rfl ?_); refine goesL_ (some 28) rfl rfl Tryd.func15 (by kernel_rfl) rfl #[.int .i64 a0] rfl (by (try simp only [List.map_toArray, List.map_cons, List.map_nil]); first | done | rfl | (simp only [List.length_drop, List.length_take]; rfl)) ?_; (with_reducible refine (metric_Known.calls a0 t194 _ A12.out).mono ?_); rintro e w' ⟨rfl, ⟨nd, rfl⟩⟩; refine ⟨_, rfl, ?_⟩) | ((with_reducible refine gate_callee (f := 16) rfl ?_); refine goesL_ (some 30) rfl rfl Tryd.func16 (by kernel_rfl) rfl #[.int .i64 a0] rfl (by (try simp only [List.map_toArray, List.map_cons, List.map_nil]); first | done | rfl | (simp only [List.length_drop, List.length_take]; rfl)) ?_; (with_reducible refine (entrepotref06_Known.calls a0 t195 _ A13.out).mono ?_); rintro e w' ⟨rfl, ⟨nd, rfl⟩⟩; refine ⟨_, rfl, ?_⟩) | (go_at_call 17; (with_reducible refine (metric_Keyword.calls a0 t196 _ (tab_below HTab_.out (by repeat (first | (with_reducible first | exact HB.out | apply below_alloc | apply pw_below_drewN | apply below_drew1 | (refine below_set ?_ ?_; rotate_left; · assumption)) | exact HB.out))) A15.out).mono ?_); rintro e w26 ⟨rfl, hb⟩; have n0_ := Aside0.mk (below_step (by repeat (first | (with_reducible first | exact HB.out | apply below_alloc | apply pw_below_drewN | apply below_drew1) | exact HB.out)) hb); clear HB; have HB := n0_; clear n0_; (try clear hb); (try clear hb2); (try clear hk); (try clear hi)) | (go_at_call 18; (with_reducible refine (entrepotref06_Keyword.calls a0 t197 _ A16.out).mono ?_); rintro e w' ⟨rfl, ⟨nd, rfl⟩⟩))
         go_ret
         exact ⟨by first | rfl | (simp [errW_none, errW_some] <;> rfl) | (simp [*, errW_none, errW_some] <;> rfl), by repeat (first | (with_reducible first | exact HB.out | apply below_alloc | apply pw_below_drewN | apply below_drew1) | exact HB.out)⟩
       ·rw [if_neg c19] at H
        have c19b0 : (t191 == t193) = false := by simpa using c19
        (try (have c19b1 : decide (t191 = t193) = false := by simpa using c19))
        (try (have c19b2 : (t191 == t193) = false := by simpa using c19))
        (try (have c19b3 : ¬ (t191 = t193) := by simpa using c19))
        clear c19
        exact absurd ((Option.some.inj H).trans hr_.out) (by decide)
      ·rw [if_neg c18] at H
       have c18b0 : (t190 == t192) = false := beq_eq_false_iff_ne.mpr c18
       have c18b1 : (t190 != t192) = true := bne_iff_ne.mpr c18
       exact absurd ((Option.some.inj H).trans hr_.out) (by decide)
     ·rw [if_neg c17] at H
      have c17b0 : (t196.toList == t197.toList) = false := beq_eq_false_iff_ne.mpr c17
      have c17b1 : (t196.toList != t197.toList) = true := bne_iff_ne.mpr c17
      exact absurd ((Option.some.inj H).trans hr_.out) (by decide)
    ·rw [if_neg c14] at H
     have c14b0 : (t194 == t195) = false := by simpa using c14
     (try (have c14b1 : decide (t194 = t195) = false := by simpa using c14))
     (try (have c14b2 : (t194 == t195) = false := by simpa using c14))
     (try (have c14b3 : ¬ (t194 = t195) := by simpa using c14))
     clear c14
     exact absurd ((Option.some.inj H).trans hr_.out) (by decide)

end Go.Proofs.YtdpfljkcnlamlaaDoor.P
