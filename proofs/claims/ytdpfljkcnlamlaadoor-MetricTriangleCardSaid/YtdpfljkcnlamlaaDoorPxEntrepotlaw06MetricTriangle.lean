/- Written by a program of this session, after the kit's print: Lean functions for Go functions, and the proof that the machine comes to their answers. -/
import Derived.Test.YtdpfljkcnlamlaaDoorPx0
import Derived.Test.YtdpfljkcnlamlaaDoorPxEntrepotlaw06near
import Derived.Test.YtdpfljkcnlamlaaDoorPxEntrepotlaw06shown
import Derived.Test.YtdpfljkcnlamlaaDoorGDist
namespace Go.Proofs.YtdpfljkcnlamlaaDoor.P
open Go.RowKit Go.Proofs.YtdpfljkcnlamlaaDoorW.PrintWords Go.Proofs.YtdpfljkcnlamlaaDoorW.PrintLast Go.Proofs.YtdpfljkcnlamlaaDoorW.PrintMore
attribute [local go_sem] max2_int min2_int max_two min_two max_three min_three max_four min_four   -- for this text's walks alone
set_option linter.unusedVariables false
set_option linter.unusedSimpArgs false

/-! ### entrepotlaw06_MetricTriangle: function 6 -/
mutual
def entrepotlaw06_MetricTriangle.j0 : Nat → Int → Int → Int → Int → Int → Int → Bool → Option (Bool)
 | 0, _, _, _, _, _, _, _ => none
 | k + 1, x0, x1, x2, x3, x4, x5, x54 => if x54 = true then ((entrepotlaw06_shown.f).bind fun t164 => (some t164)) else (if x0 = 2 then (entrepotlaw06_MetricTriangle.j1 k x0 x1 x2 x3 x4 x5 false) else (if x0 = 5 then (entrepotlaw06_MetricTriangle.j1 k x0 x1 x2 x3 x4 x5 false) else (if x0 = 3 then (entrepotlaw06_MetricTriangle.j1 k x0 x1 x2 x3 x4 x5 (x1 != 0)) else (if x0 = 4 then (entrepotlaw06_MetricTriangle.j1 k x0 x1 x2 x3 x4 x5 (x1 != 0)) else (entrepotlaw06_MetricTriangle.j1 k x0 x1 x2 x3 x4 x5 true)))))
def entrepotlaw06_MetricTriangle.j1 : Nat → Int → Int → Int → Int → Int → Int → Bool → Option (Bool)
 | 0, _, _, _, _, _, _, _ => none
 | k + 1, x0, x1, x2, x3, x4, x5, x73 => if x73 = true then (some true) else ((metric_Dist.f x0 x1 x2 x3).bind fun bt165 => ((metric_Dist.f x0 x1 x4 x5).bind fun bt167 => ((metric_Dist.f x0 x1 (wrap64 (x2 + x4)) (wrap64 (x3 + x5))).bind fun bt169 => (if bt165.2 = bt167.2 then (if bt167.2 = bt169.2 then (some (decide (bt169.1 ≤ (wrap64 (bt165.1 + bt167.1))))) else (some false)) else (some false)))))
end
def entrepotlaw06_MetricTriangle.f (k : Nat) (a0 : Int) (a1 : Int) (a2 : Int) (a3 : Int) (a4 : Int) (a5 : Int) : Option (Bool) := (entrepotlaw06_near.f a2).bind fun t157 => (if t157 = true then ((entrepotlaw06_near.f a3).bind fun t158 => (if t158 = true then ((entrepotlaw06_near.f a4).bind fun t159 => (if t159 = true then ((entrepotlaw06_near.f a5).bind fun t160 => (if t160 = true then ((entrepotlaw06_near.f (wrap64 (a2 + a4))).bind fun t161 => (if t161 = true then ((entrepotlaw06_near.f (wrap64 (a3 + a5))).bind fun t162 => (if t162 = true then ((entrepotlaw06_shown.f).bind fun t163 => (entrepotlaw06_MetricTriangle.j0 k a0 a1 a2 a3 a4 a5 (!t163))) else (entrepotlaw06_MetricTriangle.j0 k a0 a1 a2 a3 a4 a5 true))) else (entrepotlaw06_MetricTriangle.j0 k a0 a1 a2 a3 a4 a5 true))) else (entrepotlaw06_MetricTriangle.j0 k a0 a1 a2 a3 a4 a5 true))) else (entrepotlaw06_MetricTriangle.j0 k a0 a1 a2 a3 a4 a5 true))) else (entrepotlaw06_MetricTriangle.j0 k a0 a1 a2 a3 a4 a5 true))) else (entrepotlaw06_MetricTriangle.j0 k a0 a1 a2 a3 a4 a5 true))
theorem entrepotlaw06_MetricTriangle.mono_l : ∀ k, (∀ y0 y1 y2 y3 y4 y5 y6, LeO (entrepotlaw06_MetricTriangle.j0 k y0 y1 y2 y3 y4 y5 y6) (entrepotlaw06_MetricTriangle.j0 (k + 1) y0 y1 y2 y3 y4 y5 y6)) ∧ (∀ y0 y1 y2 y3 y4 y5 y6, LeO (entrepotlaw06_MetricTriangle.j1 k y0 y1 y2 y3 y4 y5 y6) (entrepotlaw06_MetricTriangle.j1 (k + 1) y0 y1 y2 y3 y4 y5 y6))
 | 0 => ⟨fun _ _ _ _ _ _ _ r h => by simp [entrepotlaw06_MetricTriangle.j0] at h, fun _ _ _ _ _ _ _ r h => by simp [entrepotlaw06_MetricTriangle.j1] at h⟩
 | k + 1 => by
  obtain ⟨ih0, ih1⟩ := entrepotlaw06_MetricTriangle.mono_l k
  refine ⟨?_, ?_⟩
  ·intro y0 y1 y2 y3 y4 y5 y6
   unfold entrepotlaw06_MetricTriangle.j0
   repeat' first
   | (with_reducible exact ih0 _ _ _ _ _ _ _)
   | (with_reducible exact ih1 _ _ _ _ _ _ _)
   | (with_reducible exact LeO.refl _)
   | (with_reducible exact LeO.none _)
   | (with_reducible refine LeO.ite ?_ ?_)
   | (with_reducible refine LeO.bind ?_ (fun _ => ?_))
   | exact ih0 _ _ _ _ _ _ _
   | exact ih1 _ _ _ _ _ _ _
   | exact LeO.none _
   | refine LeO.ite ?_ ?_
   | refine LeO.bind ?_ (fun _ => ?_)
  ·intro y0 y1 y2 y3 y4 y5 y6
   unfold entrepotlaw06_MetricTriangle.j1
   repeat' first
   | (with_reducible exact ih0 _ _ _ _ _ _ _)
   | (with_reducible exact ih1 _ _ _ _ _ _ _)
   | (with_reducible exact LeO.refl _)
   | (with_reducible exact LeO.none _)
   | (with_reducible refine LeO.ite ?_ ?_)
   | (with_reducible refine LeO.bind ?_ (fun _ => ?_))
   | exact ih0 _ _ _ _ _ _ _
   | exact ih1 _ _ _ _ _ _ _
   | exact LeO.none _
   | refine LeO.ite ?_ ?_
   | refine LeO.bind ?_ (fun _ => ?_)
theorem entrepotlaw06_MetricTriangle.mono : ∀ a0 a1 a2 a3 a4 a5 k, LeO (entrepotlaw06_MetricTriangle.f k a0 a1 a2 a3 a4 a5) (entrepotlaw06_MetricTriangle.f (k + 1) a0 a1 a2 a3 a4 a5) := by
 intro a0 a1 a2 a3 a4 a5 k
 obtain ⟨ih0, ih1⟩ := entrepotlaw06_MetricTriangle.mono_l k
 unfold entrepotlaw06_MetricTriangle.f
 repeat' first
   | (with_reducible exact ih0 _ _ _ _ _ _ _)
   | (with_reducible exact ih1 _ _ _ _ _ _ _)
   | (with_reducible exact LeO.refl _)
   | (with_reducible exact LeO.none _)
   | (with_reducible refine LeO.ite ?_ ?_)
   | (with_reducible refine LeO.bind ?_ (fun _ => ?_))
   | exact ih0 _ _ _ _ _ _ _
   | exact ih1 _ _ _ _ _ _ _
   | exact LeO.none _
   | refine LeO.ite ?_ ?_
   | refine LeO.bind ?_ (fun _ => ?_)
set_option maxHeartbeats 8000000 in
set_option maxRecDepth 100000 in
theorem entrepotlaw06_MetricTriangle.callsT (k : Nat) (a0 : Int) (a1 : Int) (a2 : Int) (a3 : Int) (a4 : Int) (a5 : Int) (r : Bool) (w : World) (ht : Tab w) (h : entrepotlaw06_MetricTriangle.f k a0 a1 a2 a3 a4 a5 = some r) (hr_ : Aside0 (r = true)) :
  Calls Tryd.prog 6 #[.int .i64 a0, .int .i64 a1, .int .i64 a2, .int .i64 a3, .int .i64 a4, .int .i64 a5] w fun e w' => e = .returned (.bool r) ∧ Below w.heap.size w w' := by
 have HTab_ := Aside0.mk ht
 clear ht
 have HB := Aside0.mk (Below.refl w.heap.size w)
 have H : ((entrepotlaw06_near.f a2).bind fun t157 => (if t157 = true then ((entrepotlaw06_near.f a3).bind fun t158 => (if t158 = true then ((entrepotlaw06_near.f a4).bind fun t159 => (if t159 = true then ((entrepotlaw06_near.f a5).bind fun t160 => (if t160 = true then ((entrepotlaw06_near.f (wrap64 (a2 + a4))).bind fun t161 => (if t161 = true then ((entrepotlaw06_near.f (wrap64 (a3 + a5))).bind fun t162 => (if t162 = true then ((entrepotlaw06_shown.f).bind fun t163 => (entrepotlaw06_MetricTriangle.j0 k a0 a1 a2 a3 a4 a5 (!t163))) else (entrepotlaw06_MetricTriangle.j0 k a0 a1 a2 a3 a4 a5 true))) else (entrepotlaw06_MetricTriangle.j0 k a0 a1 a2 a3 a4 a5 true))) else (entrepotlaw06_MetricTriangle.j0 k a0 a1 a2 a3 a4 a5 true))) else (entrepotlaw06_MetricTriangle.j0 k a0 a1 a2 a3 a4 a5 true))) else (entrepotlaw06_MetricTriangle.j0 k a0 a1 a2 a3 a4 a5 true))) else (entrepotlaw06_MetricTriangle.j0 k a0 a1 a2 a3 a4 a5 true))) = some r := h
 clear h
 have HC7 := Aside0.mk H
 clear H
 go_enter Tryd.func6, Tryd.ntmps6
 go_upto_region 1 with (fail)
 go_cut [54] (fun v54 wc => ∃ (kq : Nat) (x54_6 : Bool), v54 = .bool x54_6 ∧ Aside0 (entrepotlaw06_MetricTriangle.j0 kq a0 a1 a2 a3 a4 a5 x54_6 = some r) ∧ Aside0 (kq ≤ k) ∧ Aside0 (Below w.heap.size w wc))
 case first =>
  have H := HC7.out
  clear HC7
  replace H := Option.bind_eq_some_iff.mp H
  obtain ⟨t157, A80, H⟩ := H
  replace H : (if t157 = true then ((entrepotlaw06_near.f a3).bind fun t158 => (if t158 = true then ((entrepotlaw06_near.f a4).bind fun t159 => (if t159 = true then ((entrepotlaw06_near.f a5).bind fun t160 => (if t160 = true then ((entrepotlaw06_near.f (wrap64 (a2 + a4))).bind fun t161 => (if t161 = true then ((entrepotlaw06_near.f (wrap64 (a3 + a5))).bind fun t162 => (if t162 = true then ((entrepotlaw06_shown.f).bind fun t163 => (entrepotlaw06_MetricTriangle.j0 k a0 a1 a2 a3 a4 a5 (!t163))) else (entrepotlaw06_MetricTriangle.j0 k a0 a1 a2 a3 a4 a5 true))) else (entrepotlaw06_MetricTriangle.j0 k a0 a1 a2 a3 a4 a5 true))) else (entrepotlaw06_MetricTriangle.j0 k a0 a1 a2 a3 a4 a5 true))) else (entrepotlaw06_MetricTriangle.j0 k a0 a1 a2 a3 a4 a5 true))) else (entrepotlaw06_MetricTriangle.j0 k a0 a1 a2 a3 a4 a5 true))) else (entrepotlaw06_MetricTriangle.j0 k a0 a1 a2 a3 a4 a5 true)) = some r := H
  have A8 := Aside0.mk A80
  clear A80
  by_cases c9 : t157 = true
  ·subst c9
   have H1 : ((entrepotlaw06_near.f a3).bind fun t158 => (if t158 = true then ((entrepotlaw06_near.f a4).bind fun t159 => (if t159 = true then ((entrepotlaw06_near.f a5).bind fun t160 => (if t160 = true then ((entrepotlaw06_near.f (wrap64 (a2 + a4))).bind fun t161 => (if t161 = true then ((entrepotlaw06_near.f (wrap64 (a3 + a5))).bind fun t162 => (if t162 = true then ((entrepotlaw06_shown.f).bind fun t163 => (entrepotlaw06_MetricTriangle.j0 k a0 a1 a2 a3 a4 a5 (!t163))) else (entrepotlaw06_MetricTriangle.j0 k a0 a1 a2 a3 a4 a5 true))) else (entrepotlaw06_MetricTriangle.j0 k a0 a1 a2 a3 a4 a5 true))) else (entrepotlaw06_MetricTriangle.j0 k a0 a1 a2 a3 a4 a5 true))) else (entrepotlaw06_MetricTriangle.j0 k a0 a1 a2 a3 a4 a5 true))) else (entrepotlaw06_MetricTriangle.j0 k a0 a1 a2 a3 a4 a5 true))) = some r := by rw [if_pos rfl] at H; exact H
   clear H
   have H := H1
   clear H1
   replace H := Option.bind_eq_some_iff.mp H
   obtain ⟨t158, A100, H⟩ := H
   replace H : (if t158 = true then ((entrepotlaw06_near.f a4).bind fun t159 => (if t159 = true then ((entrepotlaw06_near.f a5).bind fun t160 => (if t160 = true then ((entrepotlaw06_near.f (wrap64 (a2 + a4))).bind fun t161 => (if t161 = true then ((entrepotlaw06_near.f (wrap64 (a3 + a5))).bind fun t162 => (if t162 = true then ((entrepotlaw06_shown.f).bind fun t163 => (entrepotlaw06_MetricTriangle.j0 k a0 a1 a2 a3 a4 a5 (!t163))) else (entrepotlaw06_MetricTriangle.j0 k a0 a1 a2 a3 a4 a5 true))) else (entrepotlaw06_MetricTriangle.j0 k a0 a1 a2 a3 a4 a5 true))) else (entrepotlaw06_MetricTriangle.j0 k a0 a1 a2 a3 a4 a5 true))) else (entrepotlaw06_MetricTriangle.j0 k a0 a1 a2 a3 a4 a5 true))) else (entrepotlaw06_MetricTriangle.j0 k a0 a1 a2 a3 a4 a5 true)) = some r := H
   have A10 := Aside0.mk A100
   clear A100
   by_cases c11 : t158 = true
   ·subst c11
    have H1 : ((entrepotlaw06_near.f a4).bind fun t159 => (if t159 = true then ((entrepotlaw06_near.f a5).bind fun t160 => (if t160 = true then ((entrepotlaw06_near.f (wrap64 (a2 + a4))).bind fun t161 => (if t161 = true then ((entrepotlaw06_near.f (wrap64 (a3 + a5))).bind fun t162 => (if t162 = true then ((entrepotlaw06_shown.f).bind fun t163 => (entrepotlaw06_MetricTriangle.j0 k a0 a1 a2 a3 a4 a5 (!t163))) else (entrepotlaw06_MetricTriangle.j0 k a0 a1 a2 a3 a4 a5 true))) else (entrepotlaw06_MetricTriangle.j0 k a0 a1 a2 a3 a4 a5 true))) else (entrepotlaw06_MetricTriangle.j0 k a0 a1 a2 a3 a4 a5 true))) else (entrepotlaw06_MetricTriangle.j0 k a0 a1 a2 a3 a4 a5 true))) = some r := by rw [if_pos rfl] at H; exact H
    clear H
    have H := H1
    clear H1
    replace H := Option.bind_eq_some_iff.mp H
    obtain ⟨t159, A120, H⟩ := H
    replace H : (if t159 = true then ((entrepotlaw06_near.f a5).bind fun t160 => (if t160 = true then ((entrepotlaw06_near.f (wrap64 (a2 + a4))).bind fun t161 => (if t161 = true then ((entrepotlaw06_near.f (wrap64 (a3 + a5))).bind fun t162 => (if t162 = true then ((entrepotlaw06_shown.f).bind fun t163 => (entrepotlaw06_MetricTriangle.j0 k a0 a1 a2 a3 a4 a5 (!t163))) else (entrepotlaw06_MetricTriangle.j0 k a0 a1 a2 a3 a4 a5 true))) else (entrepotlaw06_MetricTriangle.j0 k a0 a1 a2 a3 a4 a5 true))) else (entrepotlaw06_MetricTriangle.j0 k a0 a1 a2 a3 a4 a5 true))) else (entrepotlaw06_MetricTriangle.j0 k a0 a1 a2 a3 a4 a5 true)) = some r := H
    have A12 := Aside0.mk A120
    clear A120
    by_cases c13 : t159 = true
    ·subst c13
     have H1 : ((entrepotlaw06_near.f a5).bind fun t160 => (if t160 = true then ((entrepotlaw06_near.f (wrap64 (a2 + a4))).bind fun t161 => (if t161 = true then ((entrepotlaw06_near.f (wrap64 (a3 + a5))).bind fun t162 => (if t162 = true then ((entrepotlaw06_shown.f).bind fun t163 => (entrepotlaw06_MetricTriangle.j0 k a0 a1 a2 a3 a4 a5 (!t163))) else (entrepotlaw06_MetricTriangle.j0 k a0 a1 a2 a3 a4 a5 true))) else (entrepotlaw06_MetricTriangle.j0 k a0 a1 a2 a3 a4 a5 true))) else (entrepotlaw06_MetricTriangle.j0 k a0 a1 a2 a3 a4 a5 true))) = some r := by rw [if_pos rfl] at H; exact H
     clear H
     have H := H1
     clear H1
     replace H := Option.bind_eq_some_iff.mp H
     obtain ⟨t160, A140, H⟩ := H
     replace H : (if t160 = true then ((entrepotlaw06_near.f (wrap64 (a2 + a4))).bind fun t161 => (if t161 = true then ((entrepotlaw06_near.f (wrap64 (a3 + a5))).bind fun t162 => (if t162 = true then ((entrepotlaw06_shown.f).bind fun t163 => (entrepotlaw06_MetricTriangle.j0 k a0 a1 a2 a3 a4 a5 (!t163))) else (entrepotlaw06_MetricTriangle.j0 k a0 a1 a2 a3 a4 a5 true))) else (entrepotlaw06_MetricTriangle.j0 k a0 a1 a2 a3 a4 a5 true))) else (entrepotlaw06_MetricTriangle.j0 k a0 a1 a2 a3 a4 a5 true)) = some r := H
     have A14 := Aside0.mk A140
     clear A140
     by_cases c15 : t160 = true
     ·subst c15
      have H1 : ((entrepotlaw06_near.f (wrap64 (a2 + a4))).bind fun t161 => (if t161 = true then ((entrepotlaw06_near.f (wrap64 (a3 + a5))).bind fun t162 => (if t162 = true then ((entrepotlaw06_shown.f).bind fun t163 => (entrepotlaw06_MetricTriangle.j0 k a0 a1 a2 a3 a4 a5 (!t163))) else (entrepotlaw06_MetricTriangle.j0 k a0 a1 a2 a3 a4 a5 true))) else (entrepotlaw06_MetricTriangle.j0 k a0 a1 a2 a3 a4 a5 true))) = some r := by rw [if_pos rfl] at H; exact H
      clear H
      have H := H1
      clear H1
      replace H := Option.bind_eq_some_iff.mp H
      obtain ⟨t161, A160, H⟩ := H
      replace H : (if t161 = true then ((entrepotlaw06_near.f (wrap64 (a3 + a5))).bind fun t162 => (if t162 = true then ((entrepotlaw06_shown.f).bind fun t163 => (entrepotlaw06_MetricTriangle.j0 k a0 a1 a2 a3 a4 a5 (!t163))) else (entrepotlaw06_MetricTriangle.j0 k a0 a1 a2 a3 a4 a5 true))) else (entrepotlaw06_MetricTriangle.j0 k a0 a1 a2 a3 a4 a5 true)) = some r := H
      have A16 := Aside0.mk A160
      clear A160
      by_cases c17 : t161 = true
      ·subst c17
       have H1 : ((entrepotlaw06_near.f (wrap64 (a3 + a5))).bind fun t162 => (if t162 = true then ((entrepotlaw06_shown.f).bind fun t163 => (entrepotlaw06_MetricTriangle.j0 k a0 a1 a2 a3 a4 a5 (!t163))) else (entrepotlaw06_MetricTriangle.j0 k a0 a1 a2 a3 a4 a5 true))) = some r := by rw [if_pos rfl] at H; exact H
       clear H
       have H := H1
       clear H1
       replace H := Option.bind_eq_some_iff.mp H
       obtain ⟨t162, A180, H⟩ := H
       replace H : (if t162 = true then ((entrepotlaw06_shown.f).bind fun t163 => (entrepotlaw06_MetricTriangle.j0 k a0 a1 a2 a3 a4 a5 (!t163))) else (entrepotlaw06_MetricTriangle.j0 k a0 a1 a2 a3 a4 a5 true)) = some r := H
       have A18 := Aside0.mk A180
       clear A180
       by_cases c19 : t162 = true
       ·subst c19
        have H1 : ((entrepotlaw06_shown.f).bind fun t163 => (entrepotlaw06_MetricTriangle.j0 k a0 a1 a2 a3 a4 a5 (!t163))) = some r := by rw [if_pos rfl] at H; exact H
        clear H
        have H := H1
        clear H1
        replace H := Option.bind_eq_some_iff.mp H
        obtain ⟨t163, A200, H⟩ := H
        replace H : (entrepotlaw06_MetricTriangle.j0 k a0 a1 a2 a3 a4 a5 (!t163)) = some r := H
        have A20 := Aside0.mk A200
        clear A200
        have H' := Aside0.mk H
        clear H
        go_wp2_with (first | ((with_reducible refine gate_callee (f := 12) rfl ?_); refine goesL_ (some 20) rfl rfl Tryd.func12 (by kernel_rfl) rfl #[.int .i64 a2] rfl (by (try simp only [List.map_toArray, List.map_cons, List.map_nil]); first | done | rfl | (simp only [List.length_drop, List.length_take]; rfl)) ?_; (with_reducible refine (entrepotlaw06_near.calls a2 true _ A8.out).mono ?_); rintro e w' ⟨rfl, ⟨nd, rfl⟩⟩; refine ⟨_, rfl, ?_⟩) | (go_at_call 12; (with_reducible refine (entrepotlaw06_near.calls a3 true _ A10.out).mono ?_); rintro e w' ⟨rfl, ⟨nd, rfl⟩⟩) | (go_at_call 12; (with_reducible refine (entrepotlaw06_near.calls a4 true _ A12.out).mono ?_); rintro e w' ⟨rfl, ⟨nd, rfl⟩⟩) | (go_at_call 12; (with_reducible refine (entrepotlaw06_near.calls a5 true _ A14.out).mono ?_); rintro e w' ⟨rfl, ⟨nd, rfl⟩⟩) | (go_at_call 12; (with_reducible refine (entrepotlaw06_near.calls (wrap64 (a2 + a4)) true _ A16.out).mono ?_); rintro e w' ⟨rfl, ⟨nd, rfl⟩⟩) | (go_at_call 12; (with_reducible refine (entrepotlaw06_near.calls (wrap64 (a3 + a5)) true _ A18.out).mono ?_); rintro e w' ⟨rfl, ⟨nd, rfl⟩⟩) | (go_at_call 11; (with_reducible refine (entrepotlaw06_shown.calls  t163 _ (tab_below HTab_.out (by repeat (first | (with_reducible first | exact HB.out | apply below_alloc | apply pw_below_drewN | apply below_drew1 | (refine below_set ?_ ?_; rotate_left; · assumption)) | exact HB.out))) A20.out).mono ?_); rintro e w21 ⟨rfl, hb⟩; have n0_ := Aside0.mk (below_step (by repeat (first | (with_reducible first | exact HB.out | apply below_alloc | apply pw_below_drewN | apply below_drew1) | exact HB.out)) hb); clear HB; have HB := n0_; clear n0_; (try clear hb); (try clear hb2); (try clear hk); (try clear hi)))
        go_meet
        case rel => exact ⟨_, (!t163), (by first | rfl | (simp; done) | (simp [*]; done)), H', ⟨by first | omega | exact Nat.le_refl _⟩, ⟨by repeat (first | (with_reducible first | exact HB.out | apply below_alloc | apply pw_below_drewN | apply below_drew1) | exact HB.out)⟩⟩
       ·replace c19 := Bool.eq_false_iff.mpr c19
        subst c19
        have H1 : (entrepotlaw06_MetricTriangle.j0 k a0 a1 a2 a3 a4 a5 true) = some r := by rw [if_neg (show ¬ (false = true) by decide)] at H; exact H
        clear H
        have H := H1
        clear H1
        have H' := Aside0.mk H
        clear H
        go_wp2_with (first | ((with_reducible refine gate_callee (f := 12) rfl ?_); refine goesL_ (some 20) rfl rfl Tryd.func12 (by kernel_rfl) rfl #[.int .i64 a2] rfl (by (try simp only [List.map_toArray, List.map_cons, List.map_nil]); first | done | rfl | (simp only [List.length_drop, List.length_take]; rfl)) ?_; (with_reducible refine (entrepotlaw06_near.calls a2 true _ A8.out).mono ?_); rintro e w' ⟨rfl, ⟨nd, rfl⟩⟩; refine ⟨_, rfl, ?_⟩) | (go_at_call 12; (with_reducible refine (entrepotlaw06_near.calls a3 true _ A10.out).mono ?_); rintro e w' ⟨rfl, ⟨nd, rfl⟩⟩) | (go_at_call 12; (with_reducible refine (entrepotlaw06_near.calls a4 true _ A12.out).mono ?_); rintro e w' ⟨rfl, ⟨nd, rfl⟩⟩) | (go_at_call 12; (with_reducible refine (entrepotlaw06_near.calls a5 true _ A14.out).mono ?_); rintro e w' ⟨rfl, ⟨nd, rfl⟩⟩) | (go_at_call 12; (with_reducible refine (entrepotlaw06_near.calls (wrap64 (a2 + a4)) true _ A16.out).mono ?_); rintro e w' ⟨rfl, ⟨nd, rfl⟩⟩) | (go_at_call 12; (with_reducible refine (entrepotlaw06_near.calls (wrap64 (a3 + a5)) false _ A18.out).mono ?_); rintro e w' ⟨rfl, ⟨nd, rfl⟩⟩))
        go_meet
        case rel => exact ⟨_, (true), (by first | rfl | (simp; done) | (simp [*]; done)), H', ⟨by first | omega | exact Nat.le_refl _⟩, ⟨by repeat (first | (with_reducible first | exact HB.out | apply below_alloc | apply pw_below_drewN | apply below_drew1) | exact HB.out)⟩⟩
      ·replace c17 := Bool.eq_false_iff.mpr c17
       subst c17
       have H1 : (entrepotlaw06_MetricTriangle.j0 k a0 a1 a2 a3 a4 a5 true) = some r := by rw [if_neg (show ¬ (false = true) by decide)] at H; exact H
       clear H
       have H := H1
       clear H1
       have H' := Aside0.mk H
       clear H
       go_wp2_with (first | ((with_reducible refine gate_callee (f := 12) rfl ?_); refine goesL_ (some 20) rfl rfl Tryd.func12 (by kernel_rfl) rfl #[.int .i64 a2] rfl (by (try simp only [List.map_toArray, List.map_cons, List.map_nil]); first | done | rfl | (simp only [List.length_drop, List.length_take]; rfl)) ?_; (with_reducible refine (entrepotlaw06_near.calls a2 true _ A8.out).mono ?_); rintro e w' ⟨rfl, ⟨nd, rfl⟩⟩; refine ⟨_, rfl, ?_⟩) | (go_at_call 12; (with_reducible refine (entrepotlaw06_near.calls a3 true _ A10.out).mono ?_); rintro e w' ⟨rfl, ⟨nd, rfl⟩⟩) | (go_at_call 12; (with_reducible refine (entrepotlaw06_near.calls a4 true _ A12.out).mono ?_); rintro e w' ⟨rfl, ⟨nd, rfl⟩⟩) | (go_at_call 12; (with_reducible refine (entrepotlaw06_near.calls a5 true _ A14.out).mono ?_); rintro e w' ⟨rfl, ⟨nd, rfl⟩⟩) | (go_at_call 12; (with_reducible refine (entrepotlaw06_near.calls (wrap64 (a2 + a4)) false _ A16.out).mono ?_); rintro e w' ⟨rfl, ⟨nd, rfl⟩⟩))
       go_meet
       case rel => exact ⟨_, (true), (by first | rfl | (simp; done) | (simp [*]; done)), H', ⟨by first | omega | exact Nat.le_refl _⟩, ⟨by repeat (first | (with_reducible first | exact HB.out | apply below_alloc | apply pw_below_drewN | apply below_drew1) | exact HB.out)⟩⟩
     ·replace c15 := Bool.eq_false_iff.mpr c15
      subst c15
      have H1 : (entrepotlaw06_MetricTriangle.j0 k a0 a1 a2 a3 a4 a5 true) = some r := by rw [if_neg (show ¬ (false = true) by decide)] at H; exact H
      clear H
      have H := H1
      clear H1
      have H' := Aside0.mk H
      clear H
      go_wp2_with (first | ((with_reducible refine gate_callee (f := 12) rfl ?_); refine goesL_ (some 20) rfl rfl Tryd.func12 (by kernel_rfl) rfl #[.int .i64 a2] rfl (by (try simp only [List.map_toArray, List.map_cons, List.map_nil]); first | done | rfl | (simp only [List.length_drop, List.length_take]; rfl)) ?_; (with_reducible refine (entrepotlaw06_near.calls a2 true _ A8.out).mono ?_); rintro e w' ⟨rfl, ⟨nd, rfl⟩⟩; refine ⟨_, rfl, ?_⟩) | (go_at_call 12; (with_reducible refine (entrepotlaw06_near.calls a3 true _ A10.out).mono ?_); rintro e w' ⟨rfl, ⟨nd, rfl⟩⟩) | (go_at_call 12; (with_reducible refine (entrepotlaw06_near.calls a4 true _ A12.out).mono ?_); rintro e w' ⟨rfl, ⟨nd, rfl⟩⟩) | (go_at_call 12; (with_reducible refine (entrepotlaw06_near.calls a5 false _ A14.out).mono ?_); rintro e w' ⟨rfl, ⟨nd, rfl⟩⟩))
      go_meet
      case rel => exact ⟨_, (true), (by first | rfl | (simp; done) | (simp [*]; done)), H', ⟨by first | omega | exact Nat.le_refl _⟩, ⟨by repeat (first | (with_reducible first | exact HB.out | apply below_alloc | apply pw_below_drewN | apply below_drew1) | exact HB.out)⟩⟩
    ·replace c13 := Bool.eq_false_iff.mpr c13
     subst c13
     have H1 : (entrepotlaw06_MetricTriangle.j0 k a0 a1 a2 a3 a4 a5 true) = some r := by rw [if_neg (show ¬ (false = true) by decide)] at H; exact H
     clear H
     have H := H1
     clear H1
     have H' := Aside0.mk H
     clear H
     go_wp2_with (first | ((with_reducible refine gate_callee (f := 12) rfl ?_); refine goesL_ (some 20) rfl rfl Tryd.func12 (by kernel_rfl) rfl #[.int .i64 a2] rfl (by (try simp only [List.map_toArray, List.map_cons, List.map_nil]); first | done | rfl | (simp only [List.length_drop, List.length_take]; rfl)) ?_; (with_reducible refine (entrepotlaw06_near.calls a2 true _ A8.out).mono ?_); rintro e w' ⟨rfl, ⟨nd, rfl⟩⟩; refine ⟨_, rfl, ?_⟩) | (go_at_call 12; (with_reducible refine (entrepotlaw06_near.calls a3 true _ A10.out).mono ?_); rintro e w' ⟨rfl, ⟨nd, rfl⟩⟩) | (go_at_call 12; (with_reducible refine (entrepotlaw06_near.calls a4 false _ A12.out).mono ?_); rintro e w' ⟨rfl, ⟨nd, rfl⟩⟩))
     go_meet
     case rel => exact ⟨_, (true), (by first | rfl | (simp; done) | (simp [*]; done)), H', ⟨by first | omega | exact Nat.le_refl _⟩, ⟨by repeat (first | (with_reducible first | exact HB.out | apply below_alloc | apply pw_below_drewN | apply below_drew1) | exact HB.out)⟩⟩
   ·replace c11 := Bool.eq_false_iff.mpr c11
    subst c11
    have H1 : (entrepotlaw06_MetricTriangle.j0 k a0 a1 a2 a3 a4 a5 true) = some r := by rw [if_neg (show ¬ (false = true) by decide)] at H; exact H
    clear H
    have H := H1
    clear H1
    have H' := Aside0.mk H
    clear H
    go_wp2_with (first | ((with_reducible refine gate_callee (f := 12) rfl ?_); refine goesL_ (some 20) rfl rfl Tryd.func12 (by kernel_rfl) rfl #[.int .i64 a2] rfl (by (try simp only [List.map_toArray, List.map_cons, List.map_nil]); first | done | rfl | (simp only [List.length_drop, List.length_take]; rfl)) ?_; (with_reducible refine (entrepotlaw06_near.calls a2 true _ A8.out).mono ?_); rintro e w' ⟨rfl, ⟨nd, rfl⟩⟩; refine ⟨_, rfl, ?_⟩) | (go_at_call 12; (with_reducible refine (entrepotlaw06_near.calls a3 false _ A10.out).mono ?_); rintro e w' ⟨rfl, ⟨nd, rfl⟩⟩))
    go_meet
    case rel => exact ⟨_, (true), (by first | rfl | (simp; done) | (simp [*]; done)), H', ⟨by first | omega | exact Nat.le_refl _⟩, ⟨by repeat (first | (with_reducible first | exact HB.out | apply below_alloc | apply pw_below_drewN | apply below_drew1) | exact HB.out)⟩⟩
  ·replace c9 := Bool.eq_false_iff.mpr c9
   subst c9
   have H1 : (entrepotlaw06_MetricTriangle.j0 k a0 a1 a2 a3 a4 a5 true) = some r := by rw [if_neg (show ¬ (false = true) by decide)] at H; exact H
   clear H
   have H := H1
   clear H1
   have H' := Aside0.mk H
   clear H
   go_wp2_with (first | ((with_reducible refine gate_callee (f := 12) rfl ?_); refine goesL_ (some 20) rfl rfl Tryd.func12 (by kernel_rfl) rfl #[.int .i64 a2] rfl (by (try simp only [List.map_toArray, List.map_cons, List.map_nil]); first | done | rfl | (simp only [List.length_drop, List.length_take]; rfl)) ?_; (with_reducible refine (entrepotlaw06_near.calls a2 false _ A8.out).mono ?_); rintro e w' ⟨rfl, ⟨nd, rfl⟩⟩; refine ⟨_, rfl, ?_⟩))
   go_meet
   case rel => exact ⟨_, (true), (by first | rfl | (simp; done) | (simp [*]; done)), H', ⟨by first | omega | exact Nat.le_refl _⟩, ⟨by repeat (first | (with_reducible first | exact HB.out | apply below_alloc | apply pw_below_drewN | apply below_drew1) | exact HB.out)⟩⟩
 case rest =>
  clear HC7
  obtain ⟨kq, x54_6, rfl, HA, HJ6, HB⟩ := hcut
  cases kq with
  | zero => exact absurd HA.out (by simp [entrepotlaw06_MetricTriangle.j0])
  | succ kj6 =>
   have H := HA.out
   clear HA
   simp only [entrepotlaw06_MetricTriangle.j0] at H
   by_cases c22 : x54_6 = true
   ·subst c22
    have H1 : ((entrepotlaw06_shown.f).bind fun t164 => (some t164)) = some r := by rw [if_pos rfl] at H; exact H
    clear H
    have H := H1
    clear H1
    replace H := Option.bind_eq_some_iff.mp H
    obtain ⟨t164, A230, H⟩ := H
    replace H : (some t164) = some r := H
    have A23 := Aside0.mk A230
    clear A230
    obtain rfl := Option.some.inj H
    go_wp2_with (first | ((with_reducible refine gate_callee (f := 11) rfl ?_); refine goesL_ (some 55) rfl rfl Tryd.func11 (by kernel_rfl) rfl #[] rfl (by (try simp only [List.map_toArray, List.map_cons, List.map_nil]); first | done | rfl | (simp only [List.length_drop, List.length_take]; rfl)) ?_; (with_reducible refine (entrepotlaw06_shown.calls  t164 _ (tab_below HTab_.out (by repeat (first | (with_reducible first | exact HB.out | apply below_alloc | apply pw_below_drewN | apply below_drew1 | (refine below_set ?_ ?_; rotate_left; · assumption)) | exact HB.out))) A23.out).mono ?_); rintro e w24 ⟨rfl, hb⟩; refine ⟨_, rfl, ?_⟩; have n0_ := Aside0.mk (below_step (by repeat (first | (with_reducible first | exact HB.out | apply below_alloc | apply pw_below_drewN | apply below_drew1) | exact HB.out)) hb); clear HB; have HB := n0_; clear n0_; (try clear hb); (try clear hb2); (try clear hk); (try clear hi)))
    go_ret
    exact ⟨by first | rfl | (simp [errW_none, errW_some] <;> rfl) | (simp [*, errW_none, errW_some] <;> rfl), by repeat (first | (with_reducible first | exact HB.out | apply below_alloc | apply pw_below_drewN | apply below_drew1) | exact HB.out)⟩
   ·replace c22 := Bool.eq_false_iff.mpr c22
    subst c22
    have H1 : (if a0 = 2 then (entrepotlaw06_MetricTriangle.j1 kj6 a0 a1 a2 a3 a4 a5 false) else (if a0 = 5 then (entrepotlaw06_MetricTriangle.j1 kj6 a0 a1 a2 a3 a4 a5 false) else (if a0 = 3 then (entrepotlaw06_MetricTriangle.j1 kj6 a0 a1 a2 a3 a4 a5 (a1 != 0)) else (if a0 = 4 then (entrepotlaw06_MetricTriangle.j1 kj6 a0 a1 a2 a3 a4 a5 (a1 != 0)) else (entrepotlaw06_MetricTriangle.j1 kj6 a0 a1 a2 a3 a4 a5 true))))) = some r := by rw [if_neg (show ¬ (false = true) by decide)] at H; exact H
    clear H
    have H := H1
    clear H1
    have HC25 := Aside0.mk H
    clear H
    go_upto_region 3 with (fail)
    go_cut [73] (fun v73 wc => ∃ (kq : Nat) (x73_24 : Bool), v73 = .bool x73_24 ∧ Aside0 (entrepotlaw06_MetricTriangle.j1 kq a0 a1 a2 a3 a4 a5 x73_24 = some r) ∧ Aside0 (kq ≤ kj6) ∧ Aside0 (Below w.heap.size w wc))
    case first =>
     have H := HC25.out
     clear HC25
     by_cases c26 : a0 = 2
     ·rw [if_pos c26] at H
      have c26b0 : (a0 == 2) = true := beq_iff_eq.mpr c26
      have c26b1 : (a0 != 2) = false := bne_eq_false_iff_eq.mpr c26
      clear c26
      (first | rw [c26b0] | (simp only [i64_w, i32_w]; rw [c26b0]) | skip)
      have H' := Aside0.mk H
      clear H
      go_wp2
      go_meet
      case rel => exact ⟨_, (false), (by first | rfl | (simp; done) | (simp [*]; done)), H', ⟨by have := HJ6.out; first | omega | exact Nat.le_refl _⟩, ⟨by repeat (first | (with_reducible first | exact HB.out | apply below_alloc | apply pw_below_drewN | apply below_drew1) | exact HB.out)⟩⟩
     ·rw [if_neg c26] at H
      have c26b0 : (a0 == 2) = false := beq_eq_false_iff_ne.mpr c26
      have c26b1 : (a0 != 2) = true := bne_iff_ne.mpr c26
      (first | rw [c26b0] | (simp only [i64_w, i32_w]; rw [c26b0]) | skip)
      by_cases c27 : a0 = 5
      ·rw [if_pos c27] at H
       have c27b0 : (a0 == 5) = true := beq_iff_eq.mpr c27
       have c27b1 : (a0 != 5) = false := bne_eq_false_iff_eq.mpr c27
       clear c27
       have H' := Aside0.mk H
       clear H
       go_wp2
       go_meet
       case rel => exact ⟨_, (false), (by first | rfl | (simp; done) | (simp [*]; done)), H', ⟨by have := HJ6.out; first | omega | exact Nat.le_refl _⟩, ⟨by repeat (first | (with_reducible first | exact HB.out | apply below_alloc | apply pw_below_drewN | apply below_drew1) | exact HB.out)⟩⟩
      ·rw [if_neg c27] at H
       have c27b0 : (a0 == 5) = false := beq_eq_false_iff_ne.mpr c27
       have c27b1 : (a0 != 5) = true := bne_iff_ne.mpr c27
       by_cases c28 : a0 = 3
       ·rw [if_pos c28] at H
        have c28b0 : (a0 == 3) = true := beq_iff_eq.mpr c28
        have c28b1 : (a0 != 3) = false := bne_eq_false_iff_eq.mpr c28
        clear c28
        have H' := Aside0.mk H
        clear H
        go_wp2
        go_meet
        case rel => exact ⟨_, ((a1 != 0)), (by first | rfl | (simp; done) | (simp [*]; done)), H', ⟨by have := HJ6.out; first | omega | exact Nat.le_refl _⟩, ⟨by repeat (first | (with_reducible first | exact HB.out | apply below_alloc | apply pw_below_drewN | apply below_drew1) | exact HB.out)⟩⟩
       ·rw [if_neg c28] at H
        have c28b0 : (a0 == 3) = false := beq_eq_false_iff_ne.mpr c28
        have c28b1 : (a0 != 3) = true := bne_iff_ne.mpr c28
        by_cases c29 : a0 = 4
        ·rw [if_pos c29] at H
         have c29b0 : (a0 == 4) = true := beq_iff_eq.mpr c29
         have c29b1 : (a0 != 4) = false := bne_eq_false_iff_eq.mpr c29
         clear c29
         have H' := Aside0.mk H
         clear H
         go_wp2
         go_meet
         case rel => exact ⟨_, ((a1 != 0)), (by first | rfl | (simp; done) | (simp [*]; done)), H', ⟨by have := HJ6.out; first | omega | exact Nat.le_refl _⟩, ⟨by repeat (first | (with_reducible first | exact HB.out | apply below_alloc | apply pw_below_drewN | apply below_drew1) | exact HB.out)⟩⟩
        ·rw [if_neg c29] at H
         have c29b0 : (a0 == 4) = false := beq_eq_false_iff_ne.mpr c29
         have c29b1 : (a0 != 4) = true := bne_iff_ne.mpr c29
         have H' := Aside0.mk H
         clear H
         go_wp2
         go_meet
         case rel => exact ⟨_, (true), (by first | rfl | (simp; done) | (simp [*]; done)), H', ⟨by have := HJ6.out; first | omega | exact Nat.le_refl _⟩, ⟨by repeat (first | (with_reducible first | exact HB.out | apply below_alloc | apply pw_below_drewN | apply below_drew1) | exact HB.out)⟩⟩
    case rest =>
     clear HC25
     (try clear c22)
     obtain ⟨kq, x73_24, rfl, HA, HJ24, HB⟩ := hcut
     cases kq with
     | zero => exact absurd HA.out (by simp [entrepotlaw06_MetricTriangle.j1])
     | succ kj24 =>
      have H := HA.out
      clear HA
      simp only [entrepotlaw06_MetricTriangle.j1] at H
      by_cases c30 : x73_24 = true
      ·subst c30
       have H1 : (some true) = some r := by rw [if_pos rfl] at H; exact H
       clear H
       have H := H1
       clear H1
       obtain rfl := Option.some.inj H
       go_wp2
       go_ret
       exact ⟨by first | rfl | (simp [errW_none, errW_some] <;> rfl) | (simp [*, errW_none, errW_some] <;> rfl), by repeat (first | (with_reducible first | exact HB.out | apply below_alloc | apply pw_below_drewN | apply below_drew1) | exact HB.out)⟩
      ·replace c30 := Bool.eq_false_iff.mpr c30
       subst c30
       have H1 : ((metric_Dist.f a0 a1 a2 a3).bind fun bt165 => ((metric_Dist.f a0 a1 a4 a5).bind fun bt167 => ((metric_Dist.f a0 a1 (wrap64 (a2 + a4)) (wrap64 (a3 + a5))).bind fun bt169 => (if bt165.2 = bt167.2 then (if bt167.2 = bt169.2 then (some (decide (bt169.1 ≤ (wrap64 (bt165.1 + bt167.1))))) else (some false)) else (some false))))) = some r := by rw [if_neg (show ¬ (false = true) by decide)] at H; exact H
       clear H
       have H := H1
       clear H1
       replace H := Option.bind_eq_some_iff.mp H
       obtain ⟨⟨t165, t166⟩, A310, H⟩ := H
       replace H : ((metric_Dist.f a0 a1 a4 a5).bind fun bt167 => ((metric_Dist.f a0 a1 (wrap64 (a2 + a4)) (wrap64 (a3 + a5))).bind fun bt169 => (if t166 = bt167.2 then (if bt167.2 = bt169.2 then (some (decide (bt169.1 ≤ (wrap64 (t165 + bt167.1))))) else (some false)) else (some false)))) = some r := H
       have A31 := Aside0.mk A310
       clear A310
       replace H := Option.bind_eq_some_iff.mp H
       obtain ⟨⟨t167, t168⟩, A320, H⟩ := H
       replace H : ((metric_Dist.f a0 a1 (wrap64 (a2 + a4)) (wrap64 (a3 + a5))).bind fun bt169 => (if t166 = t168 then (if t168 = bt169.2 then (some (decide (bt169.1 ≤ (wrap64 (t165 + t167))))) else (some false)) else (some false))) = some r := H
       have A32 := Aside0.mk A320
       clear A320
       replace H := Option.bind_eq_some_iff.mp H
       obtain ⟨⟨t169, t170⟩, A330, H⟩ := H
       replace H : (if t166 = t168 then (if t168 = t170 then (some (decide (t169 ≤ (wrap64 (t165 + t167))))) else (some false)) else (some false)) = some r := H
       have A33 := Aside0.mk A330
       clear A330
       by_cases c34 : t166 = t168
       ·rw [if_pos c34] at H
        have c34b0 : (t166 == t168) = true := beq_iff_eq.mpr c34
        have c34b1 : (t166 != t168) = false := bne_eq_false_iff_eq.mpr c34
        clear c34
        by_cases c35 : t168 = t170
        ·rw [if_pos c35] at H
         have c35b0 : (t168 == t170) = true := beq_iff_eq.mpr c35
         have c35b1 : (t168 != t170) = false := bne_eq_false_iff_eq.mpr c35
         clear c35
         obtain rfl := Option.some.inj H
         go_wp2_with (first | ((with_reducible refine gate_callee (f := 9) rfl ?_); refine goesL_ (some 79) rfl rfl Tryd.func9 (by kernel_rfl) rfl #[.int .i64 a0, .int .i64 a1, .int .i64 a2, .int .i64 a3] rfl (by (try simp only [List.map_toArray, List.map_cons, List.map_nil]); first | done | rfl | (simp only [List.length_drop, List.length_take]; rfl)) ?_; (with_reducible refine (metric_Dist.calls a0 a1 a2 a3 t165 t166 _ A31.out).mono ?_); rintro e w36 ⟨rfl, hb⟩; refine ⟨_, rfl, ?_⟩; have n0_ := Aside0.mk (below_step (by repeat (first | (with_reducible first | exact HB.out | apply below_alloc | apply pw_below_drewN | apply below_drew1) | exact HB.out)) hb); clear HB; have HB := n0_; clear n0_; (try clear hb); (try clear hb2); (try clear hk); (try clear hi)) | ((with_reducible refine gate_callee (f := 9) rfl ?_); refine goesL_ (some 87) rfl rfl Tryd.func9 (by kernel_rfl) rfl #[.int .i64 a0, .int .i64 a1, .int .i64 a4, .int .i64 a5] rfl (by (try simp only [List.map_toArray, List.map_cons, List.map_nil]); first | done | rfl | (simp only [List.length_drop, List.length_take]; rfl)) ?_; (with_reducible refine (metric_Dist.calls a0 a1 a4 a5 t167 t168 _ A32.out).mono ?_); rintro e w37 ⟨rfl, hb⟩; refine ⟨_, rfl, ?_⟩; have n0_ := Aside0.mk (below_step (by repeat (first | (with_reducible first | exact HB.out | apply below_alloc | apply pw_below_drewN | apply below_drew1) | exact HB.out)) hb); clear HB; have HB := n0_; clear n0_; (try clear hb); (try clear hb2); (try clear hk); (try clear hi)) | ((with_reducible refine gate_callee (f := 9) rfl ?_); refine goesL_ (some 99) rfl rfl Tryd.func9 (by kernel_rfl) rfl #[.int .i64 a0, .int .i64 a1, .int .i64 (wrap64 (a2 + a4)), .int .i64 (wrap64 (a3 + a5))] rfl (by (try simp only [List.map_toArray, List.map_cons, List.map_nil]); first | done | rfl | (simp only [List.length_drop, List.length_take]; rfl)) ?_; (with_reducible refine (metric_Dist.calls a0 a1 (wrap64 (a2 + a4)) (wrap64 (a3 + a5)) t169 t170 _ A33.out).mono ?_); rintro e w38 ⟨rfl, hb⟩; refine ⟨_, rfl, ?_⟩; have n0_ := Aside0.mk (below_step (by repeat (first | (with_reducible first | exact HB.out | apply below_alloc | apply pw_below_drewN | apply below_drew1) | exact HB.out)) hb); clear HB; have HB := n0_; clear n0_; (try clear hb); (try clear hb2); (try clear hk); (try clear hi)))
         go_ret
         exact ⟨by first | rfl | (simp [errW_none, errW_some] <;> rfl) | (simp [*, errW_none, errW_some] <;> rfl), by repeat (first | (with_reducible first | exact HB.out | apply below_alloc | apply pw_below_drewN | apply below_drew1) | exact HB.out)⟩
        ·rw [if_neg c35] at H
         have c35b0 : (t168 == t170) = false := beq_eq_false_iff_ne.mpr c35
         have c35b1 : (t168 != t170) = true := bne_iff_ne.mpr c35
         exact absurd ((Option.some.inj H).trans hr_.out) (by decide)
       ·rw [if_neg c34] at H
        have c34b0 : (t166 == t168) = false := beq_eq_false_iff_ne.mpr c34
        have c34b1 : (t166 != t168) = true := bne_iff_ne.mpr c34
        exact absurd ((Option.some.inj H).trans hr_.out) (by decide)

end Go.Proofs.YtdpfljkcnlamlaaDoor.P
