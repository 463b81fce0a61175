/- Written by a program of this session, after the kit's print: Lean functions for Go functions, and the proof that the machine comes to their answers. -/
import Derived.Test.YtdpfljkcnlamlaaDoorPx0
import Derived.Test.YtdpfljkcnlamlaaDoorGDist
import Derived.Test.YtdpfljkcnlamlaaDoorGKeyword
import Derived.Test.YtdpfljkcnlamlaaDoorGShown
namespace Go.Proofs.YtdpfljkcnlamlaaDoor.P
open Go.RowKit Go.Proofs.YtdpfljkcnlamlaaDoorW.PrintWords Go.Proofs.YtdpfljkcnlamlaaDoorW.PrintLast Go.Proofs.YtdpfljkcnlamlaaDoorW.PrintMore
attribute [local go_sem] max2_int min2_int max_two min_two max_three min_three max_four min_four   -- for this text's walks alone
set_option linter.unusedVariables false
set_option linter.unusedSimpArgs false

/-! ### entrepotlaw06_shown: function 11 -/
def entrepotlaw06_shown.f  : Option (Bool) := (metric_Dist.f 1 0 3 5).bind fun bt124 => ((metric_Dist.f 5 0 (-3) 5).bind fun bt126 => ((metric_Dist.f 6 1 30 40).bind fun bt128 => ((metric_Dist.f 0 0 3 5).bind fun bt130 => (if bt124.1 = 6 then (if bt124.2 = 0 then (if bt126.1 = 2 then (if bt126.2 = 0 then (if bt128.1 = 50 then (if bt128.2 = 0 then (if bt130.1 = 0 then (if bt130.2 = 1 then ((metric_Keyword.f 1).bind fun t132 => (some (t132.toList == ([69, 85, 67, 95, 50, 68] : List UInt8)))) else (some false)) else (some false)) else (some false)) else (some false)) else (some false)) else (some false)) else (some false)) else (some false)))))
set_option maxHeartbeats 8000000 in
set_option maxRecDepth 100000 in
theorem entrepotlaw06_shown.callsT  (r : Bool) (w : World) (ht : Tab w) (h : entrepotlaw06_shown.f  = some r) (hr_ : Aside0 (r = true)) :
  Calls Tryd.prog 11 #[] w fun e w' => e = .returned (.bool r) ∧ Below w.heap.size w w' := by
 have HTab_ := Aside0.mk ht
 clear ht
 have HB := Aside0.mk (Below.refl w.heap.size w)
 have H : ((metric_Dist.f 1 0 3 5).bind fun bt124 => ((metric_Dist.f 5 0 (-3) 5).bind fun bt126 => ((metric_Dist.f 6 1 30 40).bind fun bt128 => ((metric_Dist.f 0 0 3 5).bind fun bt130 => (if bt124.1 = 6 then (if bt124.2 = 0 then (if bt126.1 = 2 then (if bt126.2 = 0 then (if bt128.1 = 50 then (if bt128.2 = 0 then (if bt130.1 = 0 then (if bt130.2 = 1 then ((metric_Keyword.f 1).bind fun t132 => (some (t132.toList == ([69, 85, 67, 95, 50, 68] : List UInt8)))) else (some false)) else (some false)) else (some false)) else (some false)) else (some false)) else (some false)) else (some false)) else (some false)))))) = some r := h
 clear h
 replace H := Option.bind_eq_some_iff.mp H
 obtain ⟨⟨t124, t125⟩, A10, H⟩ := H
 replace H : ((metric_Dist.f 5 0 (-3) 5).bind fun bt126 => ((metric_Dist.f 6 1 30 40).bind fun bt128 => ((metric_Dist.f 0 0 3 5).bind fun bt130 => (if t124 = 6 then (if t125 = 0 then (if bt126.1 = 2 then (if bt126.2 = 0 then (if bt128.1 = 50 then (if bt128.2 = 0 then (if bt130.1 = 0 then (if bt130.2 = 1 then ((metric_Keyword.f 1).bind fun t132 => (some (t132.toList == ([69, 85, 67, 95, 50, 68] : List UInt8)))) else (some false)) else (some false)) else (some false)) else (some false)) else (some false)) else (some false)) else (some false)) else (some false))))) = some r := H
 have A1 := Aside0.mk A10
 clear A10
 replace H := Option.bind_eq_some_iff.mp H
 obtain ⟨⟨t126, t127⟩, A20, H⟩ := H
 replace H : ((metric_Dist.f 6 1 30 40).bind fun bt128 => ((metric_Dist.f 0 0 3 5).bind fun bt130 => (if t124 = 6 then (if t125 = 0 then (if t126 = 2 then (if t127 = 0 then (if bt128.1 = 50 then (if bt128.2 = 0 then (if bt130.1 = 0 then (if bt130.2 = 1 then ((metric_Keyword.f 1).bind fun t132 => (some (t132.toList == ([69, 85, 67, 95, 50, 68] : List UInt8)))) else (some false)) else (some false)) else (some false)) else (some false)) else (some false)) else (some false)) else (some false)) else (some false)))) = some r := H
 have A2 := Aside0.mk A20
 clear A20
 replace H := Option.bind_eq_some_iff.mp H
 obtain ⟨⟨t128, t129⟩, A30, H⟩ := H
 replace H : ((metric_Dist.f 0 0 3 5).bind fun bt130 => (if t124 = 6 then (if t125 = 0 then (if t126 = 2 then (if t127 = 0 then (if t128 = 50 then (if t129 = 0 then (if bt130.1 = 0 then (if bt130.2 = 1 then ((metric_Keyword.f 1).bind fun t132 => (some (t132.toList == ([69, 85, 67, 95, 50, 68] : List UInt8)))) else (some false)) else (some false)) else (some false)) else (some false)) else (some false)) else (some false)) else (some false)) else (some false))) = some r := H
 have A3 := Aside0.mk A30
 clear A30
 replace H := Option.bind_eq_some_iff.mp H
 obtain ⟨⟨t130, t131⟩, A40, H⟩ := H
 replace H : (if t124 = 6 then (if t125 = 0 then (if t126 = 2 then (if t127 = 0 then (if t128 = 50 then (if t129 = 0 then (if t130 = 0 then (if t131 = 1 then ((metric_Keyword.f 1).bind fun t132 => (some (t132.toList == ([69, 85, 67, 95, 50, 68] : List UInt8)))) else (some false)) else (some false)) else (some false)) else (some false)) else (some false)) else (some false)) else (some false)) else (some false)) = some r := H
 have A4 := Aside0.mk A40
 clear A40
 by_cases c5 : t124 = 6
 ·rw [if_pos c5] at H
  have c5b0 : (t124 == 6) = true := beq_iff_eq.mpr c5
  have c5b1 : (t124 != 6) = false := bne_eq_false_iff_eq.mpr c5
  clear c5
  by_cases c6 : t125 = 0
  ·rw [if_pos c6] at H
   have c6b0 : (t125 == 0) = true := beq_iff_eq.mpr c6
   have c6b1 : (t125 != 0) = false := bne_eq_false_iff_eq.mpr c6
   clear c6
   by_cases c7 : t126 = 2
   ·rw [if_pos c7] at H
    have c7b0 : (t126 == 2) = true := beq_iff_eq.mpr c7
    have c7b1 : (t126 != 2) = false := bne_eq_false_iff_eq.mpr c7
    clear c7
    by_cases c8 : t127 = 0
    ·rw [if_pos c8] at H
     have c8b0 : (t127 == 0) = true := beq_iff_eq.mpr c8
     have c8b1 : (t127 != 0) = false := bne_eq_false_iff_eq.mpr c8
     clear c8
     by_cases c9 : t128 = 50
     ·rw [if_pos c9] at H
      have c9b0 : (t128 == 50) = true := beq_iff_eq.mpr c9
      have c9b1 : (t128 != 50) = false := bne_eq_false_iff_eq.mpr c9
      clear c9
      by_cases c10 : t129 = 0
      ·rw [if_pos c10] at H
       have c10b0 : (t129 == 0) = true := beq_iff_eq.mpr c10
       have c10b1 : (t129 != 0) = false := bne_eq_false_iff_eq.mpr c10
       clear c10
       by_cases c11 : t130 = 0
       ·rw [if_pos c11] at H
        have c11b0 : (t130 == 0) = true := beq_iff_eq.mpr c11
        have c11b1 : (t130 != 0) = false := bne_eq_false_iff_eq.mpr c11
        clear c11
        by_cases c12 : t131 = 1
        ·rw [if_pos c12] at H
         have c12b0 : (t131 == 1) = true := beq_iff_eq.mpr c12
         have c12b1 : (t131 != 1) = false := bne_eq_false_iff_eq.mpr c12
         clear c12
         replace H := Option.bind_eq_some_iff.mp H
         obtain ⟨t132, A130, H⟩ := H
         replace H : (some (t132.toList == ([69, 85, 67, 95, 50, 68] : List UInt8))) = some r := H
         have A13 := Aside0.mk A130
         clear A130
         obtain rfl := Option.some.inj H
         go_enter Tryd.func11, Tryd.ntmps11
         go_wp2_with (first | ((with_reducible refine gate_callee (f := 9) rfl ?_); refine goesL_ (some 10) rfl rfl Tryd.func9 (by kernel_rfl) rfl #[.int .i64 1, .int .i64 0, .int .i64 3, .int .i64 5] rfl (by (try simp only [List.map_toArray, List.map_cons, List.map_nil]); first | done | rfl | (simp only [List.length_drop, List.length_take]; rfl)) ?_; (with_reducible refine (metric_Dist.calls 1 0 3 5 t124 t125 _ A1.out).mono ?_); rintro e w14 ⟨rfl, hb⟩; refine ⟨_, rfl, ?_⟩; have n0_ := Aside0.mk (below_step (by repeat (first | (with_reducible first | exact HB.out | apply below_alloc | apply pw_below_drewN | apply below_drew1) | exact HB.out)) hb); clear HB; have HB := n0_; clear n0_; (try clear hb); (try clear hb2); (try clear hk); (try clear hi)) | ((with_reducible refine gate_callee (f := 9) rfl ?_); refine goesL_ (some 14) rfl rfl Tryd.func9 (by kernel_rfl) rfl #[.int .i64 5, .int .i64 0, .int .i64 (-3), .int .i64 5] rfl (by (try simp only [List.map_toArray, List.map_cons, List.map_nil]); first | done | rfl | (simp only [List.length_drop, List.length_take]; rfl)) ?_; (with_reducible refine (metric_Dist.calls 5 0 (-3) 5 t126 t127 _ A2.out).mono ?_); rintro e w15 ⟨rfl, hb⟩; refine ⟨_, rfl, ?_⟩; have n0_ := Aside0.mk (below_step (by repeat (first | (with_reducible first | exact HB.out | apply below_alloc | apply pw_below_drewN | apply below_drew1) | exact HB.out)) hb); clear HB; have HB := n0_; clear n0_; (try clear hb); (try clear hb2); (try clear hk); (try clear hi)) | ((with_reducible refine gate_callee (f := 9) rfl ?_); refine goesL_ (some 18) rfl rfl Tryd.func9 (by kernel_rfl) rfl #[.int .i64 6, .int .i64 1, .int .i64 30, .int .i64 40] rfl (by (try simp only [List.map_toArray, List.map_cons, List.map_nil]); first | done | rfl | (simp only [List.length_drop, List.length_take]; rfl)) ?_; (with_reducible refine (metric_Dist.calls 6 1 30 40 t128 t129 _ A3.out).mono ?_); rintro e w16 ⟨rfl, hb⟩; refine ⟨_, rfl, ?_⟩; have n0_ := Aside0.mk (below_step (by repeat (first | (with_reducible first | exact HB.out | apply below_alloc | apply pw_below_drewN | apply below_drew1) | exact HB.out)) hb); clear HB; have HB := n0_; clear n0_; (try clear hb); (try clear hb2); (try clear hk); (try clear hi)) | ((with_reducible refine gate_callee (f := 9) rfl ?_); refine goesL_ (some 22) rfl rfl Tryd.func9 (by kernel_rfl) rfl #[.int .i64 0, .int .i64 0, .int .i64 3, .int .i64 5] rfl (by (try simp only [List.map_toArray, List.map_cons, List.map_nil]); first | done | rfl | (simp only [List.length_drop, List.length_take]; rfl)) ?_; (with_reducible refine (metric_Dist.calls 0 0 3 5 t130 t131 _ A4.out).mono ?_); rintro e w17 ⟨rfl, hb⟩; refine ⟨_, rfl, ?_⟩; have n0_ := Aside0.mk (below_step (by repeat (first | (with_reducible first | exact HB.out | apply below_alloc | apply pw_below_drewN | apply below_drew1) | exact HB.out)) hb); clear HB; have HB := n0_; clear n0_; (try clear hb); (try clear hb2); (try clear hk); (try clear hi)) | (go_at_call 17; (with_reducible refine (metric_Keyword.calls 1 t132 _ (tab_below HTab_.out (by repeat (first | (with_reducible first | exact HB.out | apply below_alloc | apply pw_below_drewN | apply below_drew1 | (refine below_set ?_ ?_; rotate_left; · assumption)) | exact HB.out))) A13.out).mono ?_); rintro e w18 ⟨rfl, hb⟩; have n0_ := Aside0.mk (below_step (by repeat (first | (with_reducible first | exact HB.out | apply below_alloc | apply pw_below_drewN | apply below_drew1) | exact HB.out)) hb); clear HB; have HB := n0_; clear n0_; (try clear hb); (try clear hb2); (try clear hk); (try clear hi)))
         go_ret
         exact ⟨by first | rfl | (simp [errW_none, errW_some] <;> rfl) | (simp [*, errW_none, errW_some] <;> rfl), by repeat (first | (with_reducible first | exact HB.out | apply below_alloc | apply pw_below_drewN | apply below_drew1) | exact HB.out)⟩
        ·rw [if_neg c12] at H
         have c12b0 : (t131 == 1) = false := beq_eq_false_iff_ne.mpr c12
         have c12b1 : (t131 != 1) = true := bne_iff_ne.mpr c12
         exact absurd ((Option.some.inj H).trans hr_.out) (by decide)
       ·rw [if_neg c11] at H
        have c11b0 : (t130 == 0) = false := beq_eq_false_iff_ne.mpr c11
        have c11b1 : (t130 != 0) = true := bne_iff_ne.mpr c11
        exact absurd ((Option.some.inj H).trans hr_.out) (by decide)
      ·rw [if_neg c10] at H
       have c10b0 : (t129 == 0) = false := beq_eq_false_iff_ne.mpr c10
       have c10b1 : (t129 != 0) = true := bne_iff_ne.mpr c10
       exact absurd ((Option.some.inj H).trans hr_.out) (by decide)
     ·rw [if_neg c9] at H
      have c9b0 : (t128 == 50) = false := beq_eq_false_iff_ne.mpr c9
      have c9b1 : (t128 != 50) = true := bne_iff_ne.mpr c9
      exact absurd ((Option.some.inj H).trans hr_.out) (by decide)
    ·rw [if_neg c8] at H
     have c8b0 : (t127 == 0) = false := beq_eq_false_iff_ne.mpr c8
     have c8b1 : (t127 != 0) = true := bne_iff_ne.mpr c8
     exact absurd ((Option.some.inj H).trans hr_.out) (by decide)
   ·rw [if_neg c7] at H
    have c7b0 : (t126 == 2) = false := beq_eq_false_iff_ne.mpr c7
    have c7b1 : (t126 != 2) = true := bne_iff_ne.mpr c7
    exact absurd ((Option.some.inj H).trans hr_.out) (by decide)
  ·rw [if_neg c6] at H
   have c6b0 : (t125 == 0) = false := beq_eq_false_iff_ne.mpr c6
   have c6b1 : (t125 != 0) = true := bne_iff_ne.mpr c6
   exact absurd ((Option.some.inj H).trans hr_.out) (by decide)
 ·rw [if_neg c5] at H
  have c5b0 : (t124 == 6) = false := beq_eq_false_iff_ne.mpr c5
  have c5b1 : (t124 != 6) = true := bne_iff_ne.mpr c5
  exact absurd ((Option.some.inj H).trans hr_.out) (by decide)

theorem entrepotlaw06_shown.only : entrepotlaw06_shown.f = some true := by
 unfold entrepotlaw06_shown.f
 rw [sh_d1, sh_d2, sh_d3, sh_d4, sh_d5]
 simp only [Option.bind_some]
 iterate 8 rw [if_pos trivial]
 exact congrArg some (by decide +kernel)

theorem entrepotlaw06_shown.true_of {r : Bool} (h : entrepotlaw06_shown.f = some r) : r = true := Option.some.inj (h.symm.trans entrepotlaw06_shown.only)
theorem entrepotlaw06_shown.calls  (r : Bool) (w : World) (ht : Tab w) (h : entrepotlaw06_shown.f  = some r) :
  Calls Tryd.prog 11 #[] w fun e w' => e = .returned (.bool r) ∧ Below w.heap.size w w' := entrepotlaw06_shown.callsT r w ht h ⟨entrepotlaw06_shown.true_of h⟩
end Go.Proofs.YtdpfljkcnlamlaaDoor.P
