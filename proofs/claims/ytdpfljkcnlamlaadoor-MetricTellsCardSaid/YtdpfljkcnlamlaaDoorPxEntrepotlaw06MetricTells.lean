/- Written by a program of this session, after the kit's print: Lean functions for Go functions, and the proof that the machine comes to their answers. -/
import Derived.Test.YtdpfljkcnlamlaaDoorPx0
import Derived.Test.YtdpfljkcnlamlaaDoorPxEntrepotlaw06shown
import Derived.Test.YtdpfljkcnlamlaaDoorMpc
import Derived.Test.YtdpfljkcnlamlaaDoorGDist
namespace Go.Proofs.YtdpfljkcnlamlaaDoor.P
open Go.RowKit Go.Proofs.YtdpfljkcnlamlaaDoorW.PrintWords Go.Proofs.YtdpfljkcnlamlaaDoorW.PrintLast Go.Proofs.YtdpfljkcnlamlaaDoorW.PrintMore
attribute [local go_sem] max2_int min2_int max_two min_two max_three min_three max_four min_four   -- for this text's walks alone
set_option linter.unusedVariables false
set_option linter.unusedSimpArgs false

/-! ### entrepotlaw06_MetricTells: function 3 -/
def entrepotlaw06_MetricTells.f (k : Nat) (a0 : Int) (a1 : Int) (a2 : Int) (a3 : Int) : Option (Bool) := (metric_Dist.f a0 a1 a2 a3).bind fun bt133 => ((entrepotref06_Dist.f k a0 a1 a2 a3).bind fun bt135 => (if bt133.1 = bt135.1 then (if bt133.2 = bt135.2 then ((entrepotlaw06_shown.f).bind fun t137 => (some t137)) else (some false)) else (some false)))
theorem entrepotlaw06_MetricTells.mono : ∀ a0 a1 a2 a3 k, LeO (entrepotlaw06_MetricTells.f k a0 a1 a2 a3) (entrepotlaw06_MetricTells.f (k + 1) a0 a1 a2 a3) := by
 intro a0 a1 a2 a3 k
 unfold entrepotlaw06_MetricTells.f
 repeat' first
   | (with_reducible exact entrepotref06_Dist.mono _ _ _ _ _)
   | (with_reducible exact LeO.refl _)
   | (with_reducible exact LeO.none _)
   | (with_reducible refine LeO.ite ?_ ?_)
   | (with_reducible refine LeO.bind ?_ (fun _ => ?_))
   | exact entrepotref06_Dist.mono _ _ _ _ _
   | exact LeO.none _
   | refine LeO.ite ?_ ?_
   | refine LeO.bind ?_ (fun _ => ?_)
set_option maxHeartbeats 8000000 in
set_option maxRecDepth 100000 in
theorem entrepotlaw06_MetricTells.callsT (k : Nat) (a0 : Int) (a1 : Int) (a2 : Int) (a3 : Int) (r : Bool) (w : World) (ht : Tab w) (h : entrepotlaw06_MetricTells.f k a0 a1 a2 a3 = some r) (hr_ : Aside0 (r = true)) :
  Calls Tryd.prog 3 #[.int .i64 a0, .int .i64 a1, .int .i64 a2, .int .i64 a3] w fun e w' => e = .returned (.bool r) ∧ Below w.heap.size w w' := by
 have HTab_ := Aside0.mk ht
 clear ht
 have HB := Aside0.mk (Below.refl w.heap.size w)
 have H : ((metric_Dist.f a0 a1 a2 a3).bind fun bt133 => ((entrepotref06_Dist.f k a0 a1 a2 a3).bind fun bt135 => (if bt133.1 = bt135.1 then (if bt133.2 = bt135.2 then ((entrepotlaw06_shown.f).bind fun t137 => (some t137)) else (some false)) else (some false)))) = some r := h
 clear h
 replace H := Option.bind_eq_some_iff.mp H
 obtain ⟨⟨t133, t134⟩, A50, H⟩ := H
 replace H : ((entrepotref06_Dist.f k a0 a1 a2 a3).bind fun bt135 => (if t133 = bt135.1 then (if t134 = bt135.2 then ((entrepotlaw06_shown.f).bind fun t137 => (some t137)) else (some false)) else (some false))) = some r := H
 have A5 := Aside0.mk A50
 clear A50
 replace H := Option.bind_eq_some_iff.mp H
 obtain ⟨⟨t135, t136⟩, A60, H⟩ := H
 replace H : (if t133 = t135 then (if t134 = t136 then ((entrepotlaw06_shown.f).bind fun t137 => (some t137)) else (some false)) else (some false)) = some r := H
 have A6 := Aside0.mk A60
 clear A60
 by_cases c7 : t133 = t135
 ·rw [if_pos c7] at H
  have c7b0 : (t133 == t135) = true := beq_iff_eq.mpr c7
  have c7b1 : (t133 != t135) = false := bne_eq_false_iff_eq.mpr c7
  clear c7
  by_cases c8 : t134 = t136
  ·rw [if_pos c8] at H
   have c8b0 : (t134 == t136) = true := beq_iff_eq.mpr c8
   have c8b1 : (t134 != t136) = false := bne_eq_false_iff_eq.mpr c8
   clear c8
   replace H := Option.bind_eq_some_iff.mp H
   obtain ⟨t137, A90, H⟩ := H
   replace H : (some t137) = some r := H
   have A9 := Aside0.mk A90
   clear A90
   obtain rfl := Option.some.inj H
   go_enter Tryd.func3, Tryd.ntmps3
   go_wp2_with (first | ((with_reducible refine gate_callee (f := 9) rfl ?_); refine goesL_ (some 18) rfl rfl Tryd.func9 (by kernel_rfl) rfl #[.int .i64 a0, .int .i64 a1, .int .i64 a2, .int .i64 a3] rfl (by (try simp only [List.map_toArray, List.map_cons, List.map_nil]); first | done | rfl | (simp only [List.length_drop, List.length_take]; rfl)) ?_; (with_reducible refine (metric_Dist.calls a0 a1 a2 a3 t133 t134 _ A5.out).mono ?_); rintro e w10 ⟨rfl, hb⟩; refine ⟨_, rfl, ?_⟩; have n0_ := Aside0.mk (below_step (by repeat (first | (with_reducible first | exact HB.out | apply below_alloc | apply pw_below_drewN | apply below_drew1) | exact HB.out)) hb); clear HB; have HB := n0_; clear n0_; (try clear hb); (try clear hb2); (try clear hk); (try clear hi)) | ((with_reducible refine gate_callee (f := 10) rfl ?_); refine goesL_ (some 26) rfl rfl Tryd.func10 (by kernel_rfl) rfl #[.int .i64 a0, .int .i64 a1, .int .i64 a2, .int .i64 a3] rfl (by (try simp only [List.map_toArray, List.map_cons, List.map_nil]); first | done | rfl | (simp only [List.length_drop, List.length_take]; rfl)) ?_; (with_reducible refine (entrepotref06_Dist.calls k a0 a1 a2 a3 t135 t136 _ A6.out).mono ?_); rintro e w11 ⟨rfl, hb⟩; refine ⟨_, rfl, ?_⟩; have n0_ := Aside0.mk (below_step (by repeat (first | (with_reducible first | exact HB.out | apply below_alloc | apply pw_below_drewN | apply below_drew1) | exact HB.out)) hb); clear HB; have HB := n0_; clear n0_; (try clear hb); (try clear hb2); (try clear hk); (try clear hi)) | (go_at_call 11; (with_reducible refine (entrepotlaw06_shown.calls  t137 _ (tab_below HTab_.out (by repeat (first | (with_reducible first | exact HB.out | apply below_alloc | apply pw_below_drewN | apply below_drew1 | (refine below_set ?_ ?_; rotate_left; · assumption)) | exact HB.out))) A9.out).mono ?_); rintro e w12 ⟨rfl, hb⟩; have n0_ := Aside0.mk (below_step (by repeat (first | (with_reducible first | exact HB.out | apply below_alloc | apply pw_below_drewN | apply below_drew1) | exact HB.out)) hb); clear HB; have HB := n0_; clear n0_; (try clear hb); (try clear hb2); (try clear hk); (try clear hi)))
   go_ret
   exact ⟨by first | rfl | (simp [errW_none, errW_some] <;> rfl) | (simp [*, errW_none, errW_some] <;> rfl), by repeat (first | (with_reducible first | exact HB.out | apply below_alloc | apply pw_below_drewN | apply below_drew1) | exact HB.out)⟩
  ·rw [if_neg c8] at H
   have c8b0 : (t134 == t136) = false := beq_eq_false_iff_ne.mpr c8
   have c8b1 : (t134 != t136) = true := bne_iff_ne.mpr c8
   exact absurd ((Option.some.inj H).trans hr_.out) (by decide)
 ·rw [if_neg c7] at H
  have c7b0 : (t133 == t135) = false := beq_eq_false_iff_ne.mpr c7
  have c7b1 : (t133 != t135) = true := bne_iff_ne.mpr c7
  exact absurd ((Option.some.inj H).trans hr_.out) (by decide)

end Go.Proofs.YtdpfljkcnlamlaaDoor.P
