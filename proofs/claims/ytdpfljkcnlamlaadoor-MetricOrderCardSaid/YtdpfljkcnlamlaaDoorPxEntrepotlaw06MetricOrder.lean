/- Written by a program of this session, after the kit's print: Lean functions for Go functions, and the proof that the machine comes to their answers. -/
import Derived.Test.YtdpfljkcnlamlaaDoorPx0
import Derived.Test.YtdpfljkcnlamlaaDoorPxEntrepotlaw06near
import Derived.Test.YtdpfljkcnlamlaaDoorPxEntrepotlaw06shown
import Derived.Test.YtdpfljkcnlamlaaDoorGDist
namespace Go.Proofs.YtdpfljkcnlamlaaDoor.P
open Go.RowKit Go.Proofs.YtdpfljkcnlamlaaDoorW.PrintWords Go.Proofs.YtdpfljkcnlamlaaDoorW.PrintLast Go.Proofs.YtdpfljkcnlamlaaDoorW.PrintMore
attribute [local go_sem] max2_int min2_int max_two min_two max_three min_three max_four min_four   -- for this text's walks alone
set_option linter.unusedVariables false
set_option linter.unusedSimpArgs false

/-! ### entrepotlaw06_MetricOrder: function 7 -/
def entrepotlaw06_MetricOrder.j0 : Nat → Int → Int → Int → Bool → Option (Bool)
 | 0, _, _, _, _ => none
 | k + 1, x1, x2, x7, x34 => if x34 = true then ((entrepotlaw06_shown.f).bind fun t174 => (some t174)) else ((metric_Dist.f 1 x7 x1 x2).bind fun bt175 => ((metric_Dist.f 2 x7 x1 x2).bind fun bt177 => ((metric_Dist.f 3 x7 x1 x2).bind fun bt179 => ((metric_Dist.f 4 x7 x1 x2).bind fun bt181 => ((metric_Dist.f 5 x7 x1 x2).bind fun bt183 => ((metric_Dist.f 6 x7 x1 x2).bind fun bt185 => (if bt175.2 = 0 then (if bt177.2 = 0 then (if bt179.2 = 0 then (if bt181.2 = 0 then (if bt183.2 = 0 then (if bt185.2 = 0 then (if bt181.1 ≤ bt175.1 then (if bt175.1 ≤ bt179.1 then (if bt175.1 ≤ bt177.1 then (if bt177.1 ≤ (wrap64 (bt175.1 + 1)) then (if bt183.1 ≤ bt177.1 then (if bt185.1 ≥ (wrap64 ((wrap64 (10 * bt175.1)) - 5)) then (some (decide (bt185.1 ≤ (wrap64 ((wrap64 (10 * bt175.1)) + 4))))) else (some false)) else (some false)) else (some false)) else (some false)) else (some false)) else (some false)) else (some false)) else (some false)) else (some false)) else (some false)) else (some false)) else (some false))))))))
def entrepotlaw06_MetricOrder.f (k : Nat) (a0 : Int) (a1 : Int) (a2 : Int) : Option (Bool) := (entrepotlaw06_near.f a1).bind fun t171 => (if t171 = true then ((entrepotlaw06_near.f a2).bind fun t172 => (if t172 = true then ((entrepotlaw06_shown.f).bind fun t173 => (entrepotlaw06_MetricOrder.j0 k a1 a2 (Int.tmod (wrap64 (a0)) 7) (!t173))) else (entrepotlaw06_MetricOrder.j0 k a1 a2 (Int.tmod (wrap64 (a0)) 7) true))) else (entrepotlaw06_MetricOrder.j0 k a1 a2 (Int.tmod (wrap64 (a0)) 7) true))
theorem entrepotlaw06_MetricOrder.mono_l : ∀ k, (∀ y0 y1 y2 y3, LeO (entrepotlaw06_MetricOrder.j0 k y0 y1 y2 y3) (entrepotlaw06_MetricOrder.j0 (k + 1) y0 y1 y2 y3))
 | 0 => fun _ _ _ _ r h => by simp [entrepotlaw06_MetricOrder.j0] at h
 | k + 1 => by
  have ih0 := entrepotlaw06_MetricOrder.mono_l k
  ·intro y0 y1 y2 y3
   unfold entrepotlaw06_MetricOrder.j0
   repeat' first
   | (with_reducible exact ih0 _ _ _ _)
   | (with_reducible exact LeO.refl _)
   | (with_reducible exact LeO.none _)
   | (with_reducible refine LeO.ite ?_ ?_)
   | (with_reducible refine LeO.bind ?_ (fun _ => ?_))
   | exact ih0 _ _ _ _
   | exact LeO.none _
   | refine LeO.ite ?_ ?_
   | refine LeO.bind ?_ (fun _ => ?_)
theorem entrepotlaw06_MetricOrder.mono : ∀ a0 a1 a2 k, LeO (entrepotlaw06_MetricOrder.f k a0 a1 a2) (entrepotlaw06_MetricOrder.f (k + 1) a0 a1 a2) := by
 intro a0 a1 a2 k
 have ih0 := entrepotlaw06_MetricOrder.mono_l k
 unfold entrepotlaw06_MetricOrder.f
 repeat' first
   | (with_reducible exact ih0 _ _ _ _)
   | (with_reducible exact LeO.refl _)
   | (with_reducible exact LeO.none _)
   | (with_reducible refine LeO.ite ?_ ?_)
   | (with_reducible refine LeO.bind ?_ (fun _ => ?_))
   | exact ih0 _ _ _ _
   | exact LeO.none _
   | refine LeO.ite ?_ ?_
   | refine LeO.bind ?_ (fun _ => ?_)
set_option maxHeartbeats 8000000 in
set_option maxRecDepth 100000 in
theorem entrepotlaw06_MetricOrder.callsT (k : Nat) (a0 : Int) (a1 : Int) (a2 : Int) (r : Bool) (w : World) (ht : Tab w) (h : entrepotlaw06_MetricOrder.f k a0 a1 a2 = some r) (hr_ : Aside0 (r = true)) :
  Calls Tryd.prog 7 #[.int .u8 a0, .int .i64 a1, .int .i64 a2] w fun e w' => e = .returned (.bool r) ∧ Below w.heap.size w w' := by
 have HTab_ := Aside0.mk ht
 clear ht
 have HB := Aside0.mk (Below.refl w.heap.size w)
 have H : ((entrepotlaw06_near.f a1).bind fun t171 => (if t171 = true then ((entrepotlaw06_near.f a2).bind fun t172 => (if t172 = true then ((entrepotlaw06_shown.f).bind fun t173 => (entrepotlaw06_MetricOrder.j0 k a1 a2 (Int.tmod (wrap64 (a0)) 7) (!t173))) else (entrepotlaw06_MetricOrder.j0 k a1 a2 (Int.tmod (wrap64 (a0)) 7) true))) else (entrepotlaw06_MetricOrder.j0 k a1 a2 (Int.tmod (wrap64 (a0)) 7) true))) = some r := h
 clear h
 have HC4 := Aside0.mk H
 clear H
 go_enter Tryd.func7, Tryd.ntmps7
 go_upto_region 2 with (fail)
 go_cut [34] (fun v34 wc => ∃ (kq : Nat) (x34_3 : Bool), v34 = .bool x34_3 ∧ Aside0 (entrepotlaw06_MetricOrder.j0 kq a1 a2 (Int.tmod (wrap64 (a0)) 7) x34_3 = some r) ∧ Aside0 (kq ≤ k) ∧ Aside0 (Below w.heap.size w wc))
 case first =>
  have H := HC4.out
  clear HC4
  replace H := Option.bind_eq_some_iff.mp H
  obtain ⟨t171, A50, H⟩ := H
  replace H : (if t171 = true then ((entrepotlaw06_near.f a2).bind fun t172 => (if t172 = true then ((entrepotlaw06_shown.f).bind fun t173 => (entrepotlaw06_MetricOrder.j0 k a1 a2 (Int.tmod (wrap64 (a0)) 7) (!t173))) else (entrepotlaw06_MetricOrder.j0 k a1 a2 (Int.tmod (wrap64 (a0)) 7) true))) else (entrepotlaw06_MetricOrder.j0 k a1 a2 (Int.tmod (wrap64 (a0)) 7) true)) = some r := H
  have A5 := Aside0.mk A50
  clear A50
  by_cases c6 : t171 = true
  ·subst c6
   have H1 : ((entrepotlaw06_near.f a2).bind fun t172 => (if t172 = true then ((entrepotlaw06_shown.f).bind fun t173 => (entrepotlaw06_MetricOrder.j0 k a1 a2 (Int.tmod (wrap64 (a0)) 7) (!t173))) else (entrepotlaw06_MetricOrder.j0 k a1 a2 (Int.tmod (wrap64 (a0)) 7) true))) = some r := by rw [if_pos rfl] at H; exact H
   clear H
   have H := H1
   clear H1
   replace H := Option.bind_eq_some_iff.mp H
   obtain ⟨t172, A70, H⟩ := H
   replace H : (if t172 = true then ((entrepotlaw06_shown.f).bind fun t173 => (entrepotlaw06_MetricOrder.j0 k a1 a2 (Int.tmod (wrap64 (a0)) 7) (!t173))) else (entrepotlaw06_MetricOrder.j0 k a1 a2 (Int.tmod (wrap64 (a0)) 7) true)) = some r := H
   have A7 := Aside0.mk A70
   clear A70
   by_cases c8 : t172 = true
   ·subst c8
    have H1 : ((entrepotlaw06_shown.f).bind fun t173 => (entrepotlaw06_MetricOrder.j0 k a1 a2 (Int.tmod (wrap64 (a0)) 7) (!t173))) = some r := by rw [if_pos rfl] at H; exact H
    clear H
    have H := H1
    clear H1
    replace H := Option.bind_eq_some_iff.mp H
    obtain ⟨t173, A90, H⟩ := H
    replace H : (entrepotlaw06_MetricOrder.j0 k a1 a2 (Int.tmod (wrap64 (a0)) 7) (!t173)) = some r := H
    have A9 := Aside0.mk A90
    clear A90
    have H' := Aside0.mk H
    clear H
    go_wp2_with (first | ((with_reducible refine gate_callee (f := 12) rfl ?_); refine goesL_ (some 24) rfl rfl Tryd.func12 (by kernel_rfl) rfl #[.int .i64 a1] rfl (by (try simp only [List.map_toArray, List.map_cons, List.map_nil]); first | done | rfl | (simp only [List.length_drop, List.length_take]; rfl)) ?_; (with_reducible refine (entrepotlaw06_near.calls a1 true _ A5.out).mono ?_); rintro e w' ⟨rfl, ⟨nd, rfl⟩⟩; refine ⟨_, rfl, ?_⟩) | (go_at_call 12; (with_reducible refine (entrepotlaw06_near.calls a2 true _ A7.out).mono ?_); rintro e w' ⟨rfl, ⟨nd, rfl⟩⟩) | (go_at_call 11; (with_reducible refine (entrepotlaw06_shown.calls  t173 _ (tab_below HTab_.out (by repeat (first | (with_reducible first | exact HB.out | apply below_alloc | apply pw_below_drewN | apply below_drew1 | (refine below_set ?_ ?_; rotate_left; · assumption)) | exact HB.out))) A9.out).mono ?_); rintro e w10 ⟨rfl, hb⟩; have n0_ := Aside0.mk (below_step (by repeat (first | (with_reducible first | exact HB.out | apply below_alloc | apply pw_below_drewN | apply below_drew1) | exact HB.out)) hb); clear HB; have HB := n0_; clear n0_; (try clear hb); (try clear hb2); (try clear hk); (try clear hi)))
    go_meet
    case rel => exact ⟨_, (!t173), (by first | rfl | (simp; done) | (simp [*]; done)), H', ⟨by first | omega | exact Nat.le_refl _⟩, ⟨by repeat (first | (with_reducible first | exact HB.out | apply below_alloc | apply pw_below_drewN | apply below_drew1) | exact HB.out)⟩⟩
   ·replace c8 := Bool.eq_false_iff.mpr c8
    subst c8
    have H1 : (entrepotlaw06_MetricOrder.j0 k a1 a2 (Int.tmod (wrap64 (a0)) 7) true) = some r := by rw [if_neg (show ¬ (false = true) by decide)] at H; exact H
    clear H
    have H := H1
    clear H1
    have H' := Aside0.mk H
    clear H
    go_wp2_with (first | ((with_reducible refine gate_callee (f := 12) rfl ?_); refine goesL_ (some 24) rfl rfl Tryd.func12 (by kernel_rfl) rfl #[.int .i64 a1] rfl (by (try simp only [List.map_toArray, List.map_cons, List.map_nil]); first | done | rfl | (simp only [List.length_drop, List.length_take]; rfl)) ?_; (with_reducible refine (entrepotlaw06_near.calls a1 true _ A5.out).mono ?_); rintro e w' ⟨rfl, ⟨nd, rfl⟩⟩; refine ⟨_, rfl, ?_⟩) | (go_at_call 12; (with_reducible refine (entrepotlaw06_near.calls a2 false _ A7.out).mono ?_); rintro e w' ⟨rfl, ⟨nd, rfl⟩⟩))
    go_meet
    case rel => exact ⟨_, (true), (by first | rfl | (simp; done) | (simp [*]; done)), H', ⟨by first | omega | exact Nat.le_refl _⟩, ⟨by repeat (first | (with_reducible first | exact HB.out | apply below_alloc | apply pw_below_drewN | apply below_drew1) | exact HB.out)⟩⟩
  ·replace c6 := Bool.eq_false_iff.mpr c6
   subst c6
   have H1 : (entrepotlaw06_MetricOrder.j0 k a1 a2 (Int.tmod (wrap64 (a0)) 7) true) = some r := by rw [if_neg (show ¬ (false = true) by decide)] at H; exact H
   clear H
   have H := H1
   clear H1
   have H' := Aside0.mk H
   clear H
   go_wp2_with (first | ((with_reducible refine gate_callee (f := 12) rfl ?_); refine goesL_ (some 24) rfl rfl Tryd.func12 (by kernel_rfl) rfl #[.int .i64 a1] rfl (by (try simp only [List.map_toArray, List.map_cons, List.map_nil]); first | done | rfl | (simp only [List.length_drop, List.length_take]; rfl)) ?_; (with_reducible refine (entrepotlaw06_near.calls a1 false _ A5.out).mono ?_); rintro e w' ⟨rfl, ⟨nd, rfl⟩⟩; refine ⟨_, rfl, ?_⟩))
   go_meet
   case rel => exact ⟨_, (true), (by first | rfl | (simp; done) | (simp [*]; done)), H', ⟨by first | omega | exact Nat.le_refl _⟩, ⟨by repeat (first | (with_reducible first | exact HB.out | apply below_alloc | apply pw_below_drewN | apply below_drew1) | exact HB.out)⟩⟩
 case rest =>
  clear HC4
  obtain ⟨kq, x34_3, rfl, HA, HJ3, HB⟩ := hcut
  cases kq with
  | zero => exact absurd HA.out (by simp [entrepotlaw06_MetricOrder.j0])
  | succ kj3 =>
   have H := HA.out
   clear HA
   simp only [entrepotlaw06_MetricOrder.j0] at H
   by_cases c11 : x34_3 = true
   ·subst c11
    have H1 : ((entrepotlaw06_shown.f).bind fun t174 => (some t174)) = some r := by rw [if_pos rfl] at H; exact H
    clear H
    have H := H1
    clear H1
    replace H := Option.bind_eq_some_iff.mp H
    obtain ⟨t174, A120, H⟩ := H
    replace H : (some t174) = some r := H
    have A12 := Aside0.mk A120
    clear A120
    obtain rfl := Option.some.inj H
    go_wp2_with (first | ((with_reducible refine gate_callee (f := 11) rfl ?_); refine goesL_ (some 35) rfl rfl Tryd.func11 (by kernel_rfl) rfl #[] rfl (by (try simp only [List.map_toArray, List.map_cons, List.map_nil]); first | done | rfl | (simp only [List.length_drop, List.length_take]; rfl)) ?_; (with_reducible refine (entrepotlaw06_shown.calls  t174 _ (tab_below HTab_.out (by repeat (first | (with_reducible first | exact HB.out | apply below_alloc | apply pw_below_drewN | apply below_drew1 | (refine below_set ?_ ?_; rotate_left; · assumption)) | exact HB.out))) A12.out).mono ?_); rintro e w13 ⟨rfl, hb⟩; refine ⟨_, rfl, ?_⟩; have n0_ := Aside0.mk (below_step (by repeat (first | (with_reducible first | exact HB.out | apply below_alloc | apply pw_below_drewN | apply below_drew1) | exact HB.out)) hb); clear HB; have HB := n0_; clear n0_; (try clear hb); (try clear hb2); (try clear hk); (try clear hi)))
    go_ret
    exact ⟨by first | rfl | (simp [errW_none, errW_some] <;> rfl) | (simp [*, errW_none, errW_some] <;> rfl), by repeat (first | (with_reducible first | exact HB.out | apply below_alloc | apply pw_below_drewN | apply below_drew1) | exact HB.out)⟩
   ·replace c11 := Bool.eq_false_iff.mpr c11
    subst c11
    have H1 : ((metric_Dist.f 1 (Int.tmod (wrap64 (a0)) 7) a1 a2).bind fun bt175 => ((metric_Dist.f 2 (Int.tmod (wrap64 (a0)) 7) a1 a2).bind fun bt177 => ((metric_Dist.f 3 (Int.tmod (wrap64 (a0)) 7) a1 a2).bind fun bt179 => ((metric_Dist.f 4 (Int.tmod (wrap64 (a0)) 7) a1 a2).bind fun bt181 => ((metric_Dist.f 5 (Int.tmod (wrap64 (a0)) 7) a1 a2).bind fun bt183 => ((metric_Dist.f 6 (Int.tmod (wrap64 (a0)) 7) a1 a2).bind fun bt185 => (if bt175.2 = 0 then (if bt177.2 = 0 then (if bt179.2 = 0 then (if bt181.2 = 0 then (if bt183.2 = 0 then (if bt185.2 = 0 then (if bt181.1 ≤ bt175.1 then (if bt175.1 ≤ bt179.1 then (if bt175.1 ≤ bt177.1 then (if bt177.1 ≤ (wrap64 (bt175.1 + 1)) then (if bt183.1 ≤ bt177.1 then (if bt185.1 ≥ (wrap64 ((wrap64 (10 * bt175.1)) - 5)) then (some (decide (bt185.1 ≤ (wrap64 ((wrap64 (10 * bt175.1)) + 4))))) else (some false)) else (some false)) else (some false)) else (some false)) else (some false)) else (some false)) else (some false)) else (some false)) else (some false)) else (some false)) else (some false)) else (some false)))))))) = some r := by rw [if_neg (show ¬ (false = true) by decide)] at H; exact H
    clear H
    have H := H1
    clear H1
    replace H := Option.bind_eq_some_iff.mp H
    obtain ⟨⟨t175, t176⟩, A140, H⟩ := H
    replace H : ((metric_Dist.f 2 (Int.tmod (wrap64 (a0)) 7) a1 a2).bind fun bt177 => ((metric_Dist.f 3 (Int.tmod (wrap64 (a0)) 7) a1 a2).bind fun bt179 => ((metric_Dist.f 4 (Int.tmod (wrap64 (a0)) 7) a1 a2).bind fun bt181 => ((metric_Dist.f 5 (Int.tmod (wrap64 (a0)) 7) a1 a2).bind fun bt183 => ((metric_Dist.f 6 (Int.tmod (wrap64 (a0)) 7) a1 a2).bind fun bt185 => (if t176 = 0 then (if bt177.2 = 0 then (if bt179.2 = 0 then (if bt181.2 = 0 then (if bt183.2 = 0 then (if bt185.2 = 0 then (if bt181.1 ≤ t175 then (if t175 ≤ bt179.1 then (if t175 ≤ bt177.1 then (if bt177.1 ≤ (wrap64 (t175 + 1)) then (if bt183.1 ≤ bt177.1 then (if bt185.1 ≥ (wrap64 ((wrap64 (10 * t175)) - 5)) then (some (decide (bt185.1 ≤ (wrap64 ((wrap64 (10 * t175)) + 4))))) else (some false)) else (some false)) else (some false)) else (some false)) else (some false)) else (some false)) else (some false)) else (some false)) else (some false)) else (some false)) else (some false)) else (some false))))))) = some r := H
    have A14 := Aside0.mk A140
    clear A140
    replace H := Option.bind_eq_some_iff.mp H
    obtain ⟨⟨t177, t178⟩, A150, H⟩ := H
    replace H : ((metric_Dist.f 3 (Int.tmod (wrap64 (a0)) 7) a1 a2).bind fun bt179 => ((metric_Dist.f 4 (Int.tmod (wrap64 (a0)) 7) a1 a2).bind fun bt181 => ((metric_Dist.f 5 (Int.tmod (wrap64 (a0)) 7) a1 a2).bind fun bt183 => ((metric_Dist.f 6 (Int.tmod (wrap64 (a0)) 7) a1 a2).bind fun bt185 => (if t176 = 0 then (if t178 = 0 then (if bt179.2 = 0 then (if bt181.2 = 0 then (if bt183.2 = 0 then (if bt185.2 = 0 then (if bt181.1 ≤ t175 then (if t175 ≤ bt179.1 then (if t175 ≤ t177 then (if t177 ≤ (wrap64 (t175 + 1)) then (if bt183.1 ≤ t177 then (if bt185.1 ≥ (wrap64 ((wrap64 (10 * t175)) - 5)) then (some (decide (bt185.1 ≤ (wrap64 ((wrap64 (10 * t175)) + 4))))) else (some false)) else (some false)) else (some false)) else (some false)) else (some false)) else (some false)) else (some false)) else (some false)) else (some false)) else (some false)) else (some false)) else (some false)))))) = some r := H
    have A15 := Aside0.mk A150
    clear A150
    replace H := Option.bind_eq_some_iff.mp H
    obtain ⟨⟨t179, t180⟩, A160, H⟩ := H
    replace H : ((metric_Dist.f 4 (Int.tmod (wrap64 (a0)) 7) a1 a2).bind fun bt181 => ((metric_Dist.f 5 (Int.tmod (wrap64 (a0)) 7) a1 a2).bind fun bt183 => ((metric_Dist.f 6 (Int.tmod (wrap64 (a0)) 7) a1 a2).bind fun bt185 => (if t176 = 0 then (if t178 = 0 then (if t180 = 0 then (if bt181.2 = 0 then (if bt183.2 = 0 then (if bt185.2 = 0 then (if bt181.1 ≤ t175 then (if t175 ≤ t179 then (if t175 ≤ t177 then (if t177 ≤ (wrap64 (t175 + 1)) then (if bt183.1 ≤ t177 then (if bt185.1 ≥ (wrap64 ((wrap64 (10 * t175)) - 5)) then (some (decide (bt185.1 ≤ (wrap64 ((wrap64 (10 * t175)) + 4))))) else (some false)) else (some false)) else (some false)) else (some false)) else (some false)) else (some false)) else (some false)) else (some false)) else (some false)) else (some false)) else (some false)) else (some false))))) = some r := H
    have A16 := Aside0.mk A160
    clear A160
    replace H := Option.bind_eq_some_iff.mp H
    obtain ⟨⟨t181, t182⟩, A170, H⟩ := H
    replace H : ((metric_Dist.f 5 (Int.tmod (wrap64 (a0)) 7) a1 a2).bind fun bt183 => ((metric_Dist.f 6 (Int.tmod (wrap64 (a0)) 7) a1 a2).bind fun bt185 => (if t176 = 0 then (if t178 = 0 then (if t180 = 0 then (if t182 = 0 then (if bt183.2 = 0 then (if bt185.2 = 0 then (if t181 ≤ t175 then (if t175 ≤ t179 then (if t175 ≤ t177 then (if t177 ≤ (wrap64 (t175 + 1)) then (if bt183.1 ≤ t177 then (if bt185.1 ≥ (wrap64 ((wrap64 (10 * t175)) - 5)) then (some (decide (bt185.1 ≤ (wrap64 ((wrap64 (10 * t175)) + 4))))) else (some false)) else (some false)) else (some false)) else (some false)) else (some false)) else (some false)) else (some false)) else (some false)) else (some false)) else (some false)) else (some false)) else (some false)))) = some r := H
    have A17 := Aside0.mk A170
    clear A170
    replace H := Option.bind_eq_some_iff.mp H
    obtain ⟨⟨t183, t184⟩, A180, H⟩ := H
    replace H : ((metric_Dist.f 6 (Int.tmod (wrap64 (a0)) 7) a1 a2).bind fun bt185 => (if t176 = 0 then (if t178 = 0 then (if t180 = 0 then (if t182 = 0 then (if t184 = 0 then (if bt185.2 = 0 then (if t181 ≤ t175 then (if t175 ≤ t179 then (if t175 ≤ t177 then (if t177 ≤ (wrap64 (t175 + 1)) then (if t183 ≤ t177 then (if bt185.1 ≥ (wrap64 ((wrap64 (10 * t175)) - 5)) then (some (decide (bt185.1 ≤ (wrap64 ((wrap64 (10 * t175)) + 4))))) else (some false)) else (some false)) else (some false)) else (some false)) else (some false)) else (some false)) else (some false)) else (some false)) else (some false)) else (some false)) else (some false)) else (some false))) = some r := H
    have A18 := Aside0.mk A180
    clear A180
    replace H := Option.bind_eq_some_iff.mp H
    obtain ⟨⟨t185, t186⟩, A190, H⟩ := H
    replace H : (if t176 = 0 then (if t178 = 0 then (if t180 = 0 then (if t182 = 0 then (if t184 = 0 then (if t186 = 0 then (if t181 ≤ t175 then (if t175 ≤ t179 then (if t175 ≤ t177 then (if t177 ≤ (wrap64 (t175 + 1)) then (if t183 ≤ t177 then (if t185 ≥ (wrap64 ((wrap64 (10 * t175)) - 5)) then (some (decide (t185 ≤ (wrap64 ((wrap64 (10 * t175)) + 4))))) else (some false)) else (some false)) else (some false)) else (some false)) else (some false)) else (some false)) else (some false)) else (some false)) else (some false)) else (some false)) else (some false)) else (some false)) = some r := H
    have A19 := Aside0.mk A190
    clear A190
    by_cases c20 : t176 = 0
    ·rw [if_pos c20] at H
     have c20b0 : (t176 == 0) = true := beq_iff_eq.mpr c20
     have c20b1 : (t176 != 0) = false := bne_eq_false_iff_eq.mpr c20
     clear c20
     by_cases c21 : t178 = 0
     ·rw [if_pos c21] at H
      have c21b0 : (t178 == 0) = true := beq_iff_eq.mpr c21
      have c21b1 : (t178 != 0) = false := bne_eq_false_iff_eq.mpr c21
      clear c21
      by_cases c22 : t180 = 0
      ·rw [if_pos c22] at H
       have c22b0 : (t180 == 0) = true := beq_iff_eq.mpr c22
       have c22b1 : (t180 != 0) = false := bne_eq_false_iff_eq.mpr c22
       clear c22
       by_cases c23 : t182 = 0
       ·rw [if_pos c23] at H
        have c23b0 : (t182 == 0) = true := beq_iff_eq.mpr c23
        have c23b1 : (t182 != 0) = false := bne_eq_false_iff_eq.mpr c23
        clear c23
        by_cases c24 : t184 = 0
        ·rw [if_pos c24] at H
         have c24b0 : (t184 == 0) = true := beq_iff_eq.mpr c24
         have c24b1 : (t184 != 0) = false := bne_eq_false_iff_eq.mpr c24
         clear c24
         by_cases c25 : t186 = 0
         ·rw [if_pos c25] at H
          have c25b0 : (t186 == 0) = true := beq_iff_eq.mpr c25
          have c25b1 : (t186 != 0) = false := bne_eq_false_iff_eq.mpr c25
          clear c25
          by_cases c26 : t181 ≤ t175
          ·rw [if_pos c26] at H
           have c26b0 : decide (t181 ≤ t175) = true := decide_eq_true c26
           clear c26
           by_cases c27 : t175 ≤ t179
           ·rw [if_pos c27] at H
            have c27b0 : decide (t175 ≤ t179) = true := decide_eq_true c27
            clear c27
            by_cases c28 : t175 ≤ t177
            ·rw [if_pos c28] at H
             have c28b0 : decide (t175 ≤ t177) = true := decide_eq_true c28
             clear c28
             by_cases c29 : t177 ≤ (wrap64 (t175 + 1))
             ·rw [if_pos c29] at H
              have c29b0 : decide (t177 ≤ (wrap64 (t175 + 1))) = true := decide_eq_true c29
              clear c29
              by_cases c30 : t183 ≤ t177
              ·rw [if_pos c30] at H
               have c30b0 : decide (t183 ≤ t177) = true := decide_eq_true c30
               clear c30
               by_cases c31 : t185 ≥ (wrap64 ((wrap64 (10 * t175)) - 5))
               ·rw [if_pos c31] at H
                have c31b0 : decide ((wrap64 ((wrap64 (10 * t175)) - 5)) ≤ t185) = true := decide_eq_true c31
                clear c31
                obtain rfl := Option.some.inj H
                go_wp2_with (first | ((with_reducible refine gate_callee (f := 9) rfl ?_); refine goesL_ (some 40) rfl rfl Tryd.func9 (by kernel_rfl) rfl #[.int .i64 1, .int .i64 (Int.tmod (wrap64 (a0)) 7), .int .i64 a1, .int .i64 a2] rfl (by (try simp only [List.map_toArray, List.map_cons, List.map_nil]); first | done | rfl | (simp only [List.length_drop, List.length_take]; rfl)) ?_; (with_reducible refine (metric_Dist.calls 1 (Int.tmod (wrap64 (a0)) 7) a1 a2 t175 t176 _ A14.out).mono ?_); rintro e w32 ⟨rfl, hb⟩; refine ⟨_, rfl, ?_⟩; have n0_ := Aside0.mk (below_step (by repeat (first | (with_reducible first | exact HB.out | apply below_alloc | apply pw_below_drewN | apply below_drew1) | exact HB.out)) hb); clear HB; have HB := n0_; clear n0_; (try clear hb); (try clear hb2); (try clear hk); (try clear hi)) | ((with_reducible refine gate_callee (f := 9) rfl ?_); refine goesL_ (some 47) rfl rfl Tryd.func9 (by kernel_rfl) rfl #[.int .i64 2, .int .i64 (Int.tmod (wrap64 (a0)) 7), .int .i64 a1, .int .i64 a2] rfl (by (try simp only [List.map_toArray, List.map_cons, List.map_nil]); first | done | rfl | (simp only [List.length_drop, List.length_take]; rfl)) ?_; (with_reducible refine (metric_Dist.calls 2 (Int.tmod (wrap64 (a0)) 7) a1 a2 t177 t178 _ A15.out).mono ?_); rintro e w33 ⟨rfl, hb⟩; refine ⟨_, rfl, ?_⟩; have n0_ := Aside0.mk (below_step (by repeat (first | (with_reducible first | exact HB.out | apply below_alloc | apply pw_below_drewN | apply below_drew1) | exact HB.out)) hb); clear HB; have HB := n0_; clear n0_; (try clear hb); (try clear hb2); (try clear hk); (try clear hi)) | ((with_reducible refine gate_callee (f := 9) rfl ?_); refine goesL_ (some 54) rfl rfl Tryd.func9 (by kernel_rfl) rfl #[.int .i64 3, .int .i64 (Int.tmod (wrap64 (a0)) 7), .int .i64 a1, .int .i64 a2] rfl (by (try simp only [List.map_toArray, List.map_cons, List.map_nil]); first | done | rfl | (simp only [List.length_drop, List.length_take]; rfl)) ?_; (with_reducible refine (metric_Dist.calls 3 (Int.tmod (wrap64 (a0)) 7) a1 a2 t179 t180 _ A16.out).mono ?_); rintro e w34 ⟨rfl, hb⟩; refine ⟨_, rfl, ?_⟩; have n0_ := Aside0.mk (below_step (by repeat (first | (with_reducible first | exact HB.out | apply below_alloc | apply pw_below_drewN | apply below_drew1) | exact HB.out)) hb); clear HB; have HB := n0_; clear n0_; (try clear hb); (try clear hb2); (try clear hk); (try clear hi)) | ((with_reducible refine gate_callee (f := 9) rfl ?_); refine goesL_ (some 61) rfl rfl Tryd.func9 (by kernel_rfl) rfl #[.int .i64 4, .int .i64 (Int.tmod (wrap64 (a0)) 7), .int .i64 a1, .int .i64 a2] rfl (by (try simp only [List.map_toArray, List.map_cons, List.map_nil]); first | done | rfl | (simp only [List.length_drop, List.length_take]; rfl)) ?_; (with_reducible refine (metric_Dist.calls 4 (Int.tmod (wrap64 (a0)) 7) a1 a2 t181 t182 _ A17.out).mono ?_); rintro e w35 ⟨rfl, hb⟩; refine ⟨_, rfl, ?_⟩; have n0_ := Aside0.mk (below_step (by repeat (first | (with_reducible first | exact HB.out | apply below_alloc | apply pw_below_drewN | apply below_drew1) | exact HB.out)) hb); clear HB; have HB := n0_; clear n0_; (try clear hb); (try clear hb2); (try clear hk); (try clear hi)) | ((with_reducible refine gate_callee (f := 9) rfl ?_); refine goesL_ (some 68) rfl rfl Tryd.func9 (by kernel_rfl) rfl #[.int .i64 5, .int .i64 (Int.tmod (wrap64 (a0)) 7), .int .i64 a1, .int .i64 a2] rfl (by (try simp only [List.map_toArray, List.map_cons, List.map_nil]); first | done | rfl | (simp only [List.length_drop, List.length_take]; rfl)) ?_; (with_reducible refine (metric_Dist.calls 5 (Int.tmod (wrap64 (a0)) 7) a1 a2 t183 t184 _ A18.out).mono ?_); rintro e w36 ⟨rfl, hb⟩; refine ⟨_, rfl, ?_⟩; have n0_ := Aside0.mk (below_step (by repeat (first | (with_reducible first | exact HB.out | apply below_alloc | apply pw_below_drewN | apply below_drew1) | exact HB.out)) hb); clear HB; have HB := n0_; clear n0_; (try clear hb); (try clear hb2); (try clear hk); (try clear hi)) | ((with_reducible refine gate_callee (f := 9) rfl ?_); refine goesL_ (some 75) rfl rfl Tryd.func9 (by kernel_rfl) rfl #[.int .i64 6, .int .i64 (Int.tmod (wrap64 (a0)) 7), .int .i64 a1, .int .i64 a2] rfl (by (try simp only [List.map_toArray, List.map_cons, List.map_nil]); first | done | rfl | (simp only [List.length_drop, List.length_take]; rfl)) ?_; (with_reducible refine (metric_Dist.calls 6 (Int.tmod (wrap64 (a0)) 7) a1 a2 t185 t186 _ A19.out).mono ?_); rintro e w37 ⟨rfl, hb⟩; refine ⟨_, rfl, ?_⟩; have n0_ := Aside0.mk (below_step (by repeat (first | (with_reducible first | exact HB.out | apply below_alloc | apply pw_below_drewN | apply below_drew1) | exact HB.out)) hb); clear HB; have HB := n0_; clear n0_; (try clear hb); (try clear hb2); (try clear hk); (try clear hi)))
                go_ret
                exact ⟨by first | rfl | (simp [errW_none, errW_some] <;> rfl) | (simp [*, errW_none, errW_some] <;> rfl), by repeat (first | (with_reducible first | exact HB.out | apply below_alloc | apply pw_below_drewN | apply below_drew1) | exact HB.out)⟩
               ·rw [if_neg c31] at H
                have c31b0 : decide ((wrap64 ((wrap64 (10 * t175)) - 5)) ≤ t185) = false := decide_eq_false c31
                clear c31
                exact absurd ((Option.some.inj H).trans hr_.out) (by decide)
              ·rw [if_neg c30] at H
               have c30b0 : decide (t183 ≤ t177) = false := decide_eq_false c30
               clear c30
               exact absurd ((Option.some.inj H).trans hr_.out) (by decide)
             ·rw [if_neg c29] at H
              have c29b0 : decide (t177 ≤ (wrap64 (t175 + 1))) = false := decide_eq_false c29
              clear c29
              exact absurd ((Option.some.inj H).trans hr_.out) (by decide)
            ·rw [if_neg c28] at H
             have c28b0 : decide (t175 ≤ t177) = false := decide_eq_false c28
             clear c28
             exact absurd ((Option.some.inj H).trans hr_.out) (by decide)
           ·rw [if_neg c27] at H
            have c27b0 : decide (t175 ≤ t179) = false := decide_eq_false c27
            clear c27
            exact absurd ((Option.some.inj H).trans hr_.out) (by decide)
          ·rw [if_neg c26] at H
           have c26b0 : decide (t181 ≤ t175) = false := decide_eq_false c26
           clear c26
           exact absurd ((Option.some.inj H).trans hr_.out) (by decide)
         ·rw [if_neg c25] at H
          have c25b0 : (t186 == 0) = false := beq_eq_false_iff_ne.mpr c25
          have c25b1 : (t186 != 0) = true := bne_iff_ne.mpr c25
          exact absurd ((Option.some.inj H).trans hr_.out) (by decide)
        ·rw [if_neg c24] at H
         have c24b0 : (t184 == 0) = false := beq_eq_false_iff_ne.mpr c24
         have c24b1 : (t184 != 0) = true := bne_iff_ne.mpr c24
         exact absurd ((Option.some.inj H).trans hr_.out) (by decide)
       ·rw [if_neg c23] at H
        have c23b0 : (t182 == 0) = false := beq_eq_false_iff_ne.mpr c23
        have c23b1 : (t182 != 0) = true := bne_iff_ne.mpr c23
        exact absurd ((Option.some.inj H).trans hr_.out) (by decide)
      ·rw [if_neg c22] at H
       have c22b0 : (t180 == 0) = false := beq_eq_false_iff_ne.mpr c22
       have c22b1 : (t180 != 0) = true := bne_iff_ne.mpr c22
       exact absurd ((Option.some.inj H).trans hr_.out) (by decide)
     ·rw [if_neg c21] at H
      have c21b0 : (t178 == 0) = false := beq_eq_false_iff_ne.mpr c21
      have c21b1 : (t178 != 0) = true := bne_iff_ne.mpr c21
      exact absurd ((Option.some.inj H).trans hr_.out) (by decide)
    ·rw [if_neg c20] at H
     have c20b0 : (t176 == 0) = false := beq_eq_false_iff_ne.mpr c20
     have c20b1 : (t176 != 0) = true := bne_iff_ne.mpr c20
     exact absurd ((Option.some.inj H).trans hr_.out) (by decide)

end Go.Proofs.YtdpfljkcnlamlaaDoor.P
