/- Written by a program of this session, after the kit's print: Lean functions for Go functions, and the proof that the machine comes to their answers. -/
import Derived.Test.YtdgdhmglcpkkiaaDoorPx0
import Derived.Test.YtdgdhmglcpkkiaaDoorPxEntrepotlaw07shown
import Derived.Test.YtdgdhmglcpkkiaaDoorPxEntrepotref07Ints
import Derived.Test.YtdgdhmglcpkkiaaDoorMlb
import Derived.Test.YtdgdhmglcpkkiaaDoorGLayF
namespace Go.Proofs.YtdgdhmglcpkkiaaDoor.P
open Go.RowKit Go.Proofs.YtdgdhmglcpkkiaaDoorW.PrintWords Go.Proofs.YtdgdhmglcpkkiaaDoorW.PrintLast Go.Proofs.YtdgdhmglcpkkiaaDoorW.PrintMore
attribute [local go_sem] max2_int min2_int max_two min_two max_three min_three max_four min_four   -- for this text's walks alone
set_option linter.unusedVariables false
set_option linter.unusedSimpArgs false

/-! ### entrepotlaw07_LayoutTurned: function 7 -/
mutual
def entrepotlaw07_LayoutTurned.j0 : Nat → List Int → Int → Bool → Option (Bool)
 | 0, _, _, _ => none
 | k + 1, x1, x5, x32 => if x32 = true then ((entrepotlaw07_shown.f k).bind fun t254 => (some t254)) else ((layout_Unpack.f k 2 x5 x1).bind fun bt255 => ((layout_Unpack.f k 7 x5 x1).bind fun bt259 => ((layout_Unpack.f k 3 x5 x1).bind fun bt263 => ((layout_Unpack.f k 6 x5 x1).bind fun bt267 => (if bt255.2 = bt259.2 then (if bt263.2 = bt267.2 then (if bt255.2 = bt263.2 then ((entrepotref07_Ints.f k bt255.1 bt259.1).bind fun t271 => (if t271 = true then ((entrepotref07_Ints.f k bt263.1 bt267.1).bind fun t272 => (if t272 = true then (entrepotlaw07_LayoutTurned.j1 k x1 x5 bt255.1 bt255.2 ((bt255.2 == 0) != ((x1.length : Int) == (wrap64 (Int.tdiv (wrap64 (x5 * (wrap64 (x5 - 1)))) 2))))) else (entrepotlaw07_LayoutTurned.j1 k x1 x5 bt255.1 bt255.2 true))) else (entrepotlaw07_LayoutTurned.j1 k x1 x5 bt255.1 bt255.2 true))) else (entrepotlaw07_LayoutTurned.j1 k x1 x5 bt255.1 bt255.2 true)) else (entrepotlaw07_LayoutTurned.j1 k x1 x5 bt255.1 bt255.2 true)) else (entrepotlaw07_LayoutTurned.j1 k x1 x5 bt255.1 bt255.2 true))))))
def entrepotlaw07_LayoutTurned.j1 : Nat → List Int → Int → List Int → Int → Bool → Option (Bool)
 | 0, _, _, _, _, _ => none
 | k + 1, x1, x5, x6, x7, x95 => if x95 = true then (some false) else (if x7 = 0 then ((layout_Pack.f 4 x5 x6).bind fun bt273 => ((layout_Pack.f 3 x5 x6).bind fun bt277 => ((layout_Unpack.f k 4 x5 bt273.1).bind fun bt281 => ((layout_Unpack.f k 6 x5 bt277.1).bind fun bt285 => (if bt273.2 = 0 then (if bt277.2 = 0 then (if bt281.2 = 0 then (if bt285.2 = 0 then (if (bt273.1.length : Int) = (wrap64 ((x1.length : Int) + x5)) then ((entrepotref07_Ints.f k bt281.1 x6).bind fun t289 => (if t289 = true then ((entrepotref07_Ints.f k bt285.1 x6).bind fun t290 => (some t290)) else (some false))) else (some false)) else (some false)) else (some false)) else (some false)) else (some false)))))) else (some (x7 == 70)))
end
def entrepotlaw07_LayoutTurned.f (k : Nat) (a0 : Int) (l1 : List Int) : Option (Bool) := if (l1.length : Int) > 100 then (entrepotlaw07_LayoutTurned.j0 k l1 (wrap64 (1 + (Int.tmod (wrap64 (a0)) 12))) true) else ((entrepotlaw07_shown.f k).bind fun t253 => (entrepotlaw07_LayoutTurned.j0 k l1 (wrap64 (1 + (Int.tmod (wrap64 (a0)) 12))) (!t253)))
theorem entrepotlaw07_LayoutTurned.mono_l : ∀ k, (∀ y0 y1 y2, LeO (entrepotlaw07_LayoutTurned.j0 k y0 y1 y2) (entrepotlaw07_LayoutTurned.j0 (k + 1) y0 y1 y2)) ∧ (∀ y0 y1 y2 y3 y4, LeO (entrepotlaw07_LayoutTurned.j1 k y0 y1 y2 y3 y4) (entrepotlaw07_LayoutTurned.j1 (k + 1) y0 y1 y2 y3 y4))
 | 0 => ⟨fun _ _ _ r h => by simp [entrepotlaw07_LayoutTurned.j0] at h, fun _ _ _ _ _ r h => by simp [entrepotlaw07_LayoutTurned.j1] at h⟩
 | k + 1 => by
  obtain ⟨ih0, ih1⟩ := entrepotlaw07_LayoutTurned.mono_l k
  refine ⟨?_, ?_⟩
  ·intro y0 y1 y2
   unfold entrepotlaw07_LayoutTurned.j0
   repeat' first
   | (with_reducible exact ih0 _ _ _)
   | (with_reducible exact ih1 _ _ _ _ _)
   | (with_reducible exact entrepotlaw07_shown.mono _)
   | (with_reducible exact entrepotref07_Ints.mono _ _ _)
   | (with_reducible exact layout_Unpack.mono _ _ _ _)
   | (with_reducible exact LeO.refl _)
   | (with_reducible exact LeO.none _)
   | (with_reducible refine LeO.ite ?_ ?_)
   | (with_reducible refine LeO.bind ?_ (fun _ => ?_))
   | exact ih0 _ _ _
   | exact ih1 _ _ _ _ _
   | exact entrepotlaw07_shown.mono _
   | exact entrepotref07_Ints.mono _ _ _
   | exact layout_Unpack.mono _ _ _ _
   | exact LeO.none _
   | refine LeO.ite ?_ ?_
   | refine LeO.bind ?_ (fun _ => ?_)
  ·intro y0 y1 y2 y3 y4
   unfold entrepotlaw07_LayoutTurned.j1
   repeat' first
   | (with_reducible exact ih0 _ _ _)
   | (with_reducible exact ih1 _ _ _ _ _)
   | (with_reducible exact entrepotlaw07_shown.mono _)
   | (with_reducible exact entrepotref07_Ints.mono _ _ _)
   | (with_reducible exact layout_Unpack.mono _ _ _ _)
   | (with_reducible exact LeO.refl _)
   | (with_reducible exact LeO.none _)
   | (with_reducible refine LeO.ite ?_ ?_)
   | (with_reducible refine LeO.bind ?_ (fun _ => ?_))
   | exact ih0 _ _ _
   | exact ih1 _ _ _ _ _
   | exact entrepotlaw07_shown.mono _
   | exact entrepotref07_Ints.mono _ _ _
   | exact layout_Unpack.mono _ _ _ _
   | exact LeO.none _
   | refine LeO.ite ?_ ?_
   | refine LeO.bind ?_ (fun _ => ?_)
theorem entrepotlaw07_LayoutTurned.mono : ∀ a0 a1 k, LeO (entrepotlaw07_LayoutTurned.f k a0 a1) (entrepotlaw07_LayoutTurned.f (k + 1) a0 a1) := by
 intro a0 a1 k
 obtain ⟨ih0, ih1⟩ := entrepotlaw07_LayoutTurned.mono_l k
 unfold entrepotlaw07_LayoutTurned.f
 repeat' first
   | (with_reducible exact ih0 _ _ _)
   | (with_reducible exact ih1 _ _ _ _ _)
   | (with_reducible exact entrepotlaw07_shown.mono _)
   | (with_reducible exact entrepotref07_Ints.mono _ _ _)
   | (with_reducible exact layout_Unpack.mono _ _ _ _)
   | (with_reducible exact LeO.refl _)
   | (with_reducible exact LeO.none _)
   | (with_reducible refine LeO.ite ?_ ?_)
   | (with_reducible refine LeO.bind ?_ (fun _ => ?_))
   | exact ih0 _ _ _
   | exact ih1 _ _ _ _ _
   | exact entrepotlaw07_shown.mono _
   | exact entrepotref07_Ints.mono _ _ _
   | exact layout_Unpack.mono _ _ _ _
   | exact LeO.none _
   | refine LeO.ite ?_ ?_
   | refine LeO.bind ?_ (fun _ => ?_)
set_option maxHeartbeats 8000000 in
set_option maxRecDepth 100000 in
theorem entrepotlaw07_LayoutTurned.callsT (k : Nat) (a0 : Int) (A1 : Option Addr) (c1 : Nat) (l1 : List Int) (r : Bool) (w : World) (hr1 : Kd.C (Kd.int .i64) w A1 l1.length l1) (hc1 : l1.length ≤ c1) (ht : Tab w) (h : entrepotlaw07_LayoutTurned.f k a0 l1 = some r) (hr_ : Aside0 (r = true)) :
  Calls Tryd.prog 7 #[.int .u8 a0, .slice A1 l1.length c1] w fun e w' => e = .returned (.bool r) ∧ Below w.heap.size w w' := by
 have HTab_ := Aside0.mk ht
 clear ht
 have HR1 := Aside0.mk hr1
 have HC1 := Aside0.mk hc1
 clear hr1 hc1
 have HB := Aside0.mk (Below.refl w.heap.size w)
 have H : (if (l1.length : Int) > 100 then (entrepotlaw07_LayoutTurned.j0 k l1 (wrap64 (1 + (Int.tmod (wrap64 (a0)) 12))) true) else ((entrepotlaw07_shown.f k).bind fun t253 => (entrepotlaw07_LayoutTurned.j0 k l1 (wrap64 (1 + (Int.tmod (wrap64 (a0)) 12))) (!t253)))) = some r := h
 clear h
 have HC3 := Aside0.mk H
 clear H
 go_enter Tryd.func7, Tryd.ntmps7
 go_upto_region 2 with (fail)
 go_cut [32] (fun v32 wc => ∃ (kq : Nat) (x32_2 : Bool), v32 = .bool x32_2 ∧ Aside0 (entrepotlaw07_LayoutTurned.j0 kq l1 (wrap64 (1 + (Int.tmod (wrap64 (a0)) 12))) x32_2 = some r) ∧ Aside0 (kq ≤ k) ∧ Aside0 (Below w.heap.size w wc))
 case first =>
  have H := HC3.out
  clear HC3
  by_cases c4 : (l1.length : Int) > 100
  ·rw [if_pos c4] at H
   have c4b0 : decide (100 < (l1.length : Int)) = true := decide_eq_true c4
   have c4b1 : decide (100 < l1.length) = true := decide_eq_true (by omega)
   clear c4
   (first | rw [c4b0] | (simp only [i64_w, i32_w]; rw [c4b0]) | skip)
   have H' := Aside0.mk H
   clear H
   go_wp2
   go_meet
   case rel => exact ⟨_, (true), (by first | rfl | (simp; done) | (simp [*]; done)), H', ⟨by first | omega | exact Nat.le_refl _⟩, ⟨by repeat (first | (with_reducible first | exact HB.out | apply below_alloc | apply pw_below_drewN | apply below_drew1) | exact HB.out)⟩⟩
  ·rw [if_neg c4] at H
   have c4b0 : decide (100 < (l1.length : Int)) = false := decide_eq_false c4
   have c4b1 : decide (100 < l1.length) = false := decide_eq_false (by omega)
   clear c4
   (first | rw [c4b0] | (simp only [i64_w, i32_w]; rw [c4b0]) | skip)
   replace H := Option.bind_eq_some_iff.mp H
   obtain ⟨t253, A50, H⟩ := H
   replace H : (entrepotlaw07_LayoutTurned.j0 k l1 (wrap64 (1 + (Int.tmod (wrap64 (a0)) 12))) (!t253)) = some r := H
   have A5 := Aside0.mk A50
   clear A50
   have H' := Aside0.mk H
   clear H
   go_wp2_with (first | (go_at_call 9; (with_reducible refine (entrepotlaw07_shown.calls k  t253 _ (tab_below HTab_.out (by repeat (first | (with_reducible first | exact HB.out | apply below_alloc | apply pw_below_drewN | apply below_drew1 | (refine below_set ?_ ?_; rotate_left; · assumption)) | exact HB.out))) A5.out).mono ?_); rintro e w6 ⟨rfl, hb⟩; have n0_ := Aside0.mk (below_step (by repeat (first | (with_reducible first | exact HB.out | apply below_alloc | apply pw_below_drewN | apply below_drew1) | exact HB.out)) hb); clear HB; have HB := n0_; clear n0_; (try clear hb); (try clear hb2); (try clear hk); (try clear hi)))
   go_meet
   case rel => exact ⟨_, (!t253), (by first | rfl | (simp; done) | (simp [*]; done)), H', ⟨by first | omega | exact Nat.le_refl _⟩, ⟨by repeat (first | (with_reducible first | exact HB.out | apply below_alloc | apply pw_below_drewN | apply below_drew1) | exact HB.out)⟩⟩
 case rest =>
  clear HC3
  (try clear c1)
  obtain ⟨kq, x32_2, rfl, HA, HJ2, HB⟩ := hcut
  cases kq with
  | zero => exact absurd HA.out (by simp [entrepotlaw07_LayoutTurned.j0])
  | succ kj2 =>
   have H := HA.out
   clear HA
   simp only [entrepotlaw07_LayoutTurned.j0] at H
   by_cases c7 : x32_2 = true
   ·subst c7
    have H1 : ((entrepotlaw07_shown.f kj2).bind fun t254 => (some t254)) = some r := by rw [if_pos rfl] at H; exact H
    clear H
    have H := H1
    clear H1
    replace H := Option.bind_eq_some_iff.mp H
    obtain ⟨t254, A80, H⟩ := H
    replace H : (some t254) = some r := H
    have A8 := Aside0.mk A80
    clear A80
    obtain rfl := Option.some.inj H
    go_wp2_with (first | ((with_reducible refine gate_callee (f := 9) rfl ?_); refine goesL_ (some 33) rfl rfl Tryd.func9 (by kernel_rfl) rfl #[] rfl (by (try simp only [List.map_toArray, List.map_cons, List.map_nil]); first | done | rfl | (simp only [List.length_drop, List.length_take]; rfl)) ?_; (with_reducible refine (entrepotlaw07_shown.calls kj2  t254 _ (tab_below HTab_.out (by repeat (first | (with_reducible first | exact HB.out | apply below_alloc | apply pw_below_drewN | apply below_drew1 | (refine below_set ?_ ?_; rotate_left; · assumption)) | exact HB.out))) A8.out).mono ?_); rintro e w9 ⟨rfl, hb⟩; refine ⟨_, rfl, ?_⟩; have n0_ := Aside0.mk (below_step (by repeat (first | (with_reducible first | exact HB.out | apply below_alloc | apply pw_below_drewN | apply below_drew1) | exact HB.out)) hb); clear HB; have HB := n0_; clear n0_; (try clear hb); (try clear hb2); (try clear hk); (try clear hi)))
    go_ret
    exact ⟨by first | rfl | (simp [errW_none, errW_some] <;> rfl) | (simp [*, errW_none, errW_some] <;> rfl), by repeat (first | (with_reducible first | exact HB.out | apply below_alloc | apply pw_below_drewN | apply below_drew1) | exact HB.out)⟩
   ·replace c7 := Bool.eq_false_iff.mpr c7
    subst c7
    have H1 : ((layout_Unpack.f kj2 2 (wrap64 (1 + (Int.tmod (wrap64 (a0)) 12))) l1).bind fun bt255 => ((layout_Unpack.f kj2 7 (wrap64 (1 + (Int.tmod (wrap64 (a0)) 12))) l1).bind fun bt259 => ((layout_Unpack.f kj2 3 (wrap64 (1 + (Int.tmod (wrap64 (a0)) 12))) l1).bind fun bt263 => ((layout_Unpack.f kj2 6 (wrap64 (1 + (Int.tmod (wrap64 (a0)) 12))) l1).bind fun bt267 => (if bt255.2 = bt259.2 then (if bt263.2 = bt267.2 then (if bt255.2 = bt263.2 then ((entrepotref07_Ints.f kj2 bt255.1 bt259.1).bind fun t271 => (if t271 = true then ((entrepotref07_Ints.f kj2 bt263.1 bt267.1).bind fun t272 => (if t272 = true then (entrepotlaw07_LayoutTurned.j1 kj2 l1 (wrap64 (1 + (Int.tmod (wrap64 (a0)) 12))) bt255.1 bt255.2 ((bt255.2 == 0) != ((l1.length : Int) == (wrap64 (Int.tdiv (wrap64 ((wrap64 (1 + (Int.tmod (wrap64 (a0)) 12))) * (wrap64 ((wrap64 (1 + (Int.tmod (wrap64 (a0)) 12))) - 1)))) 2))))) else (entrepotlaw07_LayoutTurned.j1 kj2 l1 (wrap64 (1 + (Int.tmod (wrap64 (a0)) 12))) bt255.1 bt255.2 true))) else (entrepotlaw07_LayoutTurned.j1 kj2 l1 (wrap64 (1 + (Int.tmod (wrap64 (a0)) 12))) bt255.1 bt255.2 true))) else (entrepotlaw07_LayoutTurned.j1 kj2 l1 (wrap64 (1 + (Int.tmod (wrap64 (a0)) 12))) bt255.1 bt255.2 true)) else (entrepotlaw07_LayoutTurned.j1 kj2 l1 (wrap64 (1 + (Int.tmod (wrap64 (a0)) 12))) bt255.1 bt255.2 true)) else (entrepotlaw07_LayoutTurned.j1 kj2 l1 (wrap64 (1 + (Int.tmod (wrap64 (a0)) 12))) bt255.1 bt255.2 true)))))) = some r := by rw [if_neg (show ¬ (false = true) by decide)] at H; exact H
    clear H
    have H := H1
    clear H1
    replace H := Option.bind_eq_some_iff.mp H
    obtain ⟨⟨t255, t256⟩, A100, H⟩ := H
    replace H : ((layout_Unpack.f kj2 7 (wrap64 (1 + (Int.tmod (wrap64 (a0)) 12))) l1).bind fun bt259 => ((layout_Unpack.f kj2 3 (wrap64 (1 + (Int.tmod (wrap64 (a0)) 12))) l1).bind fun bt263 => ((layout_Unpack.f kj2 6 (wrap64 (1 + (Int.tmod (wrap64 (a0)) 12))) l1).bind fun bt267 => (if t256 = bt259.2 then (if bt263.2 = bt267.2 then (if t256 = bt263.2 then ((entrepotref07_Ints.f kj2 t255 bt259.1).bind fun t271 => (if t271 = true then ((entrepotref07_Ints.f kj2 bt263.1 bt267.1).bind fun t272 => (if t272 = true then (entrepotlaw07_LayoutTurned.j1 kj2 l1 (wrap64 (1 + (Int.tmod (wrap64 (a0)) 12))) t255 t256 ((t256 == 0) != ((l1.length : Int) == (wrap64 (Int.tdiv (wrap64 ((wrap64 (1 + (Int.tmod (wrap64 (a0)) 12))) * (wrap64 ((wrap64 (1 + (Int.tmod (wrap64 (a0)) 12))) - 1)))) 2))))) else (entrepotlaw07_LayoutTurned.j1 kj2 l1 (wrap64 (1 + (Int.tmod (wrap64 (a0)) 12))) t255 t256 true))) else (entrepotlaw07_LayoutTurned.j1 kj2 l1 (wrap64 (1 + (Int.tmod (wrap64 (a0)) 12))) t255 t256 true))) else (entrepotlaw07_LayoutTurned.j1 kj2 l1 (wrap64 (1 + (Int.tmod (wrap64 (a0)) 12))) t255 t256 true)) else (entrepotlaw07_LayoutTurned.j1 kj2 l1 (wrap64 (1 + (Int.tmod (wrap64 (a0)) 12))) t255 t256 true)) else (entrepotlaw07_LayoutTurned.j1 kj2 l1 (wrap64 (1 + (Int.tmod (wrap64 (a0)) 12))) t255 t256 true))))) = some r := H
    have A10 := Aside0.mk A100
    clear A100
    replace H := Option.bind_eq_some_iff.mp H
    obtain ⟨⟨t259, t260⟩, A110, H⟩ := H
    replace H : ((layout_Unpack.f kj2 3 (wrap64 (1 + (Int.tmod (wrap64 (a0)) 12))) l1).bind fun bt263 => ((layout_Unpack.f kj2 6 (wrap64 (1 + (Int.tmod (wrap64 (a0)) 12))) l1).bind fun bt267 => (if t256 = t260 then (if bt263.2 = bt267.2 then (if t256 = bt263.2 then ((entrepotref07_Ints.f kj2 t255 t259).bind fun t271 => (if t271 = true then ((entrepotref07_Ints.f kj2 bt263.1 bt267.1).bind fun t272 => (if t272 = true then (entrepotlaw07_LayoutTurned.j1 kj2 l1 (wrap64 (1 + (Int.tmod (wrap64 (a0)) 12))) t255 t256 ((t256 == 0) != ((l1.length : Int) == (wrap64 (Int.tdiv (wrap64 ((wrap64 (1 + (Int.tmod (wrap64 (a0)) 12))) * (wrap64 ((wrap64 (1 + (Int.tmod (wrap64 (a0)) 12))) - 1)))) 2))))) else (entrepotlaw07_LayoutTurned.j1 kj2 l1 (wrap64 (1 + (Int.tmod (wrap64 (a0)) 12))) t255 t256 true))) else (entrepotlaw07_LayoutTurned.j1 kj2 l1 (wrap64 (1 + (Int.tmod (wrap64 (a0)) 12))) t255 t256 true))) else (entrepotlaw07_LayoutTurned.j1 kj2 l1 (wrap64 (1 + (Int.tmod (wrap64 (a0)) 12))) t255 t256 true)) else (entrepotlaw07_LayoutTurned.j1 kj2 l1 (wrap64 (1 + (Int.tmod (wrap64 (a0)) 12))) t255 t256 true)) else (entrepotlaw07_LayoutTurned.j1 kj2 l1 (wrap64 (1 + (Int.tmod (wrap64 (a0)) 12))) t255 t256 true)))) = some r := H
    have A11 := Aside0.mk A110
    clear A110
    replace H := Option.bind_eq_some_iff.mp H
    obtain ⟨⟨t263, t264⟩, A120, H⟩ := H
    replace H : ((layout_Unpack.f kj2 6 (wrap64 (1 + (Int.tmod (wrap64 (a0)) 12))) l1).bind fun bt267 => (if t256 = t260 then (if t264 = bt267.2 then (if t256 = t264 then ((entrepotref07_Ints.f kj2 t255 t259).bind fun t271 => (if t271 = true then ((entrepotref07_Ints.f kj2 t263 bt267.1).bind fun t272 => (if t272 = true then (entrepotlaw07_LayoutTurned.j1 kj2 l1 (wrap64 (1 + (Int.tmod (wrap64 (a0)) 12))) t255 t256 ((t256 == 0) != ((l1.length : Int) == (wrap64 (Int.tdiv (wrap64 ((wrap64 (1 + (Int.tmod (wrap64 (a0)) 12))) * (wrap64 ((wrap64 (1 + (Int.tmod (wrap64 (a0)) 12))) - 1)))) 2))))) else (entrepotlaw07_LayoutTurned.j1 kj2 l1 (wrap64 (1 + (Int.tmod (wrap64 (a0)) 12))) t255 t256 true))) else (entrepotlaw07_LayoutTurned.j1 kj2 l1 (wrap64 (1 + (Int.tmod (wrap64 (a0)) 12))) t255 t256 true))) else (entrepotlaw07_LayoutTurned.j1 kj2 l1 (wrap64 (1 + (Int.tmod (wrap64 (a0)) 12))) t255 t256 true)) else (entrepotlaw07_LayoutTurned.j1 kj2 l1 (wrap64 (1 + (Int.tmod (wrap64 (a0)) 12))) t255 t256 true)) else (entrepotlaw07_LayoutTurned.j1 kj2 l1 (wrap64 (1 + (Int.tmod (wrap64 (a0)) 12))) t255 t256 true))) = some r := H
    have A12 := Aside0.mk A120
    clear A120
    replace H := Option.bind_eq_some_iff.mp H
    obtain ⟨⟨t267, t268⟩, A130, H⟩ := H
    replace H : (if t256 = t260 then (if t264 = t268 then (if t256 = t264 then ((entrepotref07_Ints.f kj2 t255 t259).bind fun t271 => (if t271 = true then ((entrepotref07_Ints.f kj2 t263 t267).bind fun t272 => (if t272 = true then (entrepotlaw07_LayoutTurned.j1 kj2 l1 (wrap64 (1 + (Int.tmod (wrap64 (a0)) 12))) t255 t256 ((t256 == 0) != ((l1.length : Int) == (wrap64 (Int.tdiv (wrap64 ((wrap64 (1 + (Int.tmod (wrap64 (a0)) 12))) * (wrap64 ((wrap64 (1 + (Int.tmod (wrap64 (a0)) 12))) - 1)))) 2))))) else (entrepotlaw07_LayoutTurned.j1 kj2 l1 (wrap64 (1 + (Int.tmod (wrap64 (a0)) 12))) t255 t256 true))) else (entrepotlaw07_LayoutTurned.j1 kj2 l1 (wrap64 (1 + (Int.tmod (wrap64 (a0)) 12))) t255 t256 true))) else (entrepotlaw07_LayoutTurned.j1 kj2 l1 (wrap64 (1 + (Int.tmod (wrap64 (a0)) 12))) t255 t256 true)) else (entrepotlaw07_LayoutTurned.j1 kj2 l1 (wrap64 (1 + (Int.tmod (wrap64 (a0)) 12))) t255 t256 true)) else (entrepotlaw07_LayoutTurned.j1 kj2 l1 (wrap64 (1 + (Int.tmod (wrap64 (a0)) 12))) t255 t256 true)) = some r := H
    have A13 := Aside0.mk A130
    clear A130
    have HC14 := Aside0.mk H
    clear H
    go_upto_region 8 with (first | ((with_reducible refine gate_callee (f := 10) rfl ?_); refine goesL_ (some 37) rfl rfl Tryd.func10 (by kernel_rfl) rfl #[.int .i64 2, .int .i64 (wrap64 (1 + (Int.tmod (wrap64 (a0)) 12))), .slice A1 l1.length c1] rfl (by (try simp only [List.map_toArray, List.map_cons, List.map_nil]); first | done | rfl | (simp only [List.length_drop, List.length_take]; rfl)) ?_; (with_reducible refine (layout_Unpack.calls kj2 2 (wrap64 (1 + (Int.tmod (wrap64 (a0)) 12))) _ _ l1 t255 t256 _ ?side1 ?side2 (tab_below HTab_.out (by repeat (first | (with_reducible first | exact HB.out | apply below_alloc | apply pw_below_drewN | apply below_drew1 | (refine below_set ?_ ?_; rotate_left; · assumption)) | exact HB.out))) A10.out).mono ?_); (case side1 => repeat (first | exact (Kd.C_below HR1.out HB.out) | (with_reducible refine Kd.C_alloc ?_ _) | (with_reducible refine Kd.C_drewN ?_ _) | (with_reducible refine Kd.C_drew ?_))); (case side2 => exact HC1.out); rintro e w15 ⟨v257, rfl, ho0, hb⟩; refine ⟨_, rfl, ?_⟩; have n0_ := Aside0.mk (Kd.R_lower ho0 (below_size (by repeat (first | (with_reducible first | exact HB.out | apply below_alloc | apply pw_below_drewN | apply below_drew1) | exact HB.out)))); have n1_ := Aside0.mk (below_step (by repeat (first | (with_reducible first | exact HB.out | apply below_alloc | apply pw_below_drewN | apply below_drew1) | exact HB.out)) hb); clear HB; have HO258 := n0_; have HB := n1_; clear n0_ n1_; (try clear hb); (try clear hb2); (try clear hk); (try clear hi); (try clear ho0)) | ((with_reducible refine gate_callee (f := 10) rfl ?_); refine goesL_ (some 43) rfl rfl Tryd.func10 (by kernel_rfl) rfl #[.int .i64 7, .int .i64 (wrap64 (1 + (Int.tmod (wrap64 (a0)) 12))), .slice A1 l1.length c1] rfl (by (try simp only [List.map_toArray, List.map_cons, List.map_nil]); first | done | rfl | (simp only [List.length_drop, List.length_take]; rfl)) ?_; (with_reducible refine (layout_Unpack.calls kj2 7 (wrap64 (1 + (Int.tmod (wrap64 (a0)) 12))) _ _ l1 t259 t260 _ ?side1 ?side2 (tab_below HTab_.out (by repeat (first | (with_reducible first | exact HB.out | apply below_alloc | apply pw_below_drewN | apply below_drew1 | (refine below_set ?_ ?_; rotate_left; · assumption)) | exact HB.out))) A11.out).mono ?_); (case side1 => repeat (first | exact (Kd.C_below HR1.out HB.out) | (with_reducible refine Kd.C_alloc ?_ _) | (with_reducible refine Kd.C_drewN ?_ _) | (with_reducible refine Kd.C_drew ?_))); (case side2 => exact HC1.out); rintro e w16 ⟨v261, rfl, ho0, hb⟩; refine ⟨_, rfl, ?_⟩; have n0_ := Aside0.mk (Kd.R_elder' (by (with_reducible repeat (first | apply Kd.R_alloc | apply Kd.R_drewN | apply Kd.R_drew)); exact HO258.out) (Kd.R_base ho0) hb); have n1_ := Aside0.mk (Kd.R_lower (Kd.R_new' ho0 (Kd.R_lt (by (with_reducible repeat (first | apply Kd.R_alloc | apply Kd.R_drewN | apply Kd.R_drew)); exact HO258.out))) (below_size (by repeat (first | (with_reducible first | exact HB.out | apply below_alloc | apply pw_below_drewN | apply below_drew1) | exact HB.out)))); have n2_ := Aside0.mk (below_step (by repeat (first | (with_reducible first | exact HB.out | apply below_alloc | apply pw_below_drewN | apply below_drew1) | exact HB.out)) hb); clear HO258; clear HB; have HO258 := n0_; have HO262 := n1_; have HB := n2_; clear n0_ n1_ n2_; (try clear hb); (try clear hb2); (try clear hk); (try clear hi); (try clear ho0)) | ((with_reducible refine gate_callee (f := 10) rfl ?_); refine goesL_ (some 49) rfl rfl Tryd.func10 (by kernel_rfl) rfl #[.int .i64 3, .int .i64 (wrap64 (1 + (Int.tmod (wrap64 (a0)) 12))), .slice A1 l1.length c1] rfl (by (try simp only [List.map_toArray, List.map_cons, List.map_nil]); first | done | rfl | (simp only [List.length_drop, List.length_take]; rfl)) ?_; (with_reducible refine (layout_Unpack.calls kj2 3 (wrap64 (1 + (Int.tmod (wrap64 (a0)) 12))) _ _ l1 t263 t264 _ ?side1 ?side2 (tab_below HTab_.out (by repeat (first | (with_reducible first | exact HB.out | apply below_alloc | apply pw_below_drewN | apply below_drew1 | (refine below_set ?_ ?_; rotate_left; · assumption)) | exact HB.out))) A12.out).mono ?_); (case side1 => repeat (first | exact (Kd.C_below HR1.out HB.out) | (with_reducible refine Kd.C_alloc ?_ _) | (with_reducible refine Kd.C_drewN ?_ _) | (with_reducible refine Kd.C_drew ?_))); (case side2 => exact HC1.out); rintro e w17 ⟨v265, rfl, ho0, hb⟩; refine ⟨_, rfl, ?_⟩; have n0_ := Aside0.mk (Kd.R_elder' (by (with_reducible repeat (first | apply Kd.R_alloc | apply Kd.R_drewN | apply Kd.R_drew)); exact HO258.out) (Kd.R_base ho0) hb); have n1_ := Aside0.mk (Kd.R_elder' (by (with_reducible repeat (first | apply Kd.R_alloc | apply Kd.R_drewN | apply Kd.R_drew)); exact HO262.out) (Kd.R_base ho0) hb); have n2_ := Aside0.mk (Kd.R_lower (Kd.R_new' (Kd.R_new' ho0 (Kd.R_lt (by (with_reducible repeat (first | apply Kd.R_alloc | apply Kd.R_drewN | apply Kd.R_drew)); exact HO258.out))) (Kd.R_lt (by (with_reducible repeat (first | apply Kd.R_alloc | apply Kd.R_drewN | apply Kd.R_drew)); exact HO262.out))) (below_size (by repeat (first | (with_reducible first | exact HB.out | apply below_alloc | apply pw_below_drewN | apply below_drew1) | exact HB.out)))); have n3_ := Aside0.mk (below_step (by repeat (first | (with_reducible first | exact HB.out | apply below_alloc | apply pw_below_drewN | apply below_drew1) | exact HB.out)) hb); clear HO258; clear HO262; clear HB; have HO258 := n0_; have HO262 := n1_; have HO266 := n2_; have HB := n3_; clear n0_ n1_ n2_ n3_; (try clear hb); (try clear hb2); (try clear hk); (try clear hi); (try clear ho0)) | ((with_reducible refine gate_callee (f := 10) rfl ?_); refine goesL_ (some 55) rfl rfl Tryd.func10 (by kernel_rfl) rfl #[.int .i64 6, .int .i64 (wrap64 (1 + (Int.tmod (wrap64 (a0)) 12))), .slice A1 l1.length c1] rfl (by (try simp only [List.map_toArray, List.map_cons, List.map_nil]); first | done | rfl | (simp only [List.length_drop, List.length_take]; rfl)) ?_; (with_reducible refine (layout_Unpack.calls kj2 6 (wrap64 (1 + (Int.tmod (wrap64 (a0)) 12))) _ _ l1 t267 t268 _ ?side1 ?side2 (tab_below HTab_.out (by repeat (first | (with_reducible first | exact HB.out | apply below_alloc | apply pw_below_drewN | apply below_drew1 | (refine below_set ?_ ?_; rotate_left; · assumption)) | exact HB.out))) A13.out).mono ?_); (case side1 => repeat (first | exact (Kd.C_below HR1.out HB.out) | (with_reducible refine Kd.C_alloc ?_ _) | (with_reducible refine Kd.C_drewN ?_ _) | (with_reducible refine Kd.C_drew ?_))); (case side2 => exact HC1.out); rintro e w18 ⟨v269, rfl, ho0, hb⟩; refine ⟨_, rfl, ?_⟩; have n0_ := Aside0.mk (Kd.R_elder' (by (with_reducible repeat (first | apply Kd.R_alloc | apply Kd.R_drewN | apply Kd.R_drew)); exact HO258.out) (Kd.R_base ho0) hb); have n1_ := Aside0.mk (Kd.R_elder' (by (with_reducible repeat (first | apply Kd.R_alloc | apply Kd.R_drewN | apply Kd.R_drew)); exact HO262.out) (Kd.R_base ho0) hb); have n2_ := Aside0.mk (Kd.R_elder' (by (with_reducible repeat (first | apply Kd.R_alloc | apply Kd.R_drewN | apply Kd.R_drew)); exact HO266.out) (Kd.R_base ho0) hb); have n3_ := Aside0.mk (Kd.R_lower (Kd.R_new' (Kd.R_new' (Kd.R_new' ho0 (Kd.R_lt (by (with_reducible repeat (first | apply Kd.R_alloc | apply Kd.R_drewN | apply Kd.R_drew)); exact HO258.out))) (Kd.R_lt (by (with_reducible repeat (first | apply Kd.R_alloc | apply Kd.R_drewN | apply Kd.R_drew)); exact HO262.out))) (Kd.R_lt (by (with_reducible repeat (first | apply Kd.R_alloc | apply Kd.R_drewN | apply Kd.R_drew)); exact HO266.out))) (below_size (by repeat (first | (with_reducible first | exact HB.out | apply below_alloc | apply pw_below_drewN | apply below_drew1) | exact HB.out)))); have n4_ := Aside0.mk (below_step (by repeat (first | (with_reducible first | exact HB.out | apply below_alloc | apply pw_below_drewN | apply below_drew1) | exact HB.out)) hb); clear HO258; clear HO262; clear HO266; clear HB; have HO258 := n0_; have HO262 := n1_; have HO266 := n2_; have HO270 := n3_; have HB := n4_; clear n0_ n1_ n2_ n3_ n4_; (try clear hb); (try clear hb2); (try clear hk); (try clear hi); (try clear ho0)))
    (try simp only [Act.put, List.setIfInBounds_toArray, List.set_cons_zero, List.set_cons_succ])
    go_cut [95] (fun v95 wc => ∃ (kq : Nat) (x95_13 : Bool), v95 = .bool x95_13 ∧ Aside0 (entrepotlaw07_LayoutTurned.j1 kq l1 (wrap64 (1 + (Int.tmod (wrap64 (a0)) 12))) t255 t256 x95_13 = some r) ∧ Aside0 (kq ≤ kj2) ∧ Aside0 (Kd.R (Kd.int .i64) 3 wc w.heap.size (fun _ => True) v257 t255) ∧ Aside0 (Below w.heap.size w wc))
    case first =>
     have H := HC14.out
     clear HC14
     by_cases c19 : t256 = t260
     ·rw [if_pos c19] at H
      have c19b0 : (t256 == t260) = true := beq_iff_eq.mpr c19
      have c19b1 : (t256 != t260) = false := bne_eq_false_iff_eq.mpr c19
      clear c19
      (first | rw [c19b0] | (simp only [i64_w, i32_w]; rw [c19b0]) | skip)
      by_cases c20 : t264 = t268
      ·rw [if_pos c20] at H
       have c20b0 : (t264 == t268) = true := beq_iff_eq.mpr c20
       have c20b1 : (t264 != t268) = false := bne_eq_false_iff_eq.mpr c20
       clear c20
       by_cases c21 : t256 = t264
       ·rw [if_pos c21] at H
        have c21b0 : (t256 == t264) = true := beq_iff_eq.mpr c21
        have c21b1 : (t256 != t264) = false := bne_eq_false_iff_eq.mpr c21
        clear c21
        replace H := Option.bind_eq_some_iff.mp H
        obtain ⟨t271, A220, H⟩ := H
        replace H : (if t271 = true then ((entrepotref07_Ints.f kj2 t263 t267).bind fun t272 => (if t272 = true then (entrepotlaw07_LayoutTurned.j1 kj2 l1 (wrap64 (1 + (Int.tmod (wrap64 (a0)) 12))) t255 t256 ((t256 == 0) != ((l1.length : Int) == (wrap64 (Int.tdiv (wrap64 ((wrap64 (1 + (Int.tmod (wrap64 (a0)) 12))) * (wrap64 ((wrap64 (1 + (Int.tmod (wrap64 (a0)) 12))) - 1)))) 2))))) else (entrepotlaw07_LayoutTurned.j1 kj2 l1 (wrap64 (1 + (Int.tmod (wrap64 (a0)) 12))) t255 t256 true))) else (entrepotlaw07_LayoutTurned.j1 kj2 l1 (wrap64 (1 + (Int.tmod (wrap64 (a0)) 12))) t255 t256 true)) = some r := H
        have A22 := Aside0.mk A220
        clear A220
        by_cases c23 : t271 = true
        ·subst c23
         have H1 : ((entrepotref07_Ints.f kj2 t263 t267).bind fun t272 => (if t272 = true then (entrepotlaw07_LayoutTurned.j1 kj2 l1 (wrap64 (1 + (Int.tmod (wrap64 (a0)) 12))) t255 t256 ((t256 == 0) != ((l1.length : Int) == (wrap64 (Int.tdiv (wrap64 ((wrap64 (1 + (Int.tmod (wrap64 (a0)) 12))) * (wrap64 ((wrap64 (1 + (Int.tmod (wrap64 (a0)) 12))) - 1)))) 2))))) else (entrepotlaw07_LayoutTurned.j1 kj2 l1 (wrap64 (1 + (Int.tmod (wrap64 (a0)) 12))) t255 t256 true))) = some r := by rw [if_pos rfl] at H; exact H
         clear H
         have H := H1
         clear H1
         replace H := Option.bind_eq_some_iff.mp H
         obtain ⟨t272, A240, H⟩ := H
         replace H : (if t272 = true then (entrepotlaw07_LayoutTurned.j1 kj2 l1 (wrap64 (1 + (Int.tmod (wrap64 (a0)) 12))) t255 t256 ((t256 == 0) != ((l1.length : Int) == (wrap64 (Int.tdiv (wrap64 ((wrap64 (1 + (Int.tmod (wrap64 (a0)) 12))) * (wrap64 ((wrap64 (1 + (Int.tmod (wrap64 (a0)) 12))) - 1)))) 2))))) else (entrepotlaw07_LayoutTurned.j1 kj2 l1 (wrap64 (1 + (Int.tmod (wrap64 (a0)) 12))) t255 t256 true)) = some r := H
         have A24 := Aside0.mk A240
         clear A240
         by_cases c25 : t272 = true
         ·subst c25
          have H1 : (entrepotlaw07_LayoutTurned.j1 kj2 l1 (wrap64 (1 + (Int.tmod (wrap64 (a0)) 12))) t255 t256 ((t256 == 0) != ((l1.length : Int) == (wrap64 (Int.tdiv (wrap64 ((wrap64 (1 + (Int.tmod (wrap64 (a0)) 12))) * (wrap64 ((wrap64 (1 + (Int.tmod (wrap64 (a0)) 12))) - 1)))) 2))))) = some r := by rw [if_pos rfl] at H; exact H
          clear H
          have H := H1
          clear H1
          have H' := Aside0.mk H
          clear H
          obtain ⟨Ao26, co26, eo26⟩ := Kd.R_slice HO258.out
          subst eo26
          obtain ⟨Ao27, co27, eo27⟩ := Kd.R_slice HO262.out
          subst eo27
          go_wp2_with (first | (go_at_call 12; (with_reducible refine (entrepotref07_Ints.calls kj2 _ _ t255 _ _ t259 true _ ?side1 ?side2 ?side3 ?side4 A22.out).mono ?_); (case side1 => repeat (first | exact (Kd.R_reads' HO258.out).2.2 | (with_reducible refine Kd.C_alloc ?_ _) | (with_reducible refine Kd.C_drewN ?_ _) | (with_reducible refine Kd.C_drew ?_))); (case side2 => exact (Kd.R_reads' HO258.out).2.1); (case side3 => repeat (first | exact (Kd.R_reads' HO262.out).2.2 | (with_reducible refine Kd.C_alloc ?_ _) | (with_reducible refine Kd.C_drewN ?_ _) | (with_reducible refine Kd.C_drew ?_))); (case side4 => exact (Kd.R_reads' HO262.out).2.1); rintro e w' ⟨rfl, ⟨nd, rfl⟩⟩; obtain ⟨Ao28, co28, eo28⟩ := Kd.R_slice HO266.out; subst eo28; obtain ⟨Ao29, co29, eo29⟩ := Kd.R_slice HO270.out; subst eo29) | (go_at_call 12; (with_reducible refine (entrepotref07_Ints.calls kj2 _ _ t263 _ _ t267 true _ ?side1 ?side2 ?side3 ?side4 A24.out).mono ?_); (case side1 => repeat (first | exact (Kd.R_reads' HO266.out).2.2 | (with_reducible refine Kd.C_alloc ?_ _) | (with_reducible refine Kd.C_drewN ?_ _) | (with_reducible refine Kd.C_drew ?_))); (case side2 => exact (Kd.R_reads' HO266.out).2.1); (case side3 => repeat (first | exact (Kd.R_reads' HO270.out).2.2 | (with_reducible refine Kd.C_alloc ?_ _) | (with_reducible refine Kd.C_drewN ?_ _) | (with_reducible refine Kd.C_drew ?_))); (case side4 => exact (Kd.R_reads' HO270.out).2.1); rintro e w' ⟨rfl, ⟨nd, rfl⟩⟩))
          go_meet
          case rel => exact ⟨_, (((t256 == 0) != ((l1.length : Int) == (wrap64 (Int.tdiv (wrap64 ((wrap64 (1 + (Int.tmod (wrap64 (a0)) 12))) * (wrap64 ((wrap64 (1 + (Int.tmod (wrap64 (a0)) 12))) - 1)))) 2))))), (by first | rfl | (simp; done) | (simp [*]; done)), H', ⟨by have := HJ2.out; first | omega | exact Nat.le_refl _⟩, ⟨by (with_reducible repeat (first | apply Kd.R_alloc | apply Kd.R_drewN | apply Kd.R_drew)); exact Kd.R_mono HO258.out (fun _ hk => trivial)⟩, ⟨by repeat (first | (with_reducible first | exact HB.out | apply below_alloc | apply pw_below_drewN | apply below_drew1) | exact HB.out)⟩⟩
         ·replace c25 := Bool.eq_false_iff.mpr c25
          subst c25
          have H1 : (entrepotlaw07_LayoutTurned.j1 kj2 l1 (wrap64 (1 + (Int.tmod (wrap64 (a0)) 12))) t255 t256 true) = some r := by rw [if_neg (show ¬ (false = true) by decide)] at H; exact H
          clear H
          have H := H1
          clear H1
          have H' := Aside0.mk H
          clear H
          obtain ⟨Ao30, co30, eo30⟩ := Kd.R_slice HO258.out
          subst eo30
          obtain ⟨Ao31, co31, eo31⟩ := Kd.R_slice HO262.out
          subst eo31
          go_wp2_with (first | (go_at_call 12; (with_reducible refine (entrepotref07_Ints.calls kj2 _ _ t255 _ _ t259 true _ ?side1 ?side2 ?side3 ?side4 A22.out).mono ?_); (case side1 => repeat (first | exact (Kd.R_reads' HO258.out).2.2 | (with_reducible refine Kd.C_alloc ?_ _) | (with_reducible refine Kd.C_drewN ?_ _) | (with_reducible refine Kd.C_drew ?_))); (case side2 => exact (Kd.R_reads' HO258.out).2.1); (case side3 => repeat (first | exact (Kd.R_reads' HO262.out).2.2 | (with_reducible refine Kd.C_alloc ?_ _) | (with_reducible refine Kd.C_drewN ?_ _) | (with_reducible refine Kd.C_drew ?_))); (case side4 => exact (Kd.R_reads' HO262.out).2.1); rintro e w' ⟨rfl, ⟨nd, rfl⟩⟩; obtain ⟨Ao32, co32, eo32⟩ := Kd.R_slice HO266.out; subst eo32; obtain ⟨Ao33, co33, eo33⟩ := Kd.R_slice HO270.out; subst eo33) | (go_at_call 12; (with_reducible refine (entrepotref07_Ints.calls kj2 _ _ t263 _ _ t267 false _ ?side1 ?side2 ?side3 ?side4 A24.out).mono ?_); (case side1 => repeat (first | exact (Kd.R_reads' HO266.out).2.2 | (with_reducible refine Kd.C_alloc ?_ _) | (with_reducible refine Kd.C_drewN ?_ _) | (with_reducible refine Kd.C_drew ?_))); (case side2 => exact (Kd.R_reads' HO266.out).2.1); (case side3 => repeat (first | exact (Kd.R_reads' HO270.out).2.2 | (with_reducible refine Kd.C_alloc ?_ _) | (with_reducible refine Kd.C_drewN ?_ _) | (with_reducible refine Kd.C_drew ?_))); (case side4 => exact (Kd.R_reads' HO270.out).2.1); rintro e w' ⟨rfl, ⟨nd, rfl⟩⟩))
          go_meet
          case rel => exact ⟨_, (true), (by first | rfl | (simp; done) | (simp [*]; done)), H', ⟨by have := HJ2.out; first | omega | exact Nat.le_refl _⟩, ⟨by (with_reducible repeat (first | apply Kd.R_alloc | apply Kd.R_drewN | apply Kd.R_drew)); exact Kd.R_mono HO258.out (fun _ hk => trivial)⟩, ⟨by repeat (first | (with_reducible first | exact HB.out | apply below_alloc | apply pw_below_drewN | apply below_drew1) | exact HB.out)⟩⟩
        ·replace c23 := Bool.eq_false_iff.mpr c23
         subst c23
         have H1 : (entrepotlaw07_LayoutTurned.j1 kj2 l1 (wrap64 (1 + (Int.tmod (wrap64 (a0)) 12))) t255 t256 true) = some r := by rw [if_neg (show ¬ (false = true) by decide)] at H; exact H
         clear H
         have H := H1
         clear H1
         have H' := Aside0.mk H
         clear H
         obtain ⟨Ao34, co34, eo34⟩ := Kd.R_slice HO258.out
         subst eo34
         obtain ⟨Ao35, co35, eo35⟩ := Kd.R_slice HO262.out
         subst eo35
         go_wp2_with (first | (go_at_call 12; (with_reducible refine (entrepotref07_Ints.calls kj2 _ _ t255 _ _ t259 false _ ?side1 ?side2 ?side3 ?side4 A22.out).mono ?_); (case side1 => repeat (first | exact (Kd.R_reads' HO258.out).2.2 | (with_reducible refine Kd.C_alloc ?_ _) | (with_reducible refine Kd.C_drewN ?_ _) | (with_reducible refine Kd.C_drew ?_))); (case side2 => exact (Kd.R_reads' HO258.out).2.1); (case side3 => repeat (first | exact (Kd.R_reads' HO262.out).2.2 | (with_reducible refine Kd.C_alloc ?_ _) | (with_reducible refine Kd.C_drewN ?_ _) | (with_reducible refine Kd.C_drew ?_))); (case side4 => exact (Kd.R_reads' HO262.out).2.1); rintro e w' ⟨rfl, ⟨nd, rfl⟩⟩))
         go_meet
         case rel => exact ⟨_, (true), (by first | rfl | (simp; done) | (simp [*]; done)), H', ⟨by have := HJ2.out; first | omega | exact Nat.le_refl _⟩, ⟨by (with_reducible repeat (first | apply Kd.R_alloc | apply Kd.R_drewN | apply Kd.R_drew)); exact Kd.R_mono HO258.out (fun _ hk => trivial)⟩, ⟨by repeat (first | (with_reducible first | exact HB.out | apply below_alloc | apply pw_below_drewN | apply below_drew1) | exact HB.out)⟩⟩
       ·rw [if_neg c21] at H
        have c21b0 : (t256 == t264) = false := beq_eq_false_iff_ne.mpr c21
        have c21b1 : (t256 != t264) = true := bne_iff_ne.mpr c21
        have H' := Aside0.mk H
        clear H
        go_wp2
        go_meet
        case rel => exact ⟨_, (true), (by first | rfl | (simp; done) | (simp [*]; done)), H', ⟨by have := HJ2.out; first | omega | exact Nat.le_refl _⟩, ⟨by (with_reducible repeat (first | apply Kd.R_alloc | apply Kd.R_drewN | apply Kd.R_drew)); exact Kd.R_mono HO258.out (fun _ hk => trivial)⟩, ⟨by repeat (first | (with_reducible first | exact HB.out | apply below_alloc | apply pw_below_drewN | apply below_drew1) | exact HB.out)⟩⟩
      ·rw [if_neg c20] at H
       have c20b0 : (t264 == t268) = false := beq_eq_false_iff_ne.mpr c20
       have c20b1 : (t264 != t268) = true := bne_iff_ne.mpr c20
       have H' := Aside0.mk H
       clear H
       go_wp2
       go_meet
       case rel => exact ⟨_, (true), (by first | rfl | (simp; done) | (simp [*]; done)), H', ⟨by have := HJ2.out; first | omega | exact Nat.le_refl _⟩, ⟨by (with_reducible repeat (first | apply Kd.R_alloc | apply Kd.R_drewN | apply Kd.R_drew)); exact Kd.R_mono HO258.out (fun _ hk => trivial)⟩, ⟨by repeat (first | (with_reducible first | exact HB.out | apply below_alloc | apply pw_below_drewN | apply below_drew1) | exact HB.out)⟩⟩
     ·rw [if_neg c19] at H
      have c19b0 : (t256 == t260) = false := beq_eq_false_iff_ne.mpr c19
      have c19b1 : (t256 != t260) = true := bne_iff_ne.mpr c19
      (first | rw [c19b0] | (simp only [i64_w, i32_w]; rw [c19b0]) | skip)
      have H' := Aside0.mk H
      clear H
      go_wp2
      go_meet
      case rel => exact ⟨_, (true), (by first | rfl | (simp; done) | (simp [*]; done)), H', ⟨by have := HJ2.out; first | omega | exact Nat.le_refl _⟩, ⟨by (with_reducible repeat (first | apply Kd.R_alloc | apply Kd.R_drewN | apply Kd.R_drew)); exact Kd.R_mono HO258.out (fun _ hk => trivial)⟩, ⟨by repeat (first | (with_reducible first | exact HB.out | apply below_alloc | apply pw_below_drewN | apply below_drew1) | exact HB.out)⟩⟩
    case rest =>
     clear HC14
     (try clear c1); (try clear c7)
     obtain ⟨kq, x95_13, rfl, HA, HJ13, HO_6, HB⟩ := hcut
     cases kq with
     | zero => exact absurd HA.out (by simp [entrepotlaw07_LayoutTurned.j1])
     | succ kj13 =>
      have H := HA.out
      clear HA
      simp only [entrepotlaw07_LayoutTurned.j1] at H
      by_cases c36 : x95_13 = true
      ·subst c36
       have H1 : (some false) = some r := by rw [if_pos rfl] at H; exact H
       clear H
       have H := H1
       clear H1
       exact absurd ((Option.some.inj H).trans hr_.out) (by decide)
      ·replace c36 := Bool.eq_false_iff.mpr c36
       subst c36
       have H1 : (if t256 = 0 then ((layout_Pack.f 4 (wrap64 (1 + (Int.tmod (wrap64 (a0)) 12))) t255).bind fun bt273 => ((layout_Pack.f 3 (wrap64 (1 + (Int.tmod (wrap64 (a0)) 12))) t255).bind fun bt277 => ((layout_Unpack.f kj13 4 (wrap64 (1 + (Int.tmod (wrap64 (a0)) 12))) bt273.1).bind fun bt281 => ((layout_Unpack.f kj13 6 (wrap64 (1 + (Int.tmod (wrap64 (a0)) 12))) bt277.1).bind fun bt285 => (if bt273.2 = 0 then (if bt277.2 = 0 then (if bt281.2 = 0 then (if bt285.2 = 0 then (if (bt273.1.length : Int) = (wrap64 ((l1.length : Int) + (wrap64 (1 + (Int.tmod (wrap64 (a0)) 12))))) then ((entrepotref07_Ints.f kj13 bt281.1 t255).bind fun t289 => (if t289 = true then ((entrepotref07_Ints.f kj13 bt285.1 t255).bind fun t290 => (some t290)) else (some false))) else (some false)) else (some false)) else (some false)) else (some false)) else (some false)))))) else (some (t256 == 70))) = some r := by rw [if_neg (show ¬ (false = true) by decide)] at H; exact H
       clear H
       have H := H1
       clear H1
       by_cases c37 : t256 = 0
       ·rw [if_pos c37] at H
        have c37b0 : (t256 == 0) = true := beq_iff_eq.mpr c37
        have c37b1 : (t256 != 0) = false := bne_eq_false_iff_eq.mpr c37
        clear c37
        replace H := Option.bind_eq_some_iff.mp H
        obtain ⟨⟨t273, t274⟩, A380, H⟩ := H
        replace H : ((layout_Pack.f 3 (wrap64 (1 + (Int.tmod (wrap64 (a0)) 12))) t255).bind fun bt277 => ((layout_Unpack.f kj13 4 (wrap64 (1 + (Int.tmod (wrap64 (a0)) 12))) t273).bind fun bt281 => ((layout_Unpack.f kj13 6 (wrap64 (1 + (Int.tmod (wrap64 (a0)) 12))) bt277.1).bind fun bt285 => (if t274 = 0 then (if bt277.2 = 0 then (if bt281.2 = 0 then (if bt285.2 = 0 then (if (t273.length : Int) = (wrap64 ((l1.length : Int) + (wrap64 (1 + (Int.tmod (wrap64 (a0)) 12))))) then ((entrepotref07_Ints.f kj13 bt281.1 t255).bind fun t289 => (if t289 = true then ((entrepotref07_Ints.f kj13 bt285.1 t255).bind fun t290 => (some t290)) else (some false))) else (some false)) else (some false)) else (some false)) else (some false)) else (some false))))) = some r := H
        have A38 := Aside0.mk A380
        clear A380
        replace H := Option.bind_eq_some_iff.mp H
        obtain ⟨⟨t277, t278⟩, A390, H⟩ := H
        replace H : ((layout_Unpack.f kj13 4 (wrap64 (1 + (Int.tmod (wrap64 (a0)) 12))) t273).bind fun bt281 => ((layout_Unpack.f kj13 6 (wrap64 (1 + (Int.tmod (wrap64 (a0)) 12))) t277).bind fun bt285 => (if t274 = 0 then (if t278 = 0 then (if bt281.2 = 0 then (if bt285.2 = 0 then (if (t273.length : Int) = (wrap64 ((l1.length : Int) + (wrap64 (1 + (Int.tmod (wrap64 (a0)) 12))))) then ((entrepotref07_Ints.f kj13 bt281.1 t255).bind fun t289 => (if t289 = true then ((entrepotref07_Ints.f kj13 bt285.1 t255).bind fun t290 => (some t290)) else (some false))) else (some false)) else (some false)) else (some false)) else (some false)) else (some false)))) = some r := H
        have A39 := Aside0.mk A390
        clear A390
        replace H := Option.bind_eq_some_iff.mp H
        obtain ⟨⟨t281, t282⟩, A400, H⟩ := H
        replace H : ((layout_Unpack.f kj13 6 (wrap64 (1 + (Int.tmod (wrap64 (a0)) 12))) t277).bind fun bt285 => (if t274 = 0 then (if t278 = 0 then (if t282 = 0 then (if bt285.2 = 0 then (if (t273.length : Int) = (wrap64 ((l1.length : Int) + (wrap64 (1 + (Int.tmod (wrap64 (a0)) 12))))) then ((entrepotref07_Ints.f kj13 t281 t255).bind fun t289 => (if t289 = true then ((entrepotref07_Ints.f kj13 bt285.1 t255).bind fun t290 => (some t290)) else (some false))) else (some false)) else (some false)) else (some false)) else (some false)) else (some false))) = some r := H
        have A40 := Aside0.mk A400
        clear A400
        replace H := Option.bind_eq_some_iff.mp H
        obtain ⟨⟨t285, t286⟩, A410, H⟩ := H
        replace H : (if t274 = 0 then (if t278 = 0 then (if t282 = 0 then (if t286 = 0 then (if (t273.length : Int) = (wrap64 ((l1.length : Int) + (wrap64 (1 + (Int.tmod (wrap64 (a0)) 12))))) then ((entrepotref07_Ints.f kj13 t281 t255).bind fun t289 => (if t289 = true then ((entrepotref07_Ints.f kj13 t285 t255).bind fun t290 => (some t290)) else (some false))) else (some false)) else (some false)) else (some false)) else (some false)) else (some false)) = some r := H
        have A41 := Aside0.mk A410
        clear A410
        by_cases c42 : t274 = 0
        ·rw [if_pos c42] at H
         have c42b0 : (t274 == 0) = true := beq_iff_eq.mpr c42
         have c42b1 : (t274 != 0) = false := bne_eq_false_iff_eq.mpr c42
         clear c42
         by_cases c43 : t278 = 0
         ·rw [if_pos c43] at H
          have c43b0 : (t278 == 0) = true := beq_iff_eq.mpr c43
          have c43b1 : (t278 != 0) = false := bne_eq_false_iff_eq.mpr c43
          clear c43
          by_cases c44 : t282 = 0
          ·rw [if_pos c44] at H
           have c44b0 : (t282 == 0) = true := beq_iff_eq.mpr c44
           have c44b1 : (t282 != 0) = false := bne_eq_false_iff_eq.mpr c44
           clear c44
           by_cases c45 : t286 = 0
           ·rw [if_pos c45] at H
            have c45b0 : (t286 == 0) = true := beq_iff_eq.mpr c45
            have c45b1 : (t286 != 0) = false := bne_eq_false_iff_eq.mpr c45
            clear c45
            by_cases c46 : (t273.length : Int) = (wrap64 ((l1.length : Int) + (wrap64 (1 + (Int.tmod (wrap64 (a0)) 12)))))
            ·rw [if_pos c46] at H
             have c46b0 : ((t273.length : Int) == (wrap64 ((l1.length : Int) + (wrap64 (1 + (Int.tmod (wrap64 (a0)) 12)))))) = true := beq_iff_eq.mpr c46
             have c46b1 : ((t273.length : Int) != (wrap64 ((l1.length : Int) + (wrap64 (1 + (Int.tmod (wrap64 (a0)) 12)))))) = false := bne_eq_false_iff_eq.mpr c46
             clear c46
             replace H := Option.bind_eq_some_iff.mp H
             obtain ⟨t289, A470, H⟩ := H
             replace H : (if t289 = true then ((entrepotref07_Ints.f kj13 t285 t255).bind fun t290 => (some t290)) else (some false)) = some r := H
             have A47 := Aside0.mk A470
             clear A470
             by_cases c48 : t289 = true
             ·subst c48
              have H1 : ((entrepotref07_Ints.f kj13 t285 t255).bind fun t290 => (some t290)) = some r := by rw [if_pos rfl] at H; exact H
              clear H
              have H := H1
              clear H1
              replace H := Option.bind_eq_some_iff.mp H
              obtain ⟨t290, A490, H⟩ := H
              replace H : (some t290) = some r := H
              have A49 := Aside0.mk A490
              clear A490
              obtain rfl := Option.some.inj H
              obtain ⟨Ao50, co50, eo50⟩ := Kd.R_slice HO_6.out
              subst eo50
              go_wp2_with (first | ((with_reducible refine gate_callee (f := 13) rfl ?_); refine goesL_ (some 103) rfl rfl Tryd.func13 (by kernel_rfl) rfl #[.int .i64 4, .int .i64 (wrap64 (1 + (Int.tmod (wrap64 (a0)) 12))), .slice Ao50 t255.length co50] rfl (by (try simp only [List.map_toArray, List.map_cons, List.map_nil]); first | done | rfl | (simp only [List.length_drop, List.length_take]; rfl)) ?_; (with_reducible refine (layout_Pack.calls 4 (wrap64 (1 + (Int.tmod (wrap64 (a0)) 12))) _ _ t255 t273 t274 _ ?side1 ?side2 (tab_below HTab_.out (by repeat (first | (with_reducible first | exact HB.out | apply below_alloc | apply pw_below_drewN | apply below_drew1 | (refine below_set ?_ ?_; rotate_left; · assumption)) | exact HB.out))) A38.out).mono ?_); (case side1 => repeat (first | exact (Kd.R_reads' HO_6.out).2.2 | (with_reducible refine Kd.C_alloc ?_ _) | (with_reducible refine Kd.C_drewN ?_ _) | (with_reducible refine Kd.C_drew ?_))); (case side2 => exact (Kd.R_reads' HO_6.out).2.1); rintro e w51 ⟨v275, rfl, ho0, hb⟩; refine ⟨_, rfl, ?_⟩; have n0_ := Aside0.mk (Kd.R_elder' (by (with_reducible repeat (first | apply Kd.R_alloc | apply Kd.R_drewN | apply Kd.R_drew)); exact HO_6.out) (Kd.R_base ho0) hb); have n1_ := Aside0.mk (Kd.R_lower (Kd.R_new' ho0 (Kd.R_lt (by (with_reducible repeat (first | apply Kd.R_alloc | apply Kd.R_drewN | apply Kd.R_drew)); exact HO_6.out))) (below_size (by repeat (first | (with_reducible first | exact HB.out | apply below_alloc | apply pw_below_drewN | apply below_drew1) | exact HB.out)))); have n2_ := Aside0.mk (below_step (by repeat (first | (with_reducible first | exact HB.out | apply below_alloc | apply pw_below_drewN | apply below_drew1) | exact HB.out)) hb); clear HO_6; clear HB; have HO_6 := n0_; have HO276 := n1_; have HB := n2_; clear n0_ n1_ n2_; (try clear hb); (try clear hb2); (try clear hk); (try clear hi); (try clear ho0)) | ((with_reducible refine gate_callee (f := 13) rfl ?_); refine goesL_ (some 109) rfl rfl Tryd.func13 (by kernel_rfl) rfl #[.int .i64 3, .int .i64 (wrap64 (1 + (Int.tmod (wrap64 (a0)) 12))), .slice Ao50 t255.length co50] rfl (by (try simp only [List.map_toArray, List.map_cons, List.map_nil]); first | done | rfl | (simp only [List.length_drop, List.length_take]; rfl)) ?_; (with_reducible refine (layout_Pack.calls 3 (wrap64 (1 + (Int.tmod (wrap64 (a0)) 12))) _ _ t255 t277 t278 _ ?side1 ?side2 (tab_below HTab_.out (by repeat (first | (with_reducible first | exact HB.out | apply below_alloc | apply pw_below_drewN | apply below_drew1 | (refine below_set ?_ ?_; rotate_left; · assumption)) | exact HB.out))) A39.out).mono ?_); (case side1 => repeat (first | exact (Kd.R_reads' HO_6.out).2.2 | (with_reducible refine Kd.C_alloc ?_ _) | (with_reducible refine Kd.C_drewN ?_ _) | (with_reducible refine Kd.C_drew ?_))); (case side2 => exact (Kd.R_reads' HO_6.out).2.1); rintro e w52 ⟨v279, rfl, ho0, hb⟩; refine ⟨_, rfl, ?_⟩; have n0_ := Aside0.mk (Kd.R_elder' (by (with_reducible repeat (first | apply Kd.R_alloc | apply Kd.R_drewN | apply Kd.R_drew)); exact HO_6.out) (Kd.R_base ho0) hb); have n1_ := Aside0.mk (Kd.R_elder' (by (with_reducible repeat (first | apply Kd.R_alloc | apply Kd.R_drewN | apply Kd.R_drew)); exact HO276.out) (Kd.R_base ho0) hb); have n2_ := Aside0.mk (Kd.R_lower (Kd.R_new' (Kd.R_new' ho0 (Kd.R_lt (by (with_reducible repeat (first | apply Kd.R_alloc | apply Kd.R_drewN | apply Kd.R_drew)); exact HO_6.out))) (Kd.R_lt (by (with_reducible repeat (first | apply Kd.R_alloc | apply Kd.R_drewN | apply Kd.R_drew)); exact HO276.out))) (below_size (by repeat (first | (with_reducible first | exact HB.out | apply below_alloc | apply pw_below_drewN | apply below_drew1) | exact HB.out)))); have n3_ := Aside0.mk (below_step (by repeat (first | (with_reducible first | exact HB.out | apply below_alloc | apply pw_below_drewN | apply below_drew1) | exact HB.out)) hb); clear HO_6; clear HO276; clear HB; have HO_6 := n0_; have HO276 := n1_; have HO280 := n2_; have HB := n3_; clear n0_ n1_ n2_ n3_; (try clear hb); (try clear hb2); (try clear hk); (try clear hi); (try clear ho0); obtain ⟨Ao53, co53, eo53⟩ := Kd.R_slice HO276.out; subst eo53) | ((with_reducible refine gate_callee (f := 10) rfl ?_); refine goesL_ (some 115) rfl rfl Tryd.func10 (by kernel_rfl) rfl #[.int .i64 4, .int .i64 (wrap64 (1 + (Int.tmod (wrap64 (a0)) 12))), .slice Ao53 t273.length co53] rfl (by (try simp only [List.map_toArray, List.map_cons, List.map_nil]); first | done | rfl | (simp only [List.length_drop, List.length_take]; rfl)) ?_; (with_reducible refine (layout_Unpack.calls kj13 4 (wrap64 (1 + (Int.tmod (wrap64 (a0)) 12))) _ _ t273 t281 t282 _ ?side1 ?side2 (tab_below HTab_.out (by repeat (first | (with_reducible first | exact HB.out | apply below_alloc | apply pw_below_drewN | apply below_drew1 | (refine below_set ?_ ?_; rotate_left; · assumption)) | exact HB.out))) A40.out).mono ?_); (case side1 => repeat (first | exact (Kd.R_reads' HO276.out).2.2 | (with_reducible refine Kd.C_alloc ?_ _) | (with_reducible refine Kd.C_drewN ?_ _) | (with_reducible refine Kd.C_drew ?_))); (case side2 => exact (Kd.R_reads' HO276.out).2.1); rintro e w54 ⟨v283, rfl, ho0, hb⟩; refine ⟨_, rfl, ?_⟩; have n0_ := Aside0.mk (Kd.R_elder' (by (with_reducible repeat (first | apply Kd.R_alloc | apply Kd.R_drewN | apply Kd.R_drew)); exact HO_6.out) (Kd.R_base ho0) hb); have n1_ := Aside0.mk (Kd.R_elder' (by (with_reducible repeat (first | apply Kd.R_alloc | apply Kd.R_drewN | apply Kd.R_drew)); exact HO276.out) (Kd.R_base ho0) hb); have n2_ := Aside0.mk (Kd.R_elder' (by (with_reducible repeat (first | apply Kd.R_alloc | apply Kd.R_drewN | apply Kd.R_drew)); exact HO280.out) (Kd.R_base ho0) hb); have n3_ := Aside0.mk (Kd.R_lower (Kd.R_new' (Kd.R_new' (Kd.R_new' ho0 (Kd.R_lt (by (with_reducible repeat (first | apply Kd.R_alloc | apply Kd.R_drewN | apply Kd.R_drew)); exact HO_6.out))) (Kd.R_lt (by (with_reducible repeat (first | apply Kd.R_alloc | apply Kd.R_drewN | apply Kd.R_drew)); exact HO276.out))) (Kd.R_lt (by (with_reducible repeat (first | apply Kd.R_alloc | apply Kd.R_drewN | apply Kd.R_drew)); exact HO280.out))) (below_size (by repeat (first | (with_reducible first | exact HB.out | apply below_alloc | apply pw_below_drewN | apply below_drew1) | exact HB.out)))); have n4_ := Aside0.mk (below_step (by repeat (first | (with_reducible first | exact HB.out | apply below_alloc | apply pw_below_drewN | apply below_drew1) | exact HB.out)) hb); clear HO_6; clear HO276; clear HO280; clear HB; have HO_6 := n0_; have HO276 := n1_; have HO280 := n2_; have HO284 := n3_; have HB := n4_; clear n0_ n1_ n2_ n3_ n4_; (try clear hb); (try clear hb2); (try clear hk); (try clear hi); (try clear ho0); obtain ⟨Ao55, co55, eo55⟩ := Kd.R_slice HO280.out; subst eo55) | ((with_reducible refine gate_callee (f := 10) rfl ?_); refine goesL_ (some 121) rfl rfl Tryd.func10 (by kernel_rfl) rfl #[.int .i64 6, .int .i64 (wrap64 (1 + (Int.tmod (wrap64 (a0)) 12))), .slice Ao55 t277.length co55] rfl (by (try simp only [List.map_toArray, List.map_cons, List.map_nil]); first | done | rfl | (simp only [List.length_drop, List.length_take]; rfl)) ?_; (with_reducible refine (layout_Unpack.calls kj13 6 (wrap64 (1 + (Int.tmod (wrap64 (a0)) 12))) _ _ t277 t285 t286 _ ?side1 ?side2 (tab_below HTab_.out (by repeat (first | (with_reducible first | exact HB.out | apply below_alloc | apply pw_below_drewN | apply below_drew1 | (refine below_set ?_ ?_; rotate_left; · assumption)) | exact HB.out))) A41.out).mono ?_); (case side1 => repeat (first | exact (Kd.R_reads' HO280.out).2.2 | (with_reducible refine Kd.C_alloc ?_ _) | (with_reducible refine Kd.C_drewN ?_ _) | (with_reducible refine Kd.C_drew ?_))); (case side2 => exact (Kd.R_reads' HO280.out).2.1); rintro e w56 ⟨v287, rfl, ho0, hb⟩; refine ⟨_, rfl, ?_⟩; have n0_ := Aside0.mk (Kd.R_elder' (by (with_reducible repeat (first | apply Kd.R_alloc | apply Kd.R_drewN | apply Kd.R_drew)); exact HO_6.out) (Kd.R_base ho0) hb); have n1_ := Aside0.mk (Kd.R_elder' (by (with_reducible repeat (first | apply Kd.R_alloc | apply Kd.R_drewN | apply Kd.R_drew)); exact HO276.out) (Kd.R_base ho0) hb); have n2_ := Aside0.mk (Kd.R_elder' (by (with_reducible repeat (first | apply Kd.R_alloc | apply Kd.R_drewN | apply Kd.R_drew)); exact HO280.out) (Kd.R_base ho0) hb); have n3_ := Aside0.mk (Kd.R_elder' (by (with_reducible repeat (first | apply Kd.R_alloc | apply Kd.R_drewN | apply Kd.R_drew)); exact HO284.out) (Kd.R_base ho0) hb); have n4_ := Aside0.mk (Kd.R_lower (Kd.R_new' (Kd.R_new' (Kd.R_new' (Kd.R_new' ho0 (Kd.R_lt (by (with_reducible repeat (first | apply Kd.R_alloc | apply Kd.R_drewN | apply Kd.R_drew)); exact HO_6.out))) (Kd.R_lt (by (with_reducible repeat (first | apply Kd.R_alloc | apply Kd.R_drewN | apply Kd.R_drew)); exact HO276.out))) (Kd.R_lt (by (with_reducible repeat (first | apply Kd.R_alloc | apply Kd.R_drewN | apply Kd.R_drew)); exact HO280.out))) (Kd.R_lt (by (with_reducible repeat (first | apply Kd.R_alloc | apply Kd.R_drewN | apply Kd.R_drew)); exact HO284.out))) (below_size (by repeat (first | (with_reducible first | exact HB.out | apply below_alloc | apply pw_below_drewN | apply below_drew1) | exact HB.out)))); have n5_ := Aside0.mk (below_step (by repeat (first | (with_reducible first | exact HB.out | apply below_alloc | apply pw_below_drewN | apply below_drew1) | exact HB.out)) hb); clear HO_6; clear HO276; clear HO280; clear HO284; clear HB; have HO_6 := n0_; have HO276 := n1_; have HO280 := n2_; have HO284 := n3_; have HO288 := n4_; have HB := n5_; clear n0_ n1_ n2_ n3_ n4_ n5_; (try clear hb); (try clear hb2); (try clear hk); (try clear hi); (try clear ho0); obtain ⟨Ao57, co57, eo57⟩ := Kd.R_slice HO284.out; subst eo57) | (go_at_call 12; (with_reducible refine (entrepotref07_Ints.calls kj13 _ _ t281 _ _ t255 true _ ?side1 ?side2 ?side3 ?side4 A47.out).mono ?_); (case side1 => repeat (first | exact (Kd.R_reads' HO284.out).2.2 | (with_reducible refine Kd.C_alloc ?_ _) | (with_reducible refine Kd.C_drewN ?_ _) | (with_reducible refine Kd.C_drew ?_))); (case side2 => exact (Kd.R_reads' HO284.out).2.1); (case side3 => repeat (first | exact (Kd.R_reads' HO_6.out).2.2 | (with_reducible refine Kd.C_alloc ?_ _) | (with_reducible refine Kd.C_drewN ?_ _) | (with_reducible refine Kd.C_drew ?_))); (case side4 => exact (Kd.R_reads' HO_6.out).2.1); rintro e w' ⟨rfl, ⟨nd, rfl⟩⟩; obtain ⟨Ao58, co58, eo58⟩ := Kd.R_slice HO288.out; subst eo58) | (go_at_call 12; (with_reducible refine (entrepotref07_Ints.calls kj13 _ _ t285 _ _ t255 t290 _ ?side1 ?side2 ?side3 ?side4 A49.out).mono ?_); (case side1 => repeat (first | exact (Kd.R_reads' HO288.out).2.2 | (with_reducible refine Kd.C_alloc ?_ _) | (with_reducible refine Kd.C_drewN ?_ _) | (with_reducible refine Kd.C_drew ?_))); (case side2 => exact (Kd.R_reads' HO288.out).2.1); (case side3 => repeat (first | exact (Kd.R_reads' HO_6.out).2.2 | (with_reducible refine Kd.C_alloc ?_ _) | (with_reducible refine Kd.C_drewN ?_ _) | (with_reducible refine Kd.C_drew ?_))); (case side4 => exact (Kd.R_reads' HO_6.out).2.1); rintro e w' ⟨rfl, ⟨nd, rfl⟩⟩))
              go_ret
              exact ⟨by first | rfl | (simp [errW_none, errW_some] <;> rfl) | (simp [*, errW_none, errW_some] <;> rfl), by repeat (first | (with_reducible first | exact HB.out | apply below_alloc | apply pw_below_drewN | apply below_drew1) | exact HB.out)⟩
             ·replace c48 := Bool.eq_false_iff.mpr c48
              subst c48
              have H1 : (some false) = some r := by rw [if_neg (show ¬ (false = true) by decide)] at H; exact H
              clear H
              have H := H1
              clear H1
              exact absurd ((Option.some.inj H).trans hr_.out) (by decide)
            ·rw [if_neg c46] at H
             have c46b0 : ((t273.length : Int) == (wrap64 ((l1.length : Int) + (wrap64 (1 + (Int.tmod (wrap64 (a0)) 12)))))) = false := beq_eq_false_iff_ne.mpr c46
             have c46b1 : ((t273.length : Int) != (wrap64 ((l1.length : Int) + (wrap64 (1 + (Int.tmod (wrap64 (a0)) 12)))))) = true := bne_iff_ne.mpr c46
             exact absurd ((Option.some.inj H).trans hr_.out) (by decide)
           ·rw [if_neg c45] at H
            have c45b0 : (t286 == 0) = false := beq_eq_false_iff_ne.mpr c45
            have c45b1 : (t286 != 0) = true := bne_iff_ne.mpr c45
            exact absurd ((Option.some.inj H).trans hr_.out) (by decide)
          ·rw [if_neg c44] at H
           have c44b0 : (t282 == 0) = false := beq_eq_false_iff_ne.mpr c44
           have c44b1 : (t282 != 0) = true := bne_iff_ne.mpr c44
           exact absurd ((Option.some.inj H).trans hr_.out) (by decide)
         ·rw [if_neg c43] at H
          have c43b0 : (t278 == 0) = false := beq_eq_false_iff_ne.mpr c43
          have c43b1 : (t278 != 0) = true := bne_iff_ne.mpr c43
          exact absurd ((Option.some.inj H).trans hr_.out) (by decide)
        ·rw [if_neg c42] at H
         have c42b0 : (t274 == 0) = false := beq_eq_false_iff_ne.mpr c42
         have c42b1 : (t274 != 0) = true := bne_iff_ne.mpr c42
         exact absurd ((Option.some.inj H).trans hr_.out) (by decide)
       ·rw [if_neg c37] at H
        have c37b0 : (t256 == 0) = false := beq_eq_false_iff_ne.mpr c37
        have c37b1 : (t256 != 0) = true := bne_iff_ne.mpr c37
        obtain rfl := Option.some.inj H
        go_wp2
        go_ret
        exact ⟨by first | rfl | (simp [errW_none, errW_some] <;> rfl) | (simp [*, errW_none, errW_some] <;> rfl), by repeat (first | (with_reducible first | exact HB.out | apply below_alloc | apply pw_below_drewN | apply below_drew1) | exact HB.out)⟩

end Go.Proofs.YtdgdhmglcpkkiaaDoor.P
