/- Written by a program of this session, after the kit's print: Lean functions for Go functions, and the proof that the machine comes to their answers. -/
import Derived.Test.YtdgdhmglcpkkiaaDoorPx0
import Derived.Test.YtdgdhmglcpkkiaaDoorMlb
import Derived.Test.YtdgdhmglcpkkiaaDoorGKeyword7
import Derived.Test.YtdgdhmglcpkkiaaDoorGLayF
namespace Go.Proofs.YtdgdhmglcpkkiaaDoor.P
open Go.RowKit Go.Proofs.YtdgdhmglcpkkiaaDoorW.PrintWords Go.Proofs.YtdgdhmglcpkkiaaDoorW.PrintLast Go.Proofs.YtdgdhmglcpkkiaaDoorW.PrintMore
attribute [local go_sem] max2_int min2_int max_two min_two max_three min_three max_four min_four   -- for this text's walks alone
set_option linter.unusedVariables false
set_option linter.unusedSimpArgs false

/-! ### entrepotlaw07_shown: function 9 -/
def entrepotlaw07_shown.f (k : Nat)  : Option (Bool) := (layout_Unpack.f k 2 3 (([4, 5, 6] : List Int))).bind fun bt122 => ((layout_Pack.f 5 3 bt122.1).bind fun bt126 => (if bt122.2 = 0 then (if (bt122.1.length : Int) = 9 then (if 1 < (bt122.1.length : Int) then (if (rd bt122.1 1) = 4 then (if 6 < (bt122.1.length : Int) then (if (rd bt122.1 6) = 5 then (if 5 < (bt122.1.length : Int) then (if (rd bt122.1 5) = 6 then (if 4 < (bt122.1.length : Int) then (if (rd bt122.1 4) = 0 then (if bt126.2 = 0 then (if (bt126.1.length : Int) = 6 then (if 1 < (bt126.1.length : Int) then (if (rd bt126.1 1) = 4 then ((layout_Index.f k 2 3 1 2).bind fun t135 => (if t135 = 2 then ((layout_Keyword.f 1).bind fun t136 => (some (t136.toList == ([70, 85, 76, 76, 95, 77, 65, 84, 82, 73, 88] : List UInt8)))) else (some false))) else (some false)) else (none)) else (some false)) else (some false)) else (some false)) else (none)) else (some false)) else (none)) else (some false)) else (none)) else (some false)) else (none)) else (some false)) else (some false)))
theorem entrepotlaw07_shown.mono : ∀ k, LeO (entrepotlaw07_shown.f k ) (entrepotlaw07_shown.f (k + 1) ) := by
 intro  k
 unfold entrepotlaw07_shown.f
 repeat' first
   | (with_reducible exact layout_Index.mono _ _ _ _ _)
   | (with_reducible exact layout_Unpack.mono _ _ _ _)
   | (with_reducible exact LeO.refl _)
   | (with_reducible exact LeO.none _)
   | (with_reducible refine LeO.ite ?_ ?_)
   | (with_reducible refine LeO.bind ?_ (fun _ => ?_))
   | exact layout_Index.mono _ _ _ _ _
   | exact layout_Unpack.mono _ _ _ _
   | exact LeO.none _
   | refine LeO.ite ?_ ?_
   | refine LeO.bind ?_ (fun _ => ?_)
set_option maxHeartbeats 8000000 in
set_option maxRecDepth 100000 in
theorem entrepotlaw07_shown.callsT (k : Nat)  (r : Bool) (w : World) (ht : Tab w) (h : entrepotlaw07_shown.f k  = some r) (hr_ : Aside0 (r = true)) :
  Calls Tryd.prog 9 #[] w fun e w' => e = .returned (.bool r) ∧ Below w.heap.size w w' := by
 have HTab_ := Aside0.mk ht
 clear ht
 have HB := Aside0.mk (Below.refl w.heap.size w)
 have H : ((layout_Unpack.f k 2 3 (([4, 5, 6] : List Int))).bind fun bt122 => ((layout_Pack.f 5 3 bt122.1).bind fun bt126 => (if bt122.2 = 0 then (if (bt122.1.length : Int) = 9 then (if 1 < (bt122.1.length : Int) then (if (rd bt122.1 1) = 4 then (if 6 < (bt122.1.length : Int) then (if (rd bt122.1 6) = 5 then (if 5 < (bt122.1.length : Int) then (if (rd bt122.1 5) = 6 then (if 4 < (bt122.1.length : Int) then (if (rd bt122.1 4) = 0 then (if bt126.2 = 0 then (if (bt126.1.length : Int) = 6 then (if 1 < (bt126.1.length : Int) then (if (rd bt126.1 1) = 4 then ((layout_Index.f k 2 3 1 2).bind fun t135 => (if t135 = 2 then ((layout_Keyword.f 1).bind fun t136 => (some (t136.toList == ([70, 85, 76, 76, 95, 77, 65, 84, 82, 73, 88] : List UInt8)))) else (some false))) else (some false)) else (none)) else (some false)) else (some false)) else (some false)) else (none)) else (some false)) else (none)) else (some false)) else (none)) else (some false)) else (none)) else (some false)) else (some false)))) = some r := h
 clear h
 obtain ⟨y119, hy119⟩ : ∃ y_ : List Int, y_ = (([4, 5, 6] : List Int)) := ⟨_, rfl⟩
 replace H : ((layout_Unpack.f k 2 3 y119).bind fun bt122 => ((layout_Pack.f 5 3 bt122.1).bind fun bt126 => (if bt122.2 = 0 then (if (bt122.1.length : Int) = 9 then (if 1 < (bt122.1.length : Int) then (if (rd bt122.1 1) = 4 then (if 6 < (bt122.1.length : Int) then (if (rd bt122.1 6) = 5 then (if 5 < (bt122.1.length : Int) then (if (rd bt122.1 5) = 6 then (if 4 < (bt122.1.length : Int) then (if (rd bt122.1 4) = 0 then (if bt126.2 = 0 then (if (bt126.1.length : Int) = 6 then (if 1 < (bt126.1.length : Int) then (if (rd bt126.1 1) = 4 then ((layout_Index.f k 2 3 1 2).bind fun t135 => (if t135 = 2 then ((layout_Keyword.f 1).bind fun t136 => (some (t136.toList == ([70, 85, 76, 76, 95, 77, 65, 84, 82, 73, 88] : List UInt8)))) else (some false))) else (some false)) else (none)) else (some false)) else (some false)) else (some false)) else (none)) else (some false)) else (none)) else (some false)) else (none)) else (some false)) else (none)) else (some false)) else (some false)))) = some r := by first | (rw [hy119]; with_reducible exact H) | (have H2_ := (Option.bind_some _ _).symm.trans H; rw [hy119]; with_reducible exact H2_) | (have H2_ := (Option.bind_some _ _).symm.trans H; with_reducible exact H2_) | with_reducible exact H | (rw [hy119]; exact H) | exact H
 have Ny119 := Aside0.mk hy119
 clear hy119
 replace H := Option.bind_eq_some_iff.mp H
 obtain ⟨⟨t122, t123⟩, A10, H⟩ := H
 replace H : ((layout_Pack.f 5 3 t122).bind fun bt126 => (if t123 = 0 then (if (t122.length : Int) = 9 then (if 1 < (t122.length : Int) then (if (rd t122 1) = 4 then (if 6 < (t122.length : Int) then (if (rd t122 6) = 5 then (if 5 < (t122.length : Int) then (if (rd t122 5) = 6 then (if 4 < (t122.length : Int) then (if (rd t122 4) = 0 then (if bt126.2 = 0 then (if (bt126.1.length : Int) = 6 then (if 1 < (bt126.1.length : Int) then (if (rd bt126.1 1) = 4 then ((layout_Index.f k 2 3 1 2).bind fun t135 => (if t135 = 2 then ((layout_Keyword.f 1).bind fun t136 => (some (t136.toList == ([70, 85, 76, 76, 95, 77, 65, 84, 82, 73, 88] : List UInt8)))) else (some false))) else (some false)) else (none)) else (some false)) else (some false)) else (some false)) else (none)) else (some false)) else (none)) else (some false)) else (none)) else (some false)) else (none)) else (some false)) else (some false))) = some r := H
 have A1 := Aside0.mk A10
 clear A10
 replace H := Option.bind_eq_some_iff.mp H
 obtain ⟨⟨t126, t127⟩, A20, H⟩ := H
 replace H : (if t123 = 0 then (if (t122.length : Int) = 9 then (if 1 < (t122.length : Int) then (if (rd t122 1) = 4 then (if 6 < (t122.length : Int) then (if (rd t122 6) = 5 then (if 5 < (t122.length : Int) then (if (rd t122 5) = 6 then (if 4 < (t122.length : Int) then (if (rd t122 4) = 0 then (if t127 = 0 then (if (t126.length : Int) = 6 then (if 1 < (t126.length : Int) then (if (rd t126 1) = 4 then ((layout_Index.f k 2 3 1 2).bind fun t135 => (if t135 = 2 then ((layout_Keyword.f 1).bind fun t136 => (some (t136.toList == ([70, 85, 76, 76, 95, 77, 65, 84, 82, 73, 88] : List UInt8)))) else (some false))) else (some false)) else (none)) else (some false)) else (some false)) else (some false)) else (none)) else (some false)) else (none)) else (some false)) else (none)) else (some false)) else (none)) else (some false)) else (some false)) = some r := H
 have A2 := Aside0.mk A20
 clear A20
 by_cases c3 : t123 = 0
 ·rw [if_pos c3] at H
  have c3b0 : (t123 == 0) = true := beq_iff_eq.mpr c3
  have c3b1 : (t123 != 0) = false := bne_eq_false_iff_eq.mpr c3
  clear c3
  by_cases c4 : (t122.length : Int) = 9
  ·rw [if_pos c4] at H
   have c4b0 : ((t122.length : Int) == 9) = true := beq_iff_eq.mpr c4
   have c4b1 : ((t122.length : Int) != 9) = false := bne_eq_false_iff_eq.mpr c4
   clear c4
   by_cases c5 : 1 < (t122.length : Int)
   ·rw [if_pos c5] at H
    have c5b0 : decide (1 < (t122.length : Int)) = true := decide_eq_true c5
    have c5b1 : decide (1 < t122.length) = true := decide_eq_true (by omega)
    clear c5
    by_cases c6 : (rd t122 1) = 4
    ·rw [if_pos c6] at H
     have c6b0 : ((rd t122 1) == 4) = true := beq_iff_eq.mpr c6
     have c6b1 : ((rd t122 1) != 4) = false := bne_eq_false_iff_eq.mpr c6
     clear c6
     by_cases c7 : 6 < (t122.length : Int)
     ·rw [if_pos c7] at H
      have c7b0 : decide (6 < (t122.length : Int)) = true := decide_eq_true c7
      have c7b1 : decide (6 < t122.length) = true := decide_eq_true (by omega)
      clear c7
      by_cases c8 : (rd t122 6) = 5
      ·rw [if_pos c8] at H
       have c8b0 : ((rd t122 6) == 5) = true := beq_iff_eq.mpr c8
       have c8b1 : ((rd t122 6) != 5) = false := bne_eq_false_iff_eq.mpr c8
       clear c8
       by_cases c9 : 5 < (t122.length : Int)
       ·rw [if_pos c9] at H
        have c9b0 : decide (5 < (t122.length : Int)) = true := decide_eq_true c9
        have c9b1 : decide (5 < t122.length) = true := decide_eq_true (by omega)
        clear c9
        by_cases c10 : (rd t122 5) = 6
        ·rw [if_pos c10] at H
         have c10b0 : ((rd t122 5) == 6) = true := beq_iff_eq.mpr c10
         have c10b1 : ((rd t122 5) != 6) = false := bne_eq_false_iff_eq.mpr c10
         clear c10
         by_cases c11 : 4 < (t122.length : Int)
         ·rw [if_pos c11] at H
          have c11b0 : decide (4 < (t122.length : Int)) = true := decide_eq_true c11
          have c11b1 : decide (4 < t122.length) = true := decide_eq_true (by omega)
          clear c11
          by_cases c12 : (rd t122 4) = 0
          ·rw [if_pos c12] at H
           have c12b0 : ((rd t122 4) == 0) = true := beq_iff_eq.mpr c12
           have c12b1 : ((rd t122 4) != 0) = false := bne_eq_false_iff_eq.mpr c12
           clear c12
           by_cases c13 : t127 = 0
           ·rw [if_pos c13] at H
            have c13b0 : (t127 == 0) = true := beq_iff_eq.mpr c13
            have c13b1 : (t127 != 0) = false := bne_eq_false_iff_eq.mpr c13
            clear c13
            by_cases c14 : (t126.length : Int) = 6
            ·rw [if_pos c14] at H
             have c14b0 : ((t126.length : Int) == 6) = true := beq_iff_eq.mpr c14
             have c14b1 : ((t126.length : Int) != 6) = false := bne_eq_false_iff_eq.mpr c14
             clear c14
             by_cases c15 : 1 < (t126.length : Int)
             ·rw [if_pos c15] at H
              have c15b0 : decide (1 < (t126.length : Int)) = true := decide_eq_true c15
              have c15b1 : decide (1 < t126.length) = true := decide_eq_true (by omega)
              clear c15
              by_cases c16 : (rd t126 1) = 4
              ·rw [if_pos c16] at H
               have c16b0 : ((rd t126 1) == 4) = true := beq_iff_eq.mpr c16
               have c16b1 : ((rd t126 1) != 4) = false := bne_eq_false_iff_eq.mpr c16
               clear c16
               replace H := Option.bind_eq_some_iff.mp H
               obtain ⟨t135, A170, H⟩ := H
               replace H : (if t135 = 2 then ((layout_Keyword.f 1).bind fun t136 => (some (t136.toList == ([70, 85, 76, 76, 95, 77, 65, 84, 82, 73, 88] : List UInt8)))) else (some false)) = some r := H
               have A17 := Aside0.mk A170
               clear A170
               by_cases c18 : t135 = 2
               ·rw [if_pos c18] at H
                have c18b0 : (t135 == 2) = true := beq_iff_eq.mpr c18
                have c18b1 : (t135 != 2) = false := bne_eq_false_iff_eq.mpr c18
                clear c18
                replace H := Option.bind_eq_some_iff.mp H
                obtain ⟨t136, A190, H⟩ := H
                replace H : (some (t136.toList == ([70, 85, 76, 76, 95, 77, 65, 84, 82, 73, 88] : List UInt8))) = some r := H
                have A19 := Aside0.mk A190
                clear A190
                obtain rfl := Option.some.inj H
                go_enter Tryd.func9, Tryd.ntmps9
                go_wp2_with (first | ((with_reducible refine gate_dst (N := 6) rfl ?_); (try (refine gate_guard (by rfl) ?_; dsimp only)); refine Kd.R_lit (Kd.int .i64) _ 3 ?hg (N := 6) ?hd (xs := ([4, 5, 6] : List Int)) (inner := [.int .i64 4, .int .i64 5, .int .i64 6]) (ok := fun _ => True) (okp := fun _ => True) ?hr ?hp (fun _ hk => hk) trivial (Below.refl _ _) (Nat.le_refl _) (by simp) ?_; (case hd => rfl); (case hg => rfl); (case hr => first | (go_simp; done) | (go_simp; rfl)); (case hp => exact (Reps.one (show Kd.M (Kd.int .i64) _ _ _ 4 [.int .i64 4] from rfl) (Reps.one (show Kd.M (Kd.int .i64) _ _ _ 5 [.int .i64 5] from rfl) (Reps.one (show Kd.M (Kd.int .i64) _ _ _ 6 [.int .i64 6] from rfl) (Reps.none _ _))))); intro v120 w20 ho21 hb hg_ hnew_; clear hg_ hnew_; (first | rw [← Ny119.out] at ho21 | (simp only [Int.reduceToNat] at ho21; rw [← Ny119.out] at ho21)); have n0_ := Aside0.mk (Kd.R_lower ho21 (below_size (by repeat (first | (with_reducible first | exact HB.out | apply below_alloc | apply pw_below_drewN | apply below_drew1) | exact HB.out)))); have n1_ := Aside0.mk (below_step (by repeat (first | (with_reducible first | exact HB.out | apply below_alloc | apply pw_below_drewN | apply below_drew1) | exact HB.out)) hb); clear HB; have HO121 := n0_; have HB := n1_; clear n0_ n1_; clear hb ho21; obtain ⟨Ao22, co22, eo22⟩ := Kd.R_slice HO121.out; subst eo22) | ((with_reducible refine gate_callee (f := 10) rfl ?_); refine goesL_ (some 7) rfl rfl Tryd.func10 (by kernel_rfl) rfl #[.int .i64 2, .int .i64 3, .slice Ao22 y119.length co22] rfl (by (try simp only [List.map_toArray, List.map_cons, List.map_nil]); first | done | rfl | (simp only [List.length_drop, List.length_take]; rfl)) ?_; (with_reducible refine (layout_Unpack.calls k 2 3 _ _ y119 t122 t123 _ ?side1 ?side2 (tab_below HTab_.out (by repeat (first | (with_reducible first | exact HB.out | apply below_alloc | apply pw_below_drewN | apply below_drew1 | (refine below_set ?_ ?_; rotate_left; · assumption)) | exact HB.out))) A1.out).mono ?_); (case side1 => repeat (first | exact (Kd.R_reads' HO121.out).2.2 | (with_reducible refine Kd.C_alloc ?_ _) | (with_reducible refine Kd.C_drewN ?_ _) | (with_reducible refine Kd.C_drew ?_))); (case side2 => exact (Kd.R_reads' HO121.out).2.1); rintro e w23 ⟨v124, rfl, ho0, hb⟩; refine ⟨_, rfl, ?_⟩; have n0_ := Aside0.mk (Kd.R_elder' (by (with_reducible repeat (first | apply Kd.R_alloc | apply Kd.R_drewN | apply Kd.R_drew)); exact HO121.out) (Kd.R_base ho0) hb); have n1_ := Aside0.mk (Kd.R_lower (Kd.R_new' ho0 (Kd.R_lt (by (with_reducible repeat (first | apply Kd.R_alloc | apply Kd.R_drewN | apply Kd.R_drew)); exact HO121.out))) (below_size (by repeat (first | (with_reducible first | exact HB.out | apply below_alloc | apply pw_below_drewN | apply below_drew1) | exact HB.out)))); have n2_ := Aside0.mk (below_step (by repeat (first | (with_reducible first | exact HB.out | apply below_alloc | apply pw_below_drewN | apply below_drew1) | exact HB.out)) hb); clear HO121; clear HB; have HO121 := n0_; have HO125 := n1_; have HB := n2_; clear n0_ n1_ n2_; (try clear hb); (try clear hb2); (try clear hk); (try clear hi); (try clear ho0); obtain ⟨Ao24, co24, eo24⟩ := Kd.R_slice HO125.out; subst eo24) | ((with_reducible refine gate_callee (f := 13) rfl ?_); refine goesL_ (some 12) rfl rfl Tryd.func13 (by kernel_rfl) rfl #[.int .i64 5, .int .i64 3, .slice Ao24 t122.length co24] rfl (by (try simp only [List.map_toArray, List.map_cons, List.map_nil]); first | done | rfl | (simp only [List.length_drop, List.length_take]; rfl)) ?_; (with_reducible refine (layout_Pack.calls 5 3 _ _ t122 t126 t127 _ ?side1 ?side2 (tab_below HTab_.out (by repeat (first | (with_reducible first | exact HB.out | apply below_alloc | apply pw_below_drewN | apply below_drew1 | (refine below_set ?_ ?_; rotate_left; · assumption)) | exact HB.out))) A2.out).mono ?_); (case side1 => repeat (first | exact (Kd.R_reads' HO125.out).2.2 | (with_reducible refine Kd.C_alloc ?_ _) | (with_reducible refine Kd.C_drewN ?_ _) | (with_reducible refine Kd.C_drew ?_))); (case side2 => exact (Kd.R_reads' HO125.out).2.1); rintro e w25 ⟨v128, rfl, ho0, hb⟩; refine ⟨_, rfl, ?_⟩; have n0_ := Aside0.mk (Kd.R_elder' (by (with_reducible repeat (first | apply Kd.R_alloc | apply Kd.R_drewN | apply Kd.R_drew)); exact HO121.out) (Kd.R_base ho0) hb); have n1_ := Aside0.mk (Kd.R_elder' (by (with_reducible repeat (first | apply Kd.R_alloc | apply Kd.R_drewN | apply Kd.R_drew)); exact HO125.out) (Kd.R_base ho0) hb); have n2_ := Aside0.mk (Kd.R_lower (Kd.R_new' (Kd.R_new' ho0 (Kd.R_lt (by (with_reducible repeat (first | apply Kd.R_alloc | apply Kd.R_drewN | apply Kd.R_drew)); exact HO121.out))) (Kd.R_lt (by (with_reducible repeat (first | apply Kd.R_alloc | apply Kd.R_drewN | apply Kd.R_drew)); exact HO125.out))) (below_size (by repeat (first | (with_reducible first | exact HB.out | apply below_alloc | apply pw_below_drewN | apply below_drew1) | exact HB.out)))); have n3_ := Aside0.mk (below_step (by repeat (first | (with_reducible first | exact HB.out | apply below_alloc | apply pw_below_drewN | apply below_drew1) | exact HB.out)) hb); clear HO121; clear HO125; clear HB; have HO121 := n0_; have HO125 := n1_; have HO129 := n2_; have HB := n3_; clear n0_ n1_ n2_ n3_; (try clear hb); (try clear hb2); (try clear hk); (try clear hi); (try clear ho0); have p130 : 0 ≤ (1 : Int) := (by omega); have q130 : 1 < (t122.length : Int) := of_decide_eq_true (by first | (with_reducible assumption) | assumption); obtain ⟨ad130, e130, hx130_0⟩ := Kd.at_int (Kd.R_reads' HO125.out).2.2 1 p130 q130; cases e130; (try simp only [show (1 : Int).toNat = 1 from rfl, Nat.reduceMul, Nat.reduceEqDiff, Go.Addr.add, ↓reduceIte] at hx130_0); have qi130 : (1 < t122.length) = True := eq_true (by omega); (try rw [show ((1 : Int)).toNat = 1 from rfl] at hx130_0); replace p130 := eq_true p130; replace q130 := eq_true q130; have p131 : 0 ≤ (6 : Int) := (by omega); have q131 : 6 < (t122.length : Int) := of_decide_eq_true (by first | (with_reducible assumption) | assumption); obtain ⟨ad131, e131, hx131_0⟩ := Kd.at_int (Kd.R_reads' HO125.out).2.2 6 p131 q131; obtain rfl : ad130 = ad131 := (by injection e131); (try simp only [show (6 : Int).toNat = 6 from rfl, Nat.reduceMul, Nat.reduceEqDiff, Go.Addr.add, ↓reduceIte] at hx131_0); have qi131 : (6 < t122.length) = True := eq_true (by omega); (try rw [show ((6 : Int)).toNat = 6 from rfl] at hx131_0); replace p131 := eq_true p131; replace q131 := eq_true q131; have p132 : 0 ≤ (5 : Int) := (by omega); have q132 : 5 < (t122.length : Int) := of_decide_eq_true (by first | (with_reducible assumption) | assumption); obtain ⟨ad132, e132, hx132_0⟩ := Kd.at_int (Kd.R_reads' HO125.out).2.2 5 p132 q132; obtain rfl : ad130 = ad132 := (by injection e132); (try simp only [show (5 : Int).toNat = 5 from rfl, Nat.reduceMul, Nat.reduceEqDiff, Go.Addr.add, ↓reduceIte] at hx132_0); have qi132 : (5 < t122.length) = True := eq_true (by omega); (try rw [show ((5 : Int)).toNat = 5 from rfl] at hx132_0); replace p132 := eq_true p132; replace q132 := eq_true q132; have p133 : 0 ≤ (4 : Int) := (by omega); have q133 : 4 < (t122.length : Int) := of_decide_eq_true (by first | (with_reducible assumption) | assumption); obtain ⟨ad133, e133, hx133_0⟩ := Kd.at_int (Kd.R_reads' HO125.out).2.2 4 p133 q133; obtain rfl : ad130 = ad133 := (by injection e133); (try simp only [show (4 : Int).toNat = 4 from rfl, Nat.reduceMul, Nat.reduceEqDiff, Go.Addr.add, ↓reduceIte] at hx133_0); have qi133 : (4 < t122.length) = True := eq_true (by omega); (try rw [show ((4 : Int)).toNat = 4 from rfl] at hx133_0); replace p133 := eq_true p133; replace q133 := eq_true q133; obtain ⟨Ao26, co26, eo26⟩ := Kd.R_slice HO129.out; subst eo26; have p134 : 0 ≤ (1 : Int) := (by omega); have q134 : 1 < (t126.length : Int) := of_decide_eq_true (by first | (with_reducible assumption) | assumption); obtain ⟨ad134, e134, hx134_0⟩ := Kd.at_int (Kd.R_reads' HO129.out).2.2 1 p134 q134; cases e134; (try simp only [show (1 : Int).toNat = 1 from rfl, Nat.reduceMul, Nat.reduceEqDiff, Go.Addr.add, ↓reduceIte] at hx134_0); have qi134 : (1 < t126.length) = True := eq_true (by omega); (try rw [show ((1 : Int)).toNat = 1 from rfl] at hx134_0); replace p134 := eq_true p134; replace q134 := eq_true q134) | (go_at_call 16; (with_reducible refine (layout_Index.calls k 2 3 1 2 t135 _ (tab_below HTab_.out (by repeat (first | (with_reducible first | exact HB.out | apply below_alloc | apply pw_below_drewN | apply below_drew1 | (refine below_set ?_ ?_; rotate_left; · assumption)) | exact HB.out))) A17.out).mono ?_); rintro e w27 ⟨rfl, hb⟩; have n0_ := Aside0.mk (Kd.R_below (by (with_reducible repeat (first | apply Kd.R_alloc | apply Kd.R_drewN | apply Kd.R_drew)); exact HO121.out) hb); have n1_ := Aside0.mk (Kd.R_below (by (with_reducible repeat (first | apply Kd.R_alloc | apply Kd.R_drewN | apply Kd.R_drew)); exact HO125.out) hb); have n2_ := Aside0.mk (Kd.R_below (by (with_reducible repeat (first | apply Kd.R_alloc | apply Kd.R_drewN | apply Kd.R_drew)); exact HO129.out) hb); have n3_ := Aside0.mk (below_step (by repeat (first | (with_reducible first | exact HB.out | apply below_alloc | apply pw_below_drewN | apply below_drew1) | exact HB.out)) hb); clear HO121; clear HO125; clear HO129; clear HB; have HO121 := n0_; have HO125 := n1_; have HO129 := n2_; have HB := n3_; clear n0_ n1_ n2_ n3_; (try clear hb); (try clear hb2); (try clear hk); (try clear hi)) | (go_at_call 19; (with_reducible refine (layout_Keyword.calls 1 t136 _ (tab_below HTab_.out (by repeat (first | (with_reducible first | exact HB.out | apply below_alloc | apply pw_below_drewN | apply below_drew1 | (refine below_set ?_ ?_; rotate_left; · assumption)) | exact HB.out))) A19.out).mono ?_); rintro e w28 ⟨rfl, hb⟩; have n0_ := Aside0.mk (Kd.R_below (by (with_reducible repeat (first | apply Kd.R_alloc | apply Kd.R_drewN | apply Kd.R_drew)); exact HO121.out) hb); have n1_ := Aside0.mk (Kd.R_below (by (with_reducible repeat (first | apply Kd.R_alloc | apply Kd.R_drewN | apply Kd.R_drew)); exact HO125.out) hb); have n2_ := Aside0.mk (Kd.R_below (by (with_reducible repeat (first | apply Kd.R_alloc | apply Kd.R_drewN | apply Kd.R_drew)); exact HO129.out) hb); have n3_ := Aside0.mk (below_step (by repeat (first | (with_reducible first | exact HB.out | apply below_alloc | apply pw_below_drewN | apply below_drew1) | exact HB.out)) hb); clear HO121; clear HO125; clear HO129; clear HB; have HO121 := n0_; have HO125 := n1_; have HO129 := n2_; have HB := n3_; clear n0_ n1_ n2_ n3_; (try clear hb); (try clear hb2); (try clear hk); (try clear hi)))
                go_ret
                exact ⟨by first | rfl | (simp [errW_none, errW_some] <;> rfl) | (simp [*, errW_none, errW_some] <;> rfl), by repeat (first | (with_reducible first | exact HB.out | apply below_alloc | apply pw_below_drewN | apply below_drew1) | exact HB.out)⟩
               ·rw [if_neg c18] at H
                have c18b0 : (t135 == 2) = false := beq_eq_false_iff_ne.mpr c18
                have c18b1 : (t135 != 2) = true := bne_iff_ne.mpr c18
                exact absurd ((Option.some.inj H).trans hr_.out) (by decide)
              ·rw [if_neg c16] at H
               have c16b0 : ((rd t126 1) == 4) = false := beq_eq_false_iff_ne.mpr c16
               have c16b1 : ((rd t126 1) != 4) = true := bne_iff_ne.mpr c16
               exact absurd ((Option.some.inj H).trans hr_.out) (by decide)
             ·rw [if_neg c15] at H
              exact absurd H (by simp)
            ·rw [if_neg c14] at H
             have c14b0 : ((t126.length : Int) == 6) = false := beq_eq_false_iff_ne.mpr c14
             have c14b1 : ((t126.length : Int) != 6) = true := bne_iff_ne.mpr c14
             exact absurd ((Option.some.inj H).trans hr_.out) (by decide)
           ·rw [if_neg c13] at H
            have c13b0 : (t127 == 0) = false := beq_eq_false_iff_ne.mpr c13
            have c13b1 : (t127 != 0) = true := bne_iff_ne.mpr c13
            exact absurd ((Option.some.inj H).trans hr_.out) (by decide)
          ·rw [if_neg c12] at H
           have c12b0 : ((rd t122 4) == 0) = false := beq_eq_false_iff_ne.mpr c12
           have c12b1 : ((rd t122 4) != 0) = true := bne_iff_ne.mpr c12
           exact absurd ((Option.some.inj H).trans hr_.out) (by decide)
         ·rw [if_neg c11] at H
          exact absurd H (by simp)
        ·rw [if_neg c10] at H
         have c10b0 : ((rd t122 5) == 6) = false := beq_eq_false_iff_ne.mpr c10
         have c10b1 : ((rd t122 5) != 6) = true := bne_iff_ne.mpr c10
         exact absurd ((Option.some.inj H).trans hr_.out) (by decide)
       ·rw [if_neg c9] at H
        exact absurd H (by simp)
      ·rw [if_neg c8] at H
       have c8b0 : ((rd t122 6) == 5) = false := beq_eq_false_iff_ne.mpr c8
       have c8b1 : ((rd t122 6) != 5) = true := bne_iff_ne.mpr c8
       exact absurd ((Option.some.inj H).trans hr_.out) (by decide)
     ·rw [if_neg c7] at H
      exact absurd H (by simp)
    ·rw [if_neg c6] at H
     have c6b0 : ((rd t122 1) == 4) = false := beq_eq_false_iff_ne.mpr c6
     have c6b1 : ((rd t122 1) != 4) = true := bne_iff_ne.mpr c6
     exact absurd ((Option.some.inj H).trans hr_.out) (by decide)
   ·rw [if_neg c5] at H
    exact absurd H (by simp)
  ·rw [if_neg c4] at H
   have c4b0 : ((t122.length : Int) == 9) = false := beq_eq_false_iff_ne.mpr c4
   have c4b1 : ((t122.length : Int) != 9) = true := bne_iff_ne.mpr c4
   exact absurd ((Option.some.inj H).trans hr_.out) (by decide)
 ·rw [if_neg c3] at H
  have c3b0 : (t123 == 0) = false := beq_eq_false_iff_ne.mpr c3
  have c3b1 : (t123 != 0) = true := bne_iff_ne.mpr c3
  exact absurd ((Option.some.inj H).trans hr_.out) (by decide)

theorem entrepotlaw07_shown.only : entrepotlaw07_shown.f 40 = some true := by decide +kernel
theorem entrepotlaw07_shown.true_of {k : Nat} {r : Bool} (h : entrepotlaw07_shown.f k = some r) : r = true := by
 rcases Nat.le_total k 40 with hk | hk
 ·exact Option.some.inj ((at_rounds (fun k => entrepotlaw07_shown.mono k) hk h).symm.trans entrepotlaw07_shown.only)
 ·exact Option.some.inj (h.symm.trans (at_rounds (fun k => entrepotlaw07_shown.mono k) hk entrepotlaw07_shown.only))
theorem entrepotlaw07_shown.calls (k : Nat)  (r : Bool) (w : World) (ht : Tab w) (h : entrepotlaw07_shown.f k  = some r) :
  Calls Tryd.prog 9 #[] w fun e w' => e = .returned (.bool r) ∧ Below w.heap.size w w' := entrepotlaw07_shown.callsT k r w ht h ⟨entrepotlaw07_shown.true_of h⟩
end Go.Proofs.YtdgdhmglcpkkiaaDoor.P
