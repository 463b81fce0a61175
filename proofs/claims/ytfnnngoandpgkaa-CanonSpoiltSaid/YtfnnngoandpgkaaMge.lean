/- Texts of this session in one: Lean functions for Go functions, and the proofs that the machine comes to their answers -/
import Derived.Test.YtfnnngoandpgkaaPx0
import Derived.Test.YtfnnngoandpgkaaMga
import Derived.Test.YtfnnngoandpgkaaMgb
import Derived.Test.YtfnnngoandpgkaaMgc
namespace Go.Proofs.Ytfnnngoandpgkaa.P
open Go.RowKit Go.Proofs.YtfnnngoandpgkaaW.PrintWords Go.Proofs.YtfnnngoandpgkaaW.PrintLast Go.Proofs.YtfnnngoandpgkaaW.PrintMore
attribute [local go_sem] max2_int min2_int max_two min_two max_three min_three max_four min_four   -- for this text's walks alone
set_option linter.unusedVariables false
set_option linter.unusedSimpArgs false

/-! ### canon_Well: function 16 -/
def canon_Well.f (a0_0 : ByteArray) (a0_1 : Int) (a0_2 : Int) (a0_3 : Int) (a0_4 : Int) (a0_5 : Int) (l0_6 : List (S46)) (l0_7 : List Int) : Option (Bool) := (canon_Check.f a0_0 a0_1 a0_2 a0_3 a0_4 a0_5 l0_6 l0_7).bind fun t108 => (some ((t108.length : Int) == 0))
set_option maxHeartbeats 8000000 in
set_option maxRecDepth 100000 in
theorem canon_Well.calls (a0_0 : ByteArray) (a0_1 : Int) (a0_2 : Int) (a0_3 : Int) (a0_4 : Int) (a0_5 : Int) (A0_6 : Option Addr) (c0_6 : Nat) (l0_6 : List (S46)) (A0_7 : Option Addr) (c0_7 : Nat) (l0_7 : List Int) (r : Bool) (w : World) (hr0_6 : Kd.C k46 w A0_6 l0_6.length l0_6) (hc0_6 : l0_6.length ≤ c0_6) (hr0_7 : Kd.C (Kd.int .i64) w A0_7 l0_7.length l0_7) (hc0_7 : l0_7.length ≤ c0_7) (h : canon_Well.f a0_0 a0_1 a0_2 a0_3 a0_4 a0_5 l0_6 l0_7 = some r) :
  Calls Try.prog 16 #[.agg #[.string a0_0, .int .i64 a0_1, .int .i64 a0_2, .int .i64 a0_3, .int .i64 a0_4, .int .i64 a0_5, .slice A0_6 l0_6.length c0_6, .slice A0_7 l0_7.length c0_7]] w fun e w' => e = .returned (.bool r) ∧ Below w.heap.size w w' := by
 have hu25 := Try.underlying25
 have HR0_6 := Aside0.mk hr0_6
 have HC0_6 := Aside0.mk hc0_6
 clear hr0_6 hc0_6
 have HR0_7 := Aside0.mk hr0_7
 have HC0_7 := Aside0.mk hc0_7
 clear hr0_7 hc0_7
 have HB := Aside0.mk (Below.refl w.heap.size w)
 have H : ((canon_Check.f a0_0 a0_1 a0_2 a0_3 a0_4 a0_5 l0_6 l0_7).bind fun t108 => (some ((t108.length : Int) == 0))) = some r := h
 clear h
 replace H := Option.bind_eq_some_iff.mp H
 obtain ⟨t108, A20, H⟩ := H
 replace H : (some ((t108.length : Int) == 0)) = some r := H
 have A2 := Aside0.mk A20
 clear A20
 obtain rfl := Option.some.inj H
 go_enter Try.func16, Try.ntmps16
 go_wp2_with (first | ((with_reducible refine gate_dst (N := 1) rfl ?_); refine box_event ?hg (N := 1) ?hd (cs := #[.string a0_0, .int .i64 a0_1, .int .i64 a0_2, .int .i64 a0_3, .int .i64 a0_4, .int .i64 a0_5, .slice A0_6 l0_6.length c0_6, .slice A0_7 l0_7.length c0_7]) (t := 25) ?hr ?_; (case hd => rfl); (case hg => rfl); (case hr => first | (go_simp; done) | (go_simp; rfl)); intro gb107 hg w3 hbox hb; have n0_ := Aside0.mk (below_step (by repeat (first | (with_reducible first | exact HB.out | apply below_alloc | apply pw_below_drewN | apply below_drew1) | exact HB.out)) hb); have n1_ := Aside0.mk (hbox); have n2_ := Aside0.mk ((by rw [hg]; exact (below_size (by repeat (first | (with_reducible first | exact HB.out | apply below_alloc | apply pw_below_drewN | apply below_drew1) | exact HB.out))) : w.heap.size ≤ gb107)); have n3_ := Aside0.mk ((by rw [hg]; exact (below_size (by repeat (first | (with_reducible first | exact HB.out | apply below_alloc | apply pw_below_drewN | apply below_drew1) | exact HB.out))) : w.heap.size ≤ gb107)); clear HB; have HB := n0_; have BK107 := n1_; have GW107 := n2_; have GE107 := n3_; clear n0_ n1_ n2_ n3_; clear hb hbox hg; obtain ⟨hcz4_0, hcz4_1, hcz4_2, hcz4_3, hcz4_4, hcz4_5, hcz4_6, hcz4_7, hfz4_0, hfz4_1, hfz4_2, hfz4_3, hfz4_4, hfz4_5, hfz4_6, hfz4_7⟩ := blk8_ BK107.out) | ((with_reducible refine gate_callee (f := 11) rfl ?_); refine goesL_ (some 4) rfl rfl Try.func11 (by kernel_rfl) rfl #[.agg #[.string a0_0, .int .i64 a0_1, .int .i64 a0_2, .int .i64 a0_3, .int .i64 a0_4, .int .i64 a0_5, .slice A0_6 l0_6.length c0_6, .slice A0_7 l0_7.length c0_7]] rfl (by (try simp only [List.map_toArray, List.map_cons, List.map_nil]); first | done | rfl | (simp only [List.length_drop, List.length_take]; rfl)) ?_; (with_reducible refine (canon_Check.calls a0_0 a0_1 a0_2 a0_3 a0_4 a0_5 _ _ l0_6 _ _ l0_7 t108 _ ?side1 ?side2 ?side3 ?side4 A2.out).mono ?_); (case side1 => repeat (first | exact (Kd.C_below HR0_6.out HB.out) | (with_reducible refine Kd.C_alloc ?_ _) | (with_reducible refine Kd.C_drewN ?_ _) | (with_reducible refine Kd.C_drew ?_))); (case side2 => exact HC0_6.out); (case side3 => repeat (first | exact (Kd.C_below HR0_7.out HB.out) | (with_reducible refine Kd.C_alloc ?_ _) | (with_reducible refine Kd.C_drewN ?_ _) | (with_reducible refine Kd.C_drew ?_))); (case side4 => exact HC0_7.out); rintro e w5 ⟨v109, rfl, ho0, hb⟩; refine ⟨_, rfl, ?_⟩; have n0_ := Aside0.mk (Kd.R_lower ho0 (below_size (by repeat (first | (with_reducible first | exact HB.out | apply below_alloc | apply pw_below_drewN | apply below_drew1 | refine below_set ?_ GE107.out) | exact HB.out)))); have n1_ := Aside0.mk (blk_below (g := gb107) (o := .cells #[.string a0_0, .int .i64 a0_1, .int .i64 a0_2, .int .i64 a0_3, .int .i64 a0_4, .int .i64 a0_5, .slice A0_6 l0_6.length c0_6, .slice A0_7 l0_7.length c0_7] 25 (0, 0)) (by (with_reducible repeat (first | refine blk_drewN ?_ _ | refine blk_drew ?_ | refine blk_alloc ?_ _)); exact BK107.out) hb); have n2_ := Aside0.mk (below_step (by repeat (first | (with_reducible first | exact HB.out | apply below_alloc | apply pw_below_drewN | apply below_drew1 | refine below_set ?_ GE107.out) | exact HB.out)) hb); clear BK107; clear HB; have HO110 := n0_; have BK107 := n1_; have HB := n2_; clear n0_ n1_ n2_; (try clear hb); (try clear hb2); (try clear hk); (try clear hi); (try clear ho0); obtain ⟨Ao6, co6, eo6⟩ := Kd.R_slice HO110.out; subst eo6))
 go_ret
 exact ⟨by first | rfl | (simp [errW_none, errW_some] <;> rfl) | (simp [*, errW_none, errW_some] <;> rfl), by repeat (first | (with_reducible first | exact HB.out | apply below_alloc | apply pw_below_drewN | apply below_drew1 | refine below_set ?_ GE107.out) | exact HB.out)⟩

end Go.Proofs.Ytfnnngoandpgkaa.P
namespace Go.Proofs.Ytfnnngoandpgkaa.P
open Go.RowKit Go.Proofs.YtfnnngoandpgkaaW.PrintWords Go.Proofs.YtfnnngoandpgkaaW.PrintLast Go.Proofs.YtfnnngoandpgkaaW.PrintMore
attribute [local go_sem] max2_int min2_int max_two min_two max_three min_three max_four min_four   -- for this text's walks alone
set_option linter.unusedVariables false
set_option linter.unusedSimpArgs false

/-! ### entrepotlaw08_tour: function 22 -/
def entrepotlaw08_tour.f  : Option (ByteArray × Int × Int × Int × Int × Int × (List (S46)) × List Int) := some ((⟨#[116]⟩ : ByteArray), 1, 1, 1, 0, 0, (([(⟨10, 0, 0, 0, 0, 0, 0⟩ : S46), (⟨0, 20, 0, 0, 0, 0, 0⟩ : S46), (⟨30, 40, 0, 0, 0, 0, 0⟩ : S46)] : List (S46))), ([] : List Int))
set_option maxHeartbeats 8000000 in
set_option maxRecDepth 100000 in
theorem entrepotlaw08_tour.calls  (r1 : ByteArray) (r2 : Int) (r3 : Int) (r4 : Int) (r5 : Int) (r6 : Int) (r7 : List (S46)) (r8 : List Int) (w : World) (h : entrepotlaw08_tour.f  = some (r1, r2, r3, r4, r5, r6, r7, r8)) :
  Calls Try.prog 22 #[] w fun e w' => ∃ v6_ v7_ : Value, e = .returned (.agg #[.string r1, .int .i64 r2, .int .i64 r3, .int .i64 r4, .int .i64 r5, .int .i64 r6, v6_, v7_]) ∧ Kd.R k46 46 w' w.heap.size (fun _ => True) v6_ r7 ∧ Kd.R (Kd.int .i64) 3 w' w.heap.size (fun _ => True) v7_ r8 ∧ Below w.heap.size w w' := by
 have hu25 := Try.underlying25
 have hu46 := Try.underlying46
 have HB := Aside0.mk (Below.refl w.heap.size w)
 have H : (some ((⟨#[116]⟩ : ByteArray), 1, 1, 1, 0, 0, (([(⟨10, 0, 0, 0, 0, 0, 0⟩ : S46), (⟨0, 20, 0, 0, 0, 0, 0⟩ : S46), (⟨30, 40, 0, 0, 0, 0, 0⟩ : S46)] : List (S46))), ([] : List Int))) = some (r1, r2, r3, r4, r5, r6, r7, r8) := h
 clear h
 obtain ⟨y116, hy116⟩ : ∃ y_ : List (S46), y_ = (([(⟨10, 0, 0, 0, 0, 0, 0⟩ : S46), (⟨0, 20, 0, 0, 0, 0, 0⟩ : S46), (⟨30, 40, 0, 0, 0, 0, 0⟩ : S46)] : List (S46))) := ⟨_, rfl⟩
 replace H : (some ((⟨#[116]⟩ : ByteArray), 1, 1, 1, 0, 0, y116, ([] : List Int))) = some (r1, r2, r3, r4, r5, r6, r7, r8) := by first | (rw [hy116]; with_reducible exact H) | (have H2_ := (Option.bind_some _ _).symm.trans H; rw [hy116]; with_reducible exact H2_) | (have H2_ := (Option.bind_some _ _).symm.trans H; with_reducible exact H2_) | with_reducible exact H | (rw [hy116]; exact H) | exact H
 have Ny116 := Aside0.mk hy116
 clear hy116
 simp only [Option.some.injEq, Prod.mk.injEq] at H
 obtain ⟨rfl, rfl, rfl, rfl, rfl, rfl, rfl, rfl⟩ := H
 go_enter Try.func22, Try.ntmps22
 go_wp2_with (first | ((with_reducible refine gate_dst (N := 0) rfl ?_); refine box_event ?hg (N := 0) ?hd (cs := #[.string (⟨#[]⟩ : ByteArray), .int .i64 0, .int .i64 0, .int .i64 0, .int .i64 0, .int .i64 0, .slice none 0 0, .slice none 0 0]) (t := 25) ?hr ?_; (case hd => rfl); (case hg => rfl); (case hr => first | (go_simp; done) | (go_simp; rfl)); intro gb115 hg w1 hbox hb; have n0_ := Aside0.mk (below_step (by repeat (first | (with_reducible first | exact HB.out | apply below_alloc | apply pw_below_drewN | apply below_drew1) | exact HB.out)) hb); have n1_ := Aside0.mk (hbox); have n2_ := Aside0.mk ((by rw [hg]; exact (below_size (by repeat (first | (with_reducible first | exact HB.out | apply below_alloc | apply pw_below_drewN | apply below_drew1) | exact HB.out))) : w.heap.size ≤ gb115)); have n3_ := Aside0.mk ((by rw [hg]; exact (below_size (by repeat (first | (with_reducible first | exact HB.out | apply below_alloc | apply pw_below_drewN | apply below_drew1) | exact HB.out))) : w.heap.size ≤ gb115)); clear HB; have HB := n0_; have BK115 := n1_; have GW115 := n2_; have GE115 := n3_; clear n0_ n1_ n2_ n3_; clear hb hbox hg) | ((with_reducible refine gate_dst (N := 4) rfl ?_); refine Kd.R_lit k46 _ 46 ?hg (N := 4) ?hd (xs := ([(⟨10, 0, 0, 0, 0, 0, 0⟩ : S46), (⟨0, 20, 0, 0, 0, 0, 0⟩ : S46), (⟨30, 40, 0, 0, 0, 0, 0⟩ : S46)] : List (S46))) (inner := [.int .i64 10, .int .i64 0, .int .i64 0, .int .i64 0, .int .i64 0, .int .i64 0, .int .i64 0, .int .i64 0, .int .i64 20, .int .i64 0, .int .i64 0, .int .i64 0, .int .i64 0, .int .i64 0, .int .i64 30, .int .i64 40, .int .i64 0, .int .i64 0, .int .i64 0, .int .i64 0, .int .i64 0]) (ok := fun _ => True) (okp := fun _ => True) ?hr ?hp (fun _ hk => hk) trivial (Below.refl _ _) (Nat.le_refl _) (by simp) ?_; (case hd => rfl); (case hg => rfl); (case hr => first | (go_simp; done) | (go_simp; rfl)); (case hp => exact (Reps.c7 (show Kd.M k46 _ _ _ (⟨10, 0, 0, 0, 0, 0, 0⟩ : S46) [.int .i64 10, .int .i64 0, .int .i64 0, .int .i64 0, .int .i64 0, .int .i64 0, .int .i64 0] from (k46_mkM _ _ _ (⟨10, 0, 0, 0, 0, 0, 0⟩ : S46) )) (Reps.c7 (show Kd.M k46 _ _ _ (⟨0, 20, 0, 0, 0, 0, 0⟩ : S46) [.int .i64 0, .int .i64 20, .int .i64 0, .int .i64 0, .int .i64 0, .int .i64 0, .int .i64 0] from (k46_mkM _ _ _ (⟨0, 20, 0, 0, 0, 0, 0⟩ : S46) )) (Reps.c7 (show Kd.M k46 _ _ _ (⟨30, 40, 0, 0, 0, 0, 0⟩ : S46) [.int .i64 30, .int .i64 40, .int .i64 0, .int .i64 0, .int .i64 0, .int .i64 0, .int .i64 0] from (k46_mkM _ _ _ (⟨30, 40, 0, 0, 0, 0, 0⟩ : S46) )) (Reps.none _ _))))); intro v117 w2 ho3 hb hg_ hnew_; clear hg_ hnew_; (first | rw [← Ny116.out] at ho3 | (simp only [Int.reduceToNat] at ho3; rw [← Ny116.out] at ho3)); have n0_ := Aside0.mk (Kd.R_lower ho3 (below_size (by repeat (first | (with_reducible first | exact HB.out | apply below_alloc | apply pw_below_drewN | apply below_drew1 | refine below_set ?_ GE115.out) | exact HB.out)))); have n1_ := Aside0.mk (blk_below (g := gb115) (o := .cells #[.string (⟨#[]⟩ : ByteArray), .int .i64 0, .int .i64 0, .int .i64 0, .int .i64 0, .int .i64 0, .slice none 0 0, .slice none 0 0] 25 (0, 0)) (by (with_reducible repeat (first | refine blk_drewN ?_ _ | refine blk_drew ?_ | refine blk_alloc ?_ _)); exact BK115.out) hb); have n2_ := Aside0.mk (below_step (by repeat (first | (with_reducible first | exact HB.out | apply below_alloc | apply pw_below_drewN | apply below_drew1 | refine below_set ?_ GE115.out) | exact HB.out)) hb); clear BK115; clear HB; have HO118 := n0_; have BK115 := n1_; have HB := n2_; clear n0_ n1_ n2_; clear hb ho3; obtain ⟨Ao4, co4, eo4⟩ := Kd.R_slice HO118.out; subst eo4; obtain ⟨hcz5_0, hcz5_1, hcz5_2, hcz5_3, hcz5_4, hcz5_5, hcz5_6, hcz5_7, hfz5_0, hfz5_1, hfz5_2, hfz5_3, hfz5_4, hfz5_5, hfz5_6, hfz5_7⟩ := blk8_ BK115.out))
 refine bodyPost_ret (results_cell_row rfl _ _ gb115 25 #[.string (⟨#[116]⟩ : ByteArray), .int .i64 1, .int .i64 1, .int .i64 1, .int .i64 0, .int .i64 0, .slice Ao4 y116.length co4, .slice none 0 0] (0, 0) _ rfl (by (with_reducible repeat (first | refine blk_drewN ?_ _ | refine blk_drew ?_ | refine blk_alloc ?_ _)); refine blk_put (cs := #[.string (⟨#[116]⟩ : ByteArray), .int .i64 1, .int .i64 1, .int .i64 1, .int .i64 0, .int .i64 0, .slice Ao4 y116.length co4, .slice none 0 0]) ?_ 7 _ rfl; (with_reducible repeat (first | refine blk_drewN ?_ _ | refine blk_drew ?_ | refine blk_alloc ?_ _)); refine blk_put (cs := #[.string (⟨#[116]⟩ : ByteArray), .int .i64 1, .int .i64 1, .int .i64 1, .int .i64 0, .int .i64 0, .slice none 0 0, .slice none 0 0]) ?_ 6 _ rfl; (with_reducible repeat (first | refine blk_drewN ?_ _ | refine blk_drew ?_ | refine blk_alloc ?_ _)); refine blk_put (cs := #[.string (⟨#[116]⟩ : ByteArray), .int .i64 1, .int .i64 1, .int .i64 1, .int .i64 0, .int .i64 0, .slice none 0 0, .slice none 0 0]) ?_ 5 _ rfl; (with_reducible repeat (first | refine blk_drewN ?_ _ | refine blk_drew ?_ | refine blk_alloc ?_ _)); refine blk_put (cs := #[.string (⟨#[116]⟩ : ByteArray), .int .i64 1, .int .i64 1, .int .i64 1, .int .i64 0, .int .i64 0, .slice none 0 0, .slice none 0 0]) ?_ 4 _ rfl; (with_reducible repeat (first | refine blk_drewN ?_ _ | refine blk_drew ?_ | refine blk_alloc ?_ _)); refine blk_put (cs := #[.string (⟨#[116]⟩ : ByteArray), .int .i64 1, .int .i64 1, .int .i64 0, .int .i64 0, .int .i64 0, .slice none 0 0, .slice none 0 0]) ?_ 3 _ rfl; (with_reducible repeat (first | refine blk_drewN ?_ _ | refine blk_drew ?_ | refine blk_alloc ?_ _)); refine blk_put (cs := #[.string (⟨#[116]⟩ : ByteArray), .int .i64 1, .int .i64 0, .int .i64 0, .int .i64 0, .int .i64 0, .slice none 0 0, .slice none 0 0]) ?_ 2 _ rfl; (with_reducible repeat (first | refine blk_drewN ?_ _ | refine blk_drew ?_ | refine blk_alloc ?_ _)); refine blk_put (cs := #[.string (⟨#[116]⟩ : ByteArray), .int .i64 0, .int .i64 0, .int .i64 0, .int .i64 0, .int .i64 0, .slice none 0 0, .slice none 0 0]) ?_ 1 _ rfl; (with_reducible repeat (first | refine blk_drewN ?_ _ | refine blk_drew ?_ | refine blk_alloc ?_ _)); refine blk_put (cs := #[.string (⟨#[]⟩ : ByteArray), .int .i64 0, .int .i64 0, .int .i64 0, .int .i64 0, .int .i64 0, .slice none 0 0, .slice none 0 0]) ?_ 0 _ rfl; (with_reducible repeat (first | refine blk_drewN ?_ _ | refine blk_drew ?_ | refine blk_alloc ?_ _)); exact BK115.out) Try.underlying25 rfl (by kernel_rfl)) rfl ?_
 exact ⟨_, _, by first | rfl | (simp [errW_none, errW_some] <;> rfl) | (simp [*, errW_none, errW_some] <;> rfl), by (with_reducible repeat (first | apply Kd.R_alloc | apply Kd.R_drewN | apply Kd.R_drew)); exact Kd.R_mono (Kd.R_far (p := ⟨gb115, 7, none⟩) (Kd.R_far (p := ⟨gb115, 6, none⟩) (Kd.R_far (p := ⟨gb115, 5, none⟩) (Kd.R_far (p := ⟨gb115, 4, none⟩) (Kd.R_far (p := ⟨gb115, 3, none⟩) (Kd.R_far (p := ⟨gb115, 2, none⟩) (Kd.R_far (p := ⟨gb115, 1, none⟩) (Kd.R_far (p := ⟨gb115, 0, none⟩) (Kd.R_types HO118.out BK115.out (by decide)) (fun _ hk => hk.2) (.string (⟨#[116]⟩ : ByteArray))) (fun _ hk => hk.2) (.int .i64 1)) (fun _ hk => hk.2) (.int .i64 1)) (fun _ hk => hk.2) (.int .i64 1)) (fun _ hk => hk.2) (.int .i64 0)) (fun _ hk => hk.2) (.int .i64 0)) (fun _ hk => hk.2) (.slice Ao4 y116.length co4)) (fun _ hk => hk.2) (.slice none 0 0)) (fun _ hk => trivial), by first | exact Kd.R_nil _ _ _ _ _ | exact Kd.N_nil _ _ _ _ _ | exact Kd.V_nil _ _ _ _ _ | exact Kd.Q_nil _ _ _ _ _ | exact Kd.S_nil _ _ _ _ _, by repeat (first | (with_reducible first | exact HB.out | apply below_alloc | apply pw_below_drewN | apply below_drew1 | refine below_set ?_ GE115.out) | exact HB.out)⟩

end Go.Proofs.Ytfnnngoandpgkaa.P
namespace Go.Proofs.Ytfnnngoandpgkaa.P
open Go.RowKit Go.Proofs.YtfnnngoandpgkaaW.PrintWords Go.Proofs.YtfnnngoandpgkaaW.PrintLast Go.Proofs.YtfnnngoandpgkaaW.PrintMore
attribute [local go_sem] max2_int min2_int max_two min_two max_three min_three max_four min_four   -- for this text's walks alone
set_option linter.unusedVariables false
set_option linter.unusedSimpArgs false

attribute [local go_sem high] eqA43
/-! ### entrepotlaw08_shown: function 10 -/
def entrepotlaw08_shown.f  : Option (Bool) := (entrepotlaw08_tour.f).bind fun bt119 => ((canon_Norm.f bt119.1 bt119.2.1 bt119.2.2.1 bt119.2.2.2.1 bt119.2.2.2.2.1 bt119.2.2.2.2.2.1 bt119.2.2.2.2.2.2.1 bt119.2.2.2.2.2.2.2).bind fun bt132 => ((canon_Check.f (⟨#[]⟩ : ByteArray) 0 0 0 0 0 ([] : List (S46)) ([] : List Int)).bind fun t145 => ((canon_Well.f bt119.1 bt119.2.1 bt119.2.2.1 bt119.2.2.2.1 bt119.2.2.2.2.1 bt119.2.2.2.2.2.1 bt119.2.2.2.2.2.2.1 bt119.2.2.2.2.2.2.2).bind fun t148 => (if t148 = true then (if bt132.2.2.2.1 = 0 then (if (bt132.2.2.2.2.2.2.1.length : Int) = 3 then (if 2 < (bt132.2.2.2.2.2.2.1.length : Int) then (if ((rd_T46 bt132.2.2.2.2.2.2.1 2).f1) = 4 then ((canon_Same.f bt119.1 bt119.2.1 bt119.2.2.1 bt119.2.2.2.1 bt119.2.2.2.2.1 bt119.2.2.2.2.2.1 bt119.2.2.2.2.2.2.1 bt119.2.2.2.2.2.2.2 bt132.1 bt132.2.1 bt132.2.2.1 bt132.2.2.2.1 bt132.2.2.2.2.1 bt132.2.2.2.2.2.1 bt132.2.2.2.2.2.2.1 bt132.2.2.2.2.2.2.2).bind fun t150 => (if t150 = true then (some false) else (if (t145.length : Int) = 4 then (if 0 < (t145.length : Int) then (if (((rd_T43 t145 0).f0) == 1 && (((rd_T43 t145 0).f1) == 0)) = true then (if 2 < (t145.length : Int) then (if ((rd_T43 t145 2).f0) = 5 then (if 3 < (t145.length : Int) then (some (((rd_T43 t145 3).f0) == 7)) else (none)) else (some false)) else (none)) else (some false)) else (none)) else (some false)))) else (some false)) else (none)) else (some false)) else (some false)) else (some false)))))
set_option maxHeartbeats 8000000 in
set_option maxRecDepth 100000 in
theorem entrepotlaw08_shown.callsT  (r : Bool) (w : World) (h : entrepotlaw08_shown.f  = some r) (hr_ : Aside0 (r = true)) :
  Calls Try.prog 10 #[] w fun e w' => e = .returned (.bool r) ∧ Below w.heap.size w w' := by
 have hu25 := Try.underlying25
 have hu43 := Try.underlying43
 have HB := Aside0.mk (Below.refl w.heap.size w)
 have H : ((entrepotlaw08_tour.f).bind fun bt119 => ((canon_Norm.f bt119.1 bt119.2.1 bt119.2.2.1 bt119.2.2.2.1 bt119.2.2.2.2.1 bt119.2.2.2.2.2.1 bt119.2.2.2.2.2.2.1 bt119.2.2.2.2.2.2.2).bind fun bt132 => ((canon_Check.f (⟨#[]⟩ : ByteArray) 0 0 0 0 0 ([] : List (S46)) ([] : List Int)).bind fun t145 => ((canon_Well.f bt119.1 bt119.2.1 bt119.2.2.1 bt119.2.2.2.1 bt119.2.2.2.2.1 bt119.2.2.2.2.2.1 bt119.2.2.2.2.2.2.1 bt119.2.2.2.2.2.2.2).bind fun t148 => (if t148 = true then (if bt132.2.2.2.1 = 0 then (if (bt132.2.2.2.2.2.2.1.length : Int) = 3 then (if 2 < (bt132.2.2.2.2.2.2.1.length : Int) then (if ((rd_T46 bt132.2.2.2.2.2.2.1 2).f1) = 4 then ((canon_Same.f bt119.1 bt119.2.1 bt119.2.2.1 bt119.2.2.2.1 bt119.2.2.2.2.1 bt119.2.2.2.2.2.1 bt119.2.2.2.2.2.2.1 bt119.2.2.2.2.2.2.2 bt132.1 bt132.2.1 bt132.2.2.1 bt132.2.2.2.1 bt132.2.2.2.2.1 bt132.2.2.2.2.2.1 bt132.2.2.2.2.2.2.1 bt132.2.2.2.2.2.2.2).bind fun t150 => (if t150 = true then (some false) else (if (t145.length : Int) = 4 then (if 0 < (t145.length : Int) then (if (((rd_T43 t145 0).f0) == 1 && (((rd_T43 t145 0).f1) == 0)) = true then (if 2 < (t145.length : Int) then (if ((rd_T43 t145 2).f0) = 5 then (if 3 < (t145.length : Int) then (some (((rd_T43 t145 3).f0) == 7)) else (none)) else (some false)) else (none)) else (some false)) else (none)) else (some false)))) else (some false)) else (none)) else (some false)) else (some false)) else (some false)))))) = some r := h
 clear h
 replace H := Option.bind_eq_some_iff.mp H
 obtain ⟨⟨t119, t120, t121, t122, t123, t124, t125, t128⟩, A10, H⟩ := H
 replace H : ((canon_Norm.f t119 t120 t121 t122 t123 t124 t125 t128).bind fun bt132 => ((canon_Check.f (⟨#[]⟩ : ByteArray) 0 0 0 0 0 ([] : List (S46)) ([] : List Int)).bind fun t145 => ((canon_Well.f t119 t120 t121 t122 t123 t124 t125 t128).bind fun t148 => (if t148 = true then (if bt132.2.2.2.1 = 0 then (if (bt132.2.2.2.2.2.2.1.length : Int) = 3 then (if 2 < (bt132.2.2.2.2.2.2.1.length : Int) then (if ((rd_T46 bt132.2.2.2.2.2.2.1 2).f1) = 4 then ((canon_Same.f t119 t120 t121 t122 t123 t124 t125 t128 bt132.1 bt132.2.1 bt132.2.2.1 bt132.2.2.2.1 bt132.2.2.2.2.1 bt132.2.2.2.2.2.1 bt132.2.2.2.2.2.2.1 bt132.2.2.2.2.2.2.2).bind fun t150 => (if t150 = true then (some false) else (if (t145.length : Int) = 4 then (if 0 < (t145.length : Int) then (if (((rd_T43 t145 0).f0) == 1 && (((rd_T43 t145 0).f1) == 0)) = true then (if 2 < (t145.length : Int) then (if ((rd_T43 t145 2).f0) = 5 then (if 3 < (t145.length : Int) then (some (((rd_T43 t145 3).f0) == 7)) else (none)) else (some false)) else (none)) else (some false)) else (none)) else (some false)))) else (some false)) else (none)) else (some false)) else (some false)) else (some false))))) = some r := H
 have A1 := Aside0.mk A10
 clear A10
 replace H := Option.bind_eq_some_iff.mp H
 obtain ⟨⟨t132, t133, t134, t135, t136, t137, t138, t141⟩, A20, H⟩ := H
 replace H : ((canon_Check.f (⟨#[]⟩ : ByteArray) 0 0 0 0 0 ([] : List (S46)) ([] : List Int)).bind fun t145 => ((canon_Well.f t119 t120 t121 t122 t123 t124 t125 t128).bind fun t148 => (if t148 = true then (if t135 = 0 then (if (t138.length : Int) = 3 then (if 2 < (t138.length : Int) then (if ((rd_T46 t138 2).f1) = 4 then ((canon_Same.f t119 t120 t121 t122 t123 t124 t125 t128 t132 t133 t134 t135 t136 t137 t138 t141).bind fun t150 => (if t150 = true then (some false) else (if (t145.length : Int) = 4 then (if 0 < (t145.length : Int) then (if (((rd_T43 t145 0).f0) == 1 && (((rd_T43 t145 0).f1) == 0)) = true then (if 2 < (t145.length : Int) then (if ((rd_T43 t145 2).f0) = 5 then (if 3 < (t145.length : Int) then (some (((rd_T43 t145 3).f0) == 7)) else (none)) else (some false)) else (none)) else (some false)) else (none)) else (some false)))) else (some false)) else (none)) else (some false)) else (some false)) else (some false)))) = some r := H
 have A2 := Aside0.mk A20
 clear A20
 replace H := Option.bind_eq_some_iff.mp H
 obtain ⟨t145, A30, H⟩ := H
 replace H : ((canon_Well.f t119 t120 t121 t122 t123 t124 t125 t128).bind fun t148 => (if t148 = true then (if t135 = 0 then (if (t138.length : Int) = 3 then (if 2 < (t138.length : Int) then (if ((rd_T46 t138 2).f1) = 4 then ((canon_Same.f t119 t120 t121 t122 t123 t124 t125 t128 t132 t133 t134 t135 t136 t137 t138 t141).bind fun t150 => (if t150 = true then (some false) else (if (t145.length : Int) = 4 then (if 0 < (t145.length : Int) then (if (((rd_T43 t145 0).f0) == 1 && (((rd_T43 t145 0).f1) == 0)) = true then (if 2 < (t145.length : Int) then (if ((rd_T43 t145 2).f0) = 5 then (if 3 < (t145.length : Int) then (some (((rd_T43 t145 3).f0) == 7)) else (none)) else (some false)) else (none)) else (some false)) else (none)) else (some false)))) else (some false)) else (none)) else (some false)) else (some false)) else (some false))) = some r := H
 have A3 := Aside0.mk A30
 clear A30
 replace H := Option.bind_eq_some_iff.mp H
 obtain ⟨t148, A40, H⟩ := H
 replace H : (if t148 = true then (if t135 = 0 then (if (t138.length : Int) = 3 then (if 2 < (t138.length : Int) then (if ((rd_T46 t138 2).f1) = 4 then ((canon_Same.f t119 t120 t121 t122 t123 t124 t125 t128 t132 t133 t134 t135 t136 t137 t138 t141).bind fun t150 => (if t150 = true then (some false) else (if (t145.length : Int) = 4 then (if 0 < (t145.length : Int) then (if (((rd_T43 t145 0).f0) == 1 && (((rd_T43 t145 0).f1) == 0)) = true then (if 2 < (t145.length : Int) then (if ((rd_T43 t145 2).f0) = 5 then (if 3 < (t145.length : Int) then (some (((rd_T43 t145 3).f0) == 7)) else (none)) else (some false)) else (none)) else (some false)) else (none)) else (some false)))) else (some false)) else (none)) else (some false)) else (some false)) else (some false)) = some r := H
 have A4 := Aside0.mk A40
 clear A40
 by_cases c5 : t148 = true
 ·subst c5
  have H1 : (if t135 = 0 then (if (t138.length : Int) = 3 then (if 2 < (t138.length : Int) then (if ((rd_T46 t138 2).f1) = 4 then ((canon_Same.f t119 t120 t121 t122 t123 t124 t125 t128 t132 t133 t134 t135 t136 t137 t138 t141).bind fun t150 => (if t150 = true then (some false) else (if (t145.length : Int) = 4 then (if 0 < (t145.length : Int) then (if (((rd_T43 t145 0).f0) == 1 && (((rd_T43 t145 0).f1) == 0)) = true then (if 2 < (t145.length : Int) then (if ((rd_T43 t145 2).f0) = 5 then (if 3 < (t145.length : Int) then (some (((rd_T43 t145 3).f0) == 7)) else (none)) else (some false)) else (none)) else (some false)) else (none)) else (some false)))) else (some false)) else (none)) else (some false)) else (some false)) = some r := by rw [if_pos rfl] at H; exact H
  clear H
  have H := H1
  clear H1
  by_cases c6 : t135 = 0
  ·rw [if_pos c6] at H
   have c6b0 : (t135 == 0) = true := beq_iff_eq.mpr c6
   have c6b1 : (t135 != 0) = false := bne_eq_false_iff_eq.mpr c6
   clear c6
   by_cases c7 : (t138.length : Int) = 3
   ·rw [if_pos c7] at H
    have c7b0 : ((t138.length : Int) == 3) = true := beq_iff_eq.mpr c7
    have c7b1 : ((t138.length : Int) != 3) = false := bne_eq_false_iff_eq.mpr c7
    clear c7
    by_cases c8 : 2 < (t138.length : Int)
    ·rw [if_pos c8] at H
     have c8b0 : decide (2 < (t138.length : Int)) = true := decide_eq_true c8
     have c8b1 : decide (2 < t138.length) = true := decide_eq_true (by omega)
     clear c8
     by_cases c9 : ((rd_T46 t138 2).f1) = 4
     ·rw [if_pos c9] at H
      have c9b0 : (((rd_T46 t138 2).f1) == 4) = true := beq_iff_eq.mpr c9
      have c9b1 : (((rd_T46 t138 2).f1) != 4) = false := bne_eq_false_iff_eq.mpr c9
      clear c9
      replace H := Option.bind_eq_some_iff.mp H
      obtain ⟨t150, A100, H⟩ := H
      replace H : (if t150 = true then (some false) else (if (t145.length : Int) = 4 then (if 0 < (t145.length : Int) then (if (((rd_T43 t145 0).f0) == 1 && (((rd_T43 t145 0).f1) == 0)) = true then (if 2 < (t145.length : Int) then (if ((rd_T43 t145 2).f0) = 5 then (if 3 < (t145.length : Int) then (some (((rd_T43 t145 3).f0) == 7)) else (none)) else (some false)) else (none)) else (some false)) else (none)) else (some false))) = some r := H
      have A10 := Aside0.mk A100
      clear A100
      by_cases c11 : t150 = true
      ·subst c11
       have H1 : (some false) = some r := by rw [if_pos rfl] at H; exact H
       clear H
       have H := H1
       clear H1
       exact absurd ((Option.some.inj H).trans hr_.out) (by decide)
      ·replace c11 := Bool.eq_false_iff.mpr c11
       subst c11
       have H1 : (if (t145.length : Int) = 4 then (if 0 < (t145.length : Int) then (if (((rd_T43 t145 0).f0) == 1 && (((rd_T43 t145 0).f1) == 0)) = true then (if 2 < (t145.length : Int) then (if ((rd_T43 t145 2).f0) = 5 then (if 3 < (t145.length : Int) then (some (((rd_T43 t145 3).f0) == 7)) else (none)) else (some false)) else (none)) else (some false)) else (none)) else (some false)) = some r := by rw [if_neg (show ¬ (false = true) by decide)] at H; exact H
       clear H
       have H := H1
       clear H1
       by_cases c12 : (t145.length : Int) = 4
       ·rw [if_pos c12] at H
        have c12b0 : ((t145.length : Int) == 4) = true := beq_iff_eq.mpr c12
        have c12b1 : ((t145.length : Int) != 4) = false := bne_eq_false_iff_eq.mpr c12
        clear c12
        by_cases c13 : 0 < (t145.length : Int)
        ·rw [if_pos c13] at H
         have c13b0 : decide (0 < (t145.length : Int)) = true := decide_eq_true c13
         have c13b1 : decide (0 < t145.length) = true := decide_eq_true (by omega)
         clear c13
         by_cases c14 : (((rd_T43 t145 0).f0) == 1 && (((rd_T43 t145 0).f1) == 0)) = true
         ·rw [if_pos c14] at H
          have c14b0 : (((rd_T43 t145 0).f0) == 1 && (((rd_T43 t145 0).f1) == 0)) = true := c14
          (try (have c14b1 : decide (((rd_T43 t145 0).f0) = 1 && (((rd_T43 t145 0).f1) == 0)) = true := by simpa using c14))
          (try (have c14b2 : (((rd_T43 t145 0).f0) == 1 && (((rd_T43 t145 0).f1) == 0)) = true := by simpa using c14))
          clear c14
          by_cases c15 : 2 < (t145.length : Int)
          ·rw [if_pos c15] at H
           have c15b0 : decide (2 < (t145.length : Int)) = true := decide_eq_true c15
           have c15b1 : decide (2 < t145.length) = true := decide_eq_true (by omega)
           clear c15
           by_cases c16 : ((rd_T43 t145 2).f0) = 5
           ·rw [if_pos c16] at H
            have c16b0 : (((rd_T43 t145 2).f0) == 5) = true := beq_iff_eq.mpr c16
            have c16b1 : (((rd_T43 t145 2).f0) != 5) = false := bne_eq_false_iff_eq.mpr c16
            clear c16
            by_cases c17 : 3 < (t145.length : Int)
            ·rw [if_pos c17] at H
             have c17b0 : decide (3 < (t145.length : Int)) = true := decide_eq_true c17
             have c17b1 : decide (3 < t145.length) = true := decide_eq_true (by omega)
             clear c17
             obtain rfl := Option.some.inj H
             go_enter Try.func10, Try.ntmps10
             go_wp2_with (first | ((with_reducible refine gate_callee (f := 22) rfl ?_); refine goesL_ (some 4) rfl rfl Try.func22 (by kernel_rfl) rfl #[] rfl (by (try simp only [List.map_toArray, List.map_cons, List.map_nil]); first | done | rfl | (simp only [List.length_drop, List.length_take]; rfl)) ?_; (with_reducible refine (entrepotlaw08_tour.calls  t119 t120 t121 t122 t123 t124 t125 t128 _ A1.out).mono ?_); rintro e w18 ⟨v126, v129, rfl, ho0, ho1, hb⟩; refine ⟨_, rfl, ?_⟩; have n0_ := Aside0.mk (Kd.R_lower ho0 (below_size (by repeat (first | (with_reducible first | exact HB.out | apply below_alloc | apply pw_below_drewN | apply below_drew1) | exact HB.out)))); have n1_ := Aside0.mk (Kd.R_lower ho1 (below_size (by repeat (first | (with_reducible first | exact HB.out | apply below_alloc | apply pw_below_drewN | apply below_drew1) | exact HB.out)))); have n2_ := Aside0.mk (below_step (by repeat (first | (with_reducible first | exact HB.out | apply below_alloc | apply pw_below_drewN | apply below_drew1) | exact HB.out)) hb); clear HB; have HO127 := n0_; have HO130 := n1_; have HB := n2_; clear n0_ n1_ n2_; (try clear hb); (try clear hb2); (try clear hk); (try clear hi); (try clear ho0); (try clear ho1)) | ((with_reducible refine gate_dst (N := 1) rfl ?_); (try (refine gate_guard (by rfl) ?_; dsimp only)); refine box_event ?hg (N := 1) ?hd (cs := #[.string (⟨#[]⟩ : ByteArray), .int .i64 0, .int .i64 0, .int .i64 0, .int .i64 0, .int .i64 0, .slice none 0 0, .slice none 0 0]) (t := 25) ?hr ?_; (case hd => rfl); (case hg => rfl); (case hr => first | (go_simp; done) | (go_simp; rfl)); intro gb131 hg w19 hbox hb; have n0_ := Aside0.mk (Kd.R_below (by (with_reducible repeat (first | apply Kd.R_alloc | apply Kd.R_drewN | apply Kd.R_drew)); exact HO127.out) hb); have n1_ := Aside0.mk (Kd.R_below (by (with_reducible repeat (first | apply Kd.R_alloc | apply Kd.R_drewN | apply Kd.R_drew)); exact HO130.out) hb); have n2_ := Aside0.mk (below_step (by repeat (first | (with_reducible first | exact HB.out | apply below_alloc | apply pw_below_drewN | apply below_drew1) | exact HB.out)) hb); have n3_ := Aside0.mk (hbox); have n4_ := Aside0.mk ((by rw [hg]; exact (below_size (by repeat (first | (with_reducible first | exact HB.out | apply below_alloc | apply pw_below_drewN | apply below_drew1) | exact HB.out))) : w.heap.size ≤ gb131)); have n5_ := Aside0.mk ((by rw [hg]; exact (below_size (by repeat (first | (with_reducible first | exact HB.out | apply below_alloc | apply pw_below_drewN | apply below_drew1) | exact HB.out))) : w.heap.size ≤ gb131)); clear HO127; clear HO130; clear HB; have HO127 := n0_; have HO130 := n1_; have HB := n2_; have BK131 := n3_; have GW131 := n4_; have GE131 := n5_; clear n0_ n1_ n2_ n3_ n4_ n5_; clear hb hbox hg; obtain ⟨hcz20_0, hcz20_1, hcz20_2, hcz20_3, hcz20_4, hcz20_5, hcz20_6, hcz20_7, hfz20_0, hfz20_1, hfz20_2, hfz20_3, hfz20_4, hfz20_5, hfz20_6, hfz20_7⟩ := blk8_ BK131.out; obtain ⟨Ao21, co21, eo21⟩ := Kd.R_slice HO127.out; subst eo21; obtain ⟨Ao22, co22, eo22⟩ := Kd.R_slice HO130.out; subst eo22) | ((with_reducible refine gate_callee (f := 18) rfl ?_); refine goesL_ (some 6) rfl rfl Try.func18 (by kernel_rfl) rfl #[.agg #[.string t119, .int .i64 t120, .int .i64 t121, .int .i64 t122, .int .i64 t123, .int .i64 t124, .slice Ao21 t125.length co21, .slice Ao22 t128.length co22]] rfl (by (try simp only [List.map_toArray, List.map_cons, List.map_nil]); first | done | rfl | (simp only [List.length_drop, List.length_take]; rfl)) ?_; (with_reducible refine (canon_Norm.calls t119 t120 t121 t122 t123 t124 _ _ t125 _ _ t128 t132 t133 t134 t135 t136 t137 t138 t141 _ ?side1 ?side2 ?side3 ?side4 A2.out).mono ?_); (case side1 => refine (Kd.R_reads' (e := 46) (base := w.heap.size) (ok := fun k_ => True) (n := t125.length) (c := co21) ?_).2.2; exact (by (with_reducible repeat (first | apply Kd.R_alloc | apply Kd.R_drewN | apply Kd.R_drew)); exact (Kd.R_mono (Kd.R_far (p := ⟨gb131, 7, none⟩) (Kd.R_far (p := ⟨gb131, 6, none⟩) (Kd.R_far (p := ⟨gb131, 5, none⟩) (Kd.R_far (p := ⟨gb131, 4, none⟩) (Kd.R_far (p := ⟨gb131, 3, none⟩) (Kd.R_far (p := ⟨gb131, 2, none⟩) (Kd.R_far (p := ⟨gb131, 1, none⟩) (Kd.R_far (p := ⟨gb131, 0, none⟩) (Kd.R_types HO127.out BK131.out (by decide)) (fun _ hk => hk.2) (.string t119)) (fun _ hk => hk.2) (.int .i64 t120)) (fun _ hk => hk.2) (.int .i64 t121)) (fun _ hk => hk.2) (.int .i64 t122)) (fun _ hk => hk.2) (.int .i64 t123)) (fun _ hk => hk.2) (.int .i64 t124)) (fun _ hk => hk.2) (.slice Ao21 t125.length co21)) (fun _ hk => hk.2) (.slice Ao22 t128.length co22)) (fun _ h_ => h_.1)))); (case side2 => exact (Kd.R_reads' HO127.out).2.1); (case side3 => refine (Kd.R_reads' (e := 3) (base := w.heap.size) (ok := fun k_ => True) (n := t128.length) (c := co22) ?_).2.2; exact (by (with_reducible repeat (first | apply Kd.R_alloc | apply Kd.R_drewN | apply Kd.R_drew)); exact (Kd.R_mono (Kd.R_far (p := ⟨gb131, 7, none⟩) (Kd.R_far (p := ⟨gb131, 6, none⟩) (Kd.R_far (p := ⟨gb131, 5, none⟩) (Kd.R_far (p := ⟨gb131, 4, none⟩) (Kd.R_far (p := ⟨gb131, 3, none⟩) (Kd.R_far (p := ⟨gb131, 2, none⟩) (Kd.R_far (p := ⟨gb131, 1, none⟩) (Kd.R_far (p := ⟨gb131, 0, none⟩) (Kd.R_types HO130.out BK131.out (by decide)) (fun _ hk => hk.2) (.string t119)) (fun _ hk => hk.2) (.int .i64 t120)) (fun _ hk => hk.2) (.int .i64 t121)) (fun _ hk => hk.2) (.int .i64 t122)) (fun _ hk => hk.2) (.int .i64 t123)) (fun _ hk => hk.2) (.int .i64 t124)) (fun _ hk => hk.2) (.slice Ao21 t125.length co21)) (fun _ hk => hk.2) (.slice Ao22 t128.length co22)) (fun _ h_ => h_.1)))); (case side4 => exact (Kd.R_reads' HO130.out).2.1); rintro e w23 ⟨v139, v142, rfl, ho0, ho1, hb⟩; refine ⟨_, rfl, ?_⟩; have n0_ := Aside0.mk (Kd.R_elder' (by (with_reducible repeat (first | apply Kd.R_alloc | apply Kd.R_drewN | apply Kd.R_drew)); exact (Kd.R_mono (Kd.R_far (p := ⟨gb131, 7, none⟩) (Kd.R_far (p := ⟨gb131, 6, none⟩) (Kd.R_far (p := ⟨gb131, 5, none⟩) (Kd.R_far (p := ⟨gb131, 4, none⟩) (Kd.R_far (p := ⟨gb131, 3, none⟩) (Kd.R_far (p := ⟨gb131, 2, none⟩) (Kd.R_far (p := ⟨gb131, 1, none⟩) (Kd.R_far (p := ⟨gb131, 0, none⟩) (Kd.R_types HO127.out BK131.out (by decide)) (fun _ hk => hk.2) (.string t119)) (fun _ hk => hk.2) (.int .i64 t120)) (fun _ hk => hk.2) (.int .i64 t121)) (fun _ hk => hk.2) (.int .i64 t122)) (fun _ hk => hk.2) (.int .i64 t123)) (fun _ hk => hk.2) (.int .i64 t124)) (fun _ hk => hk.2) (.slice Ao21 t125.length co21)) (fun _ hk => hk.2) (.slice Ao22 t128.length co22)) (fun _ h_ => h_.1))) (Kd.R_base ho0) hb); have n1_ := Aside0.mk (Kd.R_elder' (by (with_reducible repeat (first | apply Kd.R_alloc | apply Kd.R_drewN | apply Kd.R_drew)); exact (Kd.R_mono (Kd.R_far (p := ⟨gb131, 7, none⟩) (Kd.R_far (p := ⟨gb131, 6, none⟩) (Kd.R_far (p := ⟨gb131, 5, none⟩) (Kd.R_far (p := ⟨gb131, 4, none⟩) (Kd.R_far (p := ⟨gb131, 3, none⟩) (Kd.R_far (p := ⟨gb131, 2, none⟩) (Kd.R_far (p := ⟨gb131, 1, none⟩) (Kd.R_far (p := ⟨gb131, 0, none⟩) (Kd.R_types HO130.out BK131.out (by decide)) (fun _ hk => hk.2) (.string t119)) (fun _ hk => hk.2) (.int .i64 t120)) (fun _ hk => hk.2) (.int .i64 t121)) (fun _ hk => hk.2) (.int .i64 t122)) (fun _ hk => hk.2) (.int .i64 t123)) (fun _ hk => hk.2) (.int .i64 t124)) (fun _ hk => hk.2) (.slice Ao21 t125.length co21)) (fun _ hk => hk.2) (.slice Ao22 t128.length co22)) (fun _ h_ => h_.1))) (Kd.R_base ho1) hb); have n2_ := Aside0.mk (Kd.R_lower (Kd.R_new' ho0 (Kd.R_lt (by (with_reducible repeat (first | apply Kd.R_alloc | apply Kd.R_drewN | apply Kd.R_drew)); exact (Kd.R_mono (Kd.R_far (p := ⟨gb131, 7, none⟩) (Kd.R_far (p := ⟨gb131, 6, none⟩) (Kd.R_far (p := ⟨gb131, 5, none⟩) (Kd.R_far (p := ⟨gb131, 4, none⟩) (Kd.R_far (p := ⟨gb131, 3, none⟩) (Kd.R_far (p := ⟨gb131, 2, none⟩) (Kd.R_far (p := ⟨gb131, 1, none⟩) (Kd.R_far (p := ⟨gb131, 0, none⟩) (Kd.R_types HO127.out BK131.out (by decide)) (fun _ hk => hk.2) (.string t119)) (fun _ hk => hk.2) (.int .i64 t120)) (fun _ hk => hk.2) (.int .i64 t121)) (fun _ hk => hk.2) (.int .i64 t122)) (fun _ hk => hk.2) (.int .i64 t123)) (fun _ hk => hk.2) (.int .i64 t124)) (fun _ hk => hk.2) (.slice Ao21 t125.length co21)) (fun _ hk => hk.2) (.slice Ao22 t128.length co22)) (fun _ h_ => h_.1))))) (below_size (by repeat (first | (with_reducible first | exact HB.out | apply below_alloc | apply pw_below_drewN | apply below_drew1 | refine below_set ?_ GE131.out) | exact HB.out)))); have n3_ := Aside0.mk (Kd.R_lower (Kd.R_new' ho1 (Kd.R_lt (by (with_reducible repeat (first | apply Kd.R_alloc | apply Kd.R_drewN | apply Kd.R_drew)); exact (Kd.R_mono (Kd.R_far (p := ⟨gb131, 7, none⟩) (Kd.R_far (p := ⟨gb131, 6, none⟩) (Kd.R_far (p := ⟨gb131, 5, none⟩) (Kd.R_far (p := ⟨gb131, 4, none⟩) (Kd.R_far (p := ⟨gb131, 3, none⟩) (Kd.R_far (p := ⟨gb131, 2, none⟩) (Kd.R_far (p := ⟨gb131, 1, none⟩) (Kd.R_far (p := ⟨gb131, 0, none⟩) (Kd.R_types HO130.out BK131.out (by decide)) (fun _ hk => hk.2) (.string t119)) (fun _ hk => hk.2) (.int .i64 t120)) (fun _ hk => hk.2) (.int .i64 t121)) (fun _ hk => hk.2) (.int .i64 t122)) (fun _ hk => hk.2) (.int .i64 t123)) (fun _ hk => hk.2) (.int .i64 t124)) (fun _ hk => hk.2) (.slice Ao21 t125.length co21)) (fun _ hk => hk.2) (.slice Ao22 t128.length co22)) (fun _ h_ => h_.1))))) (below_size (by repeat (first | (with_reducible first | exact HB.out | apply below_alloc | apply pw_below_drewN | apply below_drew1 | refine below_set ?_ GE131.out) | exact HB.out)))); have n4_ := Aside0.mk (blk_below (g := gb131) (o := .cells #[.string t119, .int .i64 t120, .int .i64 t121, .int .i64 t122, .int .i64 t123, .int .i64 t124, .slice Ao21 t125.length co21, .slice Ao22 t128.length co22] 25 (0, 0)) (by (with_reducible repeat (first | refine blk_drewN ?_ _ | refine blk_drew ?_ | refine blk_alloc ?_ _)); refine blk_put (cs := #[.string t119, .int .i64 t120, .int .i64 t121, .int .i64 t122, .int .i64 t123, .int .i64 t124, .slice Ao21 t125.length co21, .slice none 0 0]) ?_ 7 _ rfl; (with_reducible repeat (first | refine blk_drewN ?_ _ | refine blk_drew ?_ | refine blk_alloc ?_ _)); refine blk_put (cs := #[.string t119, .int .i64 t120, .int .i64 t121, .int .i64 t122, .int .i64 t123, .int .i64 t124, .slice none 0 0, .slice none 0 0]) ?_ 6 _ rfl; (with_reducible repeat (first | refine blk_drewN ?_ _ | refine blk_drew ?_ | refine blk_alloc ?_ _)); refine blk_put (cs := #[.string t119, .int .i64 t120, .int .i64 t121, .int .i64 t122, .int .i64 t123, .int .i64 0, .slice none 0 0, .slice none 0 0]) ?_ 5 _ rfl; (with_reducible repeat (first | refine blk_drewN ?_ _ | refine blk_drew ?_ | refine blk_alloc ?_ _)); refine blk_put (cs := #[.string t119, .int .i64 t120, .int .i64 t121, .int .i64 t122, .int .i64 0, .int .i64 0, .slice none 0 0, .slice none 0 0]) ?_ 4 _ rfl; (with_reducible repeat (first | refine blk_drewN ?_ _ | refine blk_drew ?_ | refine blk_alloc ?_ _)); refine blk_put (cs := #[.string t119, .int .i64 t120, .int .i64 t121, .int .i64 0, .int .i64 0, .int .i64 0, .slice none 0 0, .slice none 0 0]) ?_ 3 _ rfl; (with_reducible repeat (first | refine blk_drewN ?_ _ | refine blk_drew ?_ | refine blk_alloc ?_ _)); refine blk_put (cs := #[.string t119, .int .i64 t120, .int .i64 0, .int .i64 0, .int .i64 0, .int .i64 0, .slice none 0 0, .slice none 0 0]) ?_ 2 _ rfl; (with_reducible repeat (first | refine blk_drewN ?_ _ | refine blk_drew ?_ | refine blk_alloc ?_ _)); refine blk_put (cs := #[.string t119, .int .i64 0, .int .i64 0, .int .i64 0, .int .i64 0, .int .i64 0, .slice none 0 0, .slice none 0 0]) ?_ 1 _ rfl; (with_reducible repeat (first | refine blk_drewN ?_ _ | refine blk_drew ?_ | refine blk_alloc ?_ _)); refine blk_put (cs := #[.string (⟨#[]⟩ : ByteArray), .int .i64 0, .int .i64 0, .int .i64 0, .int .i64 0, .int .i64 0, .slice none 0 0, .slice none 0 0]) ?_ 0 _ rfl; (with_reducible repeat (first | refine blk_drewN ?_ _ | refine blk_drew ?_ | refine blk_alloc ?_ _)); exact BK131.out) hb); have n5_ := Aside0.mk (below_step (by repeat (first | (with_reducible first | exact HB.out | apply below_alloc | apply pw_below_drewN | apply below_drew1 | refine below_set ?_ GE131.out) | exact HB.out)) hb); clear HO127; clear HO130; clear BK131; clear HB; have HO127 := n0_; have HO130 := n1_; have HO140 := n2_; have HO143 := n3_; have BK131 := n4_; have HB := n5_; clear n0_ n1_ n2_ n3_ n4_ n5_; (try clear hb); (try clear hb2); (try clear hk); (try clear hi); (try clear ho0); (try clear ho1)) | ((with_reducible refine gate_dst (N := 2) rfl ?_); (try (refine gate_guard (by rfl) ?_; dsimp only)); refine box_event ?hg (N := 2) ?hd (cs := #[.string (⟨#[]⟩ : ByteArray), .int .i64 0, .int .i64 0, .int .i64 0, .int .i64 0, .int .i64 0, .slice none 0 0, .slice none 0 0]) (t := 25) ?hr ?_; (case hd => rfl); (case hg => rfl); (case hr => first | (go_simp; done) | (go_simp; rfl)); intro gb144 hg w24 hbox hb; have n0_ := Aside0.mk (Kd.R_below (by (with_reducible repeat (first | apply Kd.R_alloc | apply Kd.R_drewN | apply Kd.R_drew)); exact HO127.out) hb); have n1_ := Aside0.mk (Kd.R_below (by (with_reducible repeat (first | apply Kd.R_alloc | apply Kd.R_drewN | apply Kd.R_drew)); exact HO130.out) hb); have n2_ := Aside0.mk (Kd.R_below (by (with_reducible repeat (first | apply Kd.R_alloc | apply Kd.R_drewN | apply Kd.R_drew)); exact HO140.out) hb); have n3_ := Aside0.mk (Kd.R_below (by (with_reducible repeat (first | apply Kd.R_alloc | apply Kd.R_drewN | apply Kd.R_drew)); exact HO143.out) hb); have n4_ := Aside0.mk (blk_below (g := gb131) (o := .cells #[.string t119, .int .i64 t120, .int .i64 t121, .int .i64 t122, .int .i64 t123, .int .i64 t124, .slice Ao21 t125.length co21, .slice Ao22 t128.length co22] 25 (0, 0)) (by (with_reducible repeat (first | refine blk_drewN ?_ _ | refine blk_drew ?_ | refine blk_alloc ?_ _)); exact BK131.out) hb); have n5_ := Aside0.mk (below_step (by repeat (first | (with_reducible first | exact HB.out | apply below_alloc | apply pw_below_drewN | apply below_drew1 | refine below_set ?_ GE131.out) | exact HB.out)) hb); have n6_ := Aside0.mk (hbox); have n7_ := Aside0.mk ((by rw [hg]; exact (below_size (by repeat (first | (with_reducible first | exact HB.out | apply below_alloc | apply pw_below_drewN | apply below_drew1 | refine below_set ?_ GE131.out) | exact HB.out))) : w.heap.size ≤ gb144)); have n8_ := Aside0.mk ((by rw [hg]; exact (below_size (by repeat (first | (with_reducible first | exact HB.out | apply below_alloc | apply pw_below_drewN | apply below_drew1 | refine below_set ?_ GE131.out) | exact HB.out))) : w.heap.size ≤ gb144)); have n9_ := Aside0.mk ((by rw [hg]; exact Nat.ne_of_lt (blk_lt (g := gb131) (o := .cells #[.string t119, .int .i64 t120, .int .i64 t121, .int .i64 t122, .int .i64 t123, .int .i64 t124, .slice Ao21 t125.length co21, .slice Ao22 t128.length co22] 25 (0, 0)) (by (with_reducible repeat (first | refine blk_drewN ?_ _ | refine blk_drew ?_ | refine blk_alloc ?_ _)); exact BK131.out)) : gb131 ≠ gb144)); have n10_ := Aside0.mk ((by rw [hg]; exact Nat.ne_of_gt (blk_lt (g := gb131) (o := .cells #[.string t119, .int .i64 t120, .int .i64 t121, .int .i64 t122, .int .i64 t123, .int .i64 t124, .slice Ao21 t125.length co21, .slice Ao22 t128.length co22] 25 (0, 0)) (by (with_reducible repeat (first | refine blk_drewN ?_ _ | refine blk_drew ?_ | refine blk_alloc ?_ _)); exact BK131.out)) : gb144 ≠ gb131)); clear HO127; clear HO130; clear HO140; clear HO143; clear BK131; clear HB; have HO127 := n0_; have HO130 := n1_; have HO140 := n2_; have HO143 := n3_; have BK131 := n4_; have HB := n5_; have BK144 := n6_; have GW144 := n7_; have GE144 := n8_; have NB131_144 := n9_; have NB144_131 := n10_; clear n0_ n1_ n2_ n3_ n4_ n5_ n6_ n7_ n8_ n9_ n10_; clear hb hbox hg; have hnb25 := NB144_131.out; have hnc25 := NB131_144.out; obtain ⟨hcz26_0, hcz26_1, hcz26_2, hcz26_3, hcz26_4, hcz26_5, hcz26_6, hcz26_7, hfz26_0, hfz26_1, hfz26_2, hfz26_3, hfz26_4, hfz26_5, hfz26_6, hfz26_7⟩ := blk8_ BK144.out; obtain ⟨Ao27, co27, eo27⟩ := Kd.R_slice HO140.out; subst eo27; obtain ⟨Ao28, co28, eo28⟩ := Kd.R_slice HO143.out; subst eo28) | ((with_reducible refine gate_callee (f := 11) rfl ?_); refine goesL_ (some 8) rfl rfl Try.func11 (by kernel_rfl) rfl #[.agg #[.string (⟨#[]⟩ : ByteArray), .int .i64 0, .int .i64 0, .int .i64 0, .int .i64 0, .int .i64 0, .slice none 0 0, .slice none 0 0]] rfl (by (try simp only [List.map_toArray, List.map_cons, List.map_nil]); first | done | rfl | (simp only [List.length_drop, List.length_take]; rfl)) ?_; (refine (canon_Check.calls (⟨#[]⟩ : ByteArray) 0 0 0 0 0 _ _ ([] : List (S46)) _ _ ([] : List Int) t145 _ ?side1 ?side2 ?side3 ?side4 A3.out).mono ?_); (case side1 => exact Kd.C_nil _ _); (case side2 => exact Nat.le_refl _); (case side3 => exact Kd.C_nil _ _); (case side4 => exact Nat.le_refl _); rintro e w29 ⟨v146, rfl, ho0, hb⟩; refine ⟨_, rfl, ?_⟩; have n0_ := Aside0.mk (Kd.R_below (by (with_reducible repeat (first | apply Kd.R_alloc | apply Kd.R_drewN | apply Kd.R_drew)); exact (Kd.R_mono (Kd.R_far (p := ⟨gb144, 7, none⟩) (Kd.R_far (p := ⟨gb144, 6, none⟩) (Kd.R_far (p := ⟨gb144, 5, none⟩) (Kd.R_far (p := ⟨gb144, 4, none⟩) (Kd.R_far (p := ⟨gb144, 3, none⟩) (Kd.R_far (p := ⟨gb144, 2, none⟩) (Kd.R_far (p := ⟨gb144, 1, none⟩) (Kd.R_far (p := ⟨gb144, 0, none⟩) (Kd.R_types HO127.out BK144.out (by decide)) (fun _ hk => hk.2) (.string t132)) (fun _ hk => hk.2) (.int .i64 t133)) (fun _ hk => hk.2) (.int .i64 t134)) (fun _ hk => hk.2) (.int .i64 t135)) (fun _ hk => hk.2) (.int .i64 t136)) (fun _ hk => hk.2) (.int .i64 t137)) (fun _ hk => hk.2) (.slice Ao27 t138.length co27)) (fun _ hk => hk.2) (.slice Ao28 t141.length co28)) (fun _ h_ => h_.1))) hb); have n1_ := Aside0.mk (Kd.R_below (by (with_reducible repeat (first | apply Kd.R_alloc | apply Kd.R_drewN | apply Kd.R_drew)); exact (Kd.R_mono (Kd.R_far (p := ⟨gb144, 7, none⟩) (Kd.R_far (p := ⟨gb144, 6, none⟩) (Kd.R_far (p := ⟨gb144, 5, none⟩) (Kd.R_far (p := ⟨gb144, 4, none⟩) (Kd.R_far (p := ⟨gb144, 3, none⟩) (Kd.R_far (p := ⟨gb144, 2, none⟩) (Kd.R_far (p := ⟨gb144, 1, none⟩) (Kd.R_far (p := ⟨gb144, 0, none⟩) (Kd.R_types HO130.out BK144.out (by decide)) (fun _ hk => hk.2) (.string t132)) (fun _ hk => hk.2) (.int .i64 t133)) (fun _ hk => hk.2) (.int .i64 t134)) (fun _ hk => hk.2) (.int .i64 t135)) (fun _ hk => hk.2) (.int .i64 t136)) (fun _ hk => hk.2) (.int .i64 t137)) (fun _ hk => hk.2) (.slice Ao27 t138.length co27)) (fun _ hk => hk.2) (.slice Ao28 t141.length co28)) (fun _ h_ => h_.1))) hb); have n2_ := Aside0.mk (Kd.R_below (by (with_reducible repeat (first | apply Kd.R_alloc | apply Kd.R_drewN | apply Kd.R_drew)); exact (Kd.R_mono (Kd.R_far (p := ⟨gb144, 7, none⟩) (Kd.R_far (p := ⟨gb144, 6, none⟩) (Kd.R_far (p := ⟨gb144, 5, none⟩) (Kd.R_far (p := ⟨gb144, 4, none⟩) (Kd.R_far (p := ⟨gb144, 3, none⟩) (Kd.R_far (p := ⟨gb144, 2, none⟩) (Kd.R_far (p := ⟨gb144, 1, none⟩) (Kd.R_far (p := ⟨gb144, 0, none⟩) (Kd.R_types HO140.out BK144.out (by decide)) (fun _ hk => hk.2) (.string t132)) (fun _ hk => hk.2) (.int .i64 t133)) (fun _ hk => hk.2) (.int .i64 t134)) (fun _ hk => hk.2) (.int .i64 t135)) (fun _ hk => hk.2) (.int .i64 t136)) (fun _ hk => hk.2) (.int .i64 t137)) (fun _ hk => hk.2) (.slice Ao27 t138.length co27)) (fun _ hk => hk.2) (.slice Ao28 t141.length co28)) (fun _ h_ => h_.1))) hb); have n3_ := Aside0.mk (Kd.R_below (by (with_reducible repeat (first | apply Kd.R_alloc | apply Kd.R_drewN | apply Kd.R_drew)); exact (Kd.R_mono (Kd.R_far (p := ⟨gb144, 7, none⟩) (Kd.R_far (p := ⟨gb144, 6, none⟩) (Kd.R_far (p := ⟨gb144, 5, none⟩) (Kd.R_far (p := ⟨gb144, 4, none⟩) (Kd.R_far (p := ⟨gb144, 3, none⟩) (Kd.R_far (p := ⟨gb144, 2, none⟩) (Kd.R_far (p := ⟨gb144, 1, none⟩) (Kd.R_far (p := ⟨gb144, 0, none⟩) (Kd.R_types HO143.out BK144.out (by decide)) (fun _ hk => hk.2) (.string t132)) (fun _ hk => hk.2) (.int .i64 t133)) (fun _ hk => hk.2) (.int .i64 t134)) (fun _ hk => hk.2) (.int .i64 t135)) (fun _ hk => hk.2) (.int .i64 t136)) (fun _ hk => hk.2) (.int .i64 t137)) (fun _ hk => hk.2) (.slice Ao27 t138.length co27)) (fun _ hk => hk.2) (.slice Ao28 t141.length co28)) (fun _ h_ => h_.1))) hb); have n4_ := Aside0.mk (Kd.R_lower ho0 (below_size (by repeat (first | (with_reducible first | exact HB.out | apply below_alloc | apply pw_below_drewN | apply below_drew1 | refine below_set ?_ GE131.out | refine below_set ?_ GE144.out) | exact HB.out)))); have n5_ := Aside0.mk (blk_below (g := gb131) (o := .cells #[.string t119, .int .i64 t120, .int .i64 t121, .int .i64 t122, .int .i64 t123, .int .i64 t124, .slice Ao21 t125.length co21, .slice Ao22 t128.length co22] 25 (0, 0)) (by (with_reducible repeat (first | refine blk_drewN ?_ _ | refine blk_drew ?_ | refine blk_alloc ?_ _)); refine blk_far ?_ NB131_144.out _; (with_reducible repeat (first | refine blk_drewN ?_ _ | refine blk_drew ?_ | refine blk_alloc ?_ _)); refine blk_far ?_ NB131_144.out _; (with_reducible repeat (first | refine blk_drewN ?_ _ | refine blk_drew ?_ | refine blk_alloc ?_ _)); refine blk_far ?_ NB131_144.out _; (with_reducible repeat (first | refine blk_drewN ?_ _ | refine blk_drew ?_ | refine blk_alloc ?_ _)); refine blk_far ?_ NB131_144.out _; (with_reducible repeat (first | refine blk_drewN ?_ _ | refine blk_drew ?_ | refine blk_alloc ?_ _)); refine blk_far ?_ NB131_144.out _; (with_reducible repeat (first | refine blk_drewN ?_ _ | refine blk_drew ?_ | refine blk_alloc ?_ _)); refine blk_far ?_ NB131_144.out _; (with_reducible repeat (first | refine blk_drewN ?_ _ | refine blk_drew ?_ | refine blk_alloc ?_ _)); refine blk_far ?_ NB131_144.out _; (with_reducible repeat (first | refine blk_drewN ?_ _ | refine blk_drew ?_ | refine blk_alloc ?_ _)); refine blk_far ?_ NB131_144.out _; (with_reducible repeat (first | refine blk_drewN ?_ _ | refine blk_drew ?_ | refine blk_alloc ?_ _)); exact BK131.out) hb); have n6_ := Aside0.mk (blk_below (g := gb144) (o := .cells #[.string t132, .int .i64 t133, .int .i64 t134, .int .i64 t135, .int .i64 t136, .int .i64 t137, .slice Ao27 t138.length co27, .slice Ao28 t141.length co28] 25 (0, 0)) (by (with_reducible repeat (first | refine blk_drewN ?_ _ | refine blk_drew ?_ | refine blk_alloc ?_ _)); refine blk_put (cs := #[.string t132, .int .i64 t133, .int .i64 t134, .int .i64 t135, .int .i64 t136, .int .i64 t137, .slice Ao27 t138.length co27, .slice none 0 0]) ?_ 7 _ rfl; (with_reducible repeat (first | refine blk_drewN ?_ _ | refine blk_drew ?_ | refine blk_alloc ?_ _)); refine blk_put (cs := #[.string t132, .int .i64 t133, .int .i64 t134, .int .i64 t135, .int .i64 t136, .int .i64 t137, .slice none 0 0, .slice none 0 0]) ?_ 6 _ rfl; (with_reducible repeat (first | refine blk_drewN ?_ _ | refine blk_drew ?_ | refine blk_alloc ?_ _)); refine blk_put (cs := #[.string t132, .int .i64 t133, .int .i64 t134, .int .i64 t135, .int .i64 t136, .int .i64 0, .slice none 0 0, .slice none 0 0]) ?_ 5 _ rfl; (with_reducible repeat (first | refine blk_drewN ?_ _ | refine blk_drew ?_ | refine blk_alloc ?_ _)); refine blk_put (cs := #[.string t132, .int .i64 t133, .int .i64 t134, .int .i64 t135, .int .i64 0, .int .i64 0, .slice none 0 0, .slice none 0 0]) ?_ 4 _ rfl; (with_reducible repeat (first | refine blk_drewN ?_ _ | refine blk_drew ?_ | refine blk_alloc ?_ _)); refine blk_put (cs := #[.string t132, .int .i64 t133, .int .i64 t134, .int .i64 0, .int .i64 0, .int .i64 0, .slice none 0 0, .slice none 0 0]) ?_ 3 _ rfl; (with_reducible repeat (first | refine blk_drewN ?_ _ | refine blk_drew ?_ | refine blk_alloc ?_ _)); refine blk_put (cs := #[.string t132, .int .i64 t133, .int .i64 0, .int .i64 0, .int .i64 0, .int .i64 0, .slice none 0 0, .slice none 0 0]) ?_ 2 _ rfl; (with_reducible repeat (first | refine blk_drewN ?_ _ | refine blk_drew ?_ | refine blk_alloc ?_ _)); refine blk_put (cs := #[.string t132, .int .i64 0, .int .i64 0, .int .i64 0, .int .i64 0, .int .i64 0, .slice none 0 0, .slice none 0 0]) ?_ 1 _ rfl; (with_reducible repeat (first | refine blk_drewN ?_ _ | refine blk_drew ?_ | refine blk_alloc ?_ _)); refine blk_put (cs := #[.string (⟨#[]⟩ : ByteArray), .int .i64 0, .int .i64 0, .int .i64 0, .int .i64 0, .int .i64 0, .slice none 0 0, .slice none 0 0]) ?_ 0 _ rfl; (with_reducible repeat (first | refine blk_drewN ?_ _ | refine blk_drew ?_ | refine blk_alloc ?_ _)); exact BK144.out) hb); have n7_ := Aside0.mk (below_step (by repeat (first | (with_reducible first | exact HB.out | apply below_alloc | apply pw_below_drewN | apply below_drew1 | refine below_set ?_ GE131.out | refine below_set ?_ GE144.out) | exact HB.out)) hb); clear HO127; clear HO130; clear HO140; clear HO143; clear BK131; clear BK144; clear HB; have HO127 := n0_; have HO130 := n1_; have HO140 := n2_; have HO143 := n3_; have HO147 := n4_; have BK131 := n5_; have BK144 := n6_; have HB := n7_; clear n0_ n1_ n2_ n3_ n4_ n5_ n6_ n7_; (try clear hb); (try clear hb2); (try clear hk); (try clear hi); (try clear ho0); obtain ⟨hcz30_0, hcz30_1, hcz30_2, hcz30_3, hcz30_4, hcz30_5, hcz30_6, hcz30_7, hfz30_0, hfz30_1, hfz30_2, hfz30_3, hfz30_4, hfz30_5, hfz30_6, hfz30_7⟩ := blk8_ BK131.out) | ((with_reducible refine gate_callee (f := 16) rfl ?_); refine goesL_ (some 10) rfl rfl Try.func16 (by kernel_rfl) rfl #[.agg #[.string t119, .int .i64 t120, .int .i64 t121, .int .i64 t122, .int .i64 t123, .int .i64 t124, .slice Ao21 t125.length co21, .slice Ao22 t128.length co22]] rfl (by (try simp only [List.map_toArray, List.map_cons, List.map_nil]); first | done | rfl | (simp only [List.length_drop, List.length_take]; rfl)) ?_; (with_reducible refine (canon_Well.calls t119 t120 t121 t122 t123 t124 _ _ t125 _ _ t128 true _ ?side1 ?side2 ?side3 ?side4 A4.out).mono ?_); (case side1 => repeat (first | exact (Kd.R_reads' HO127.out).2.2 | (with_reducible refine Kd.C_alloc ?_ _) | (with_reducible refine Kd.C_drewN ?_ _) | (with_reducible refine Kd.C_drew ?_))); (case side2 => exact (Kd.R_reads' HO127.out).2.1); (case side3 => repeat (first | exact (Kd.R_reads' HO130.out).2.2 | (with_reducible refine Kd.C_alloc ?_ _) | (with_reducible refine Kd.C_drewN ?_ _) | (with_reducible refine Kd.C_drew ?_))); (case side4 => exact (Kd.R_reads' HO130.out).2.1); rintro e w31 ⟨rfl, hb⟩; refine ⟨_, rfl, ?_⟩; have n0_ := Aside0.mk (Kd.R_below (by (with_reducible repeat (first | apply Kd.R_alloc | apply Kd.R_drewN | apply Kd.R_drew)); exact HO127.out) hb); have n1_ := Aside0.mk (Kd.R_below (by (with_reducible repeat (first | apply Kd.R_alloc | apply Kd.R_drewN | apply Kd.R_drew)); exact HO130.out) hb); have n2_ := Aside0.mk (Kd.R_below (by (with_reducible repeat (first | apply Kd.R_alloc | apply Kd.R_drewN | apply Kd.R_drew)); exact HO140.out) hb); have n3_ := Aside0.mk (Kd.R_below (by (with_reducible repeat (first | apply Kd.R_alloc | apply Kd.R_drewN | apply Kd.R_drew)); exact HO143.out) hb); have n4_ := Aside0.mk (Kd.R_below (by (with_reducible repeat (first | apply Kd.R_alloc | apply Kd.R_drewN | apply Kd.R_drew)); exact HO147.out) hb); have n5_ := Aside0.mk (blk_below (g := gb131) (o := .cells #[.string t119, .int .i64 t120, .int .i64 t121, .int .i64 t122, .int .i64 t123, .int .i64 t124, .slice Ao21 t125.length co21, .slice Ao22 t128.length co22] 25 (0, 0)) (by (with_reducible repeat (first | refine blk_drewN ?_ _ | refine blk_drew ?_ | refine blk_alloc ?_ _)); exact BK131.out) hb); have n6_ := Aside0.mk (blk_below (g := gb144) (o := .cells #[.string t132, .int .i64 t133, .int .i64 t134, .int .i64 t135, .int .i64 t136, .int .i64 t137, .slice Ao27 t138.length co27, .slice Ao28 t141.length co28] 25 (0, 0)) (by (with_reducible repeat (first | refine blk_drewN ?_ _ | refine blk_drew ?_ | refine blk_alloc ?_ _)); exact BK144.out) hb); have n7_ := Aside0.mk (below_step (by repeat (first | (with_reducible first | exact HB.out | apply below_alloc | apply pw_below_drewN | apply below_drew1 | refine below_set ?_ GE131.out | refine below_set ?_ GE144.out) | exact HB.out)) hb); clear HO127; clear HO130; clear HO140; clear HO143; clear HO147; clear BK131; clear BK144; clear HB; have HO127 := n0_; have HO130 := n1_; have HO140 := n2_; have HO143 := n3_; have HO147 := n4_; have BK131 := n5_; have BK144 := n6_; have HB := n7_; clear n0_ n1_ n2_ n3_ n4_ n5_ n6_ n7_; (try clear hb); (try clear hb2); (try clear hk); (try clear hi); obtain ⟨hcz32_0, hcz32_1, hcz32_2, hcz32_3, hcz32_4, hcz32_5, hcz32_6, hcz32_7, hfz32_0, hfz32_1, hfz32_2, hfz32_3, hfz32_4, hfz32_5, hfz32_6, hfz32_7⟩ := blk8_ BK144.out; have p149 : 0 ≤ (2 : Int) := (by omega); have q149 : 2 < (t138.length : Int) := of_decide_eq_true (by first | (with_reducible assumption) | assumption); obtain ⟨ad149, e149, hx149_0, hx149_1, hx149_2, hx149_3, hx149_4, hx149_5, hx149_6⟩ := at_T46 (Kd.R_reads' HO140.out).2.2 2 p149 q149; cases e149; (try simp only [show (2 : Int).toNat = 2 from rfl, Nat.reduceMul, Nat.reduceEqDiff, Go.Addr.add, ↓reduceIte] at hx149_0); (try simp only [show (2 : Int).toNat = 2 from rfl, Nat.reduceMul, Nat.reduceEqDiff, Go.Addr.add, ↓reduceIte] at hx149_1); (try simp only [show (2 : Int).toNat = 2 from rfl, Nat.reduceMul, Nat.reduceEqDiff, Go.Addr.add, ↓reduceIte] at hx149_2); (try simp only [show (2 : Int).toNat = 2 from rfl, Nat.reduceMul, Nat.reduceEqDiff, Go.Addr.add, ↓reduceIte] at hx149_3); (try simp only [show (2 : Int).toNat = 2 from rfl, Nat.reduceMul, Nat.reduceEqDiff, Go.Addr.add, ↓reduceIte] at hx149_4); (try simp only [show (2 : Int).toNat = 2 from rfl, Nat.reduceMul, Nat.reduceEqDiff, Go.Addr.add, ↓reduceIte] at hx149_5); (try simp only [show (2 : Int).toNat = 2 from rfl, Nat.reduceMul, Nat.reduceEqDiff, Go.Addr.add, ↓reduceIte] at hx149_6); have qi149 : (2 < t138.length) = True := eq_true (by omega); (try rw [show ((2 : Int)).toNat = 2 from rfl] at hx149_0); (try rw [show 2 * 7 = 14 from rfl] at hx149_0); (try rw [show ((2 : Int)).toNat = 2 from rfl] at hx149_1); (try rw [show 2 * 7 = 14 from rfl] at hx149_1); (try rw [show ((2 : Int)).toNat = 2 from rfl] at hx149_2); (try rw [show 2 * 7 = 14 from rfl] at hx149_2); (try rw [show ((2 : Int)).toNat = 2 from rfl] at hx149_3); (try rw [show 2 * 7 = 14 from rfl] at hx149_3); (try rw [show ((2 : Int)).toNat = 2 from rfl] at hx149_4); (try rw [show 2 * 7 = 14 from rfl] at hx149_4); (try rw [show ((2 : Int)).toNat = 2 from rfl] at hx149_5); (try rw [show 2 * 7 = 14 from rfl] at hx149_5); (try rw [show ((2 : Int)).toNat = 2 from rfl] at hx149_6); (try rw [show 2 * 7 = 14 from rfl] at hx149_6); replace p149 := eq_true p149; replace q149 := eq_true q149; obtain ⟨hcz33_0, hcz33_1, hcz33_2, hcz33_3, hcz33_4, hcz33_5, hcz33_6, hcz33_7, hfz33_0, hfz33_1, hfz33_2, hfz33_3, hfz33_4, hfz33_5, hfz33_6, hfz33_7⟩ := blk8_ BK131.out) | (go_at_call 20; (with_reducible refine (canon_Same.calls t119 t120 t121 t122 t123 t124 _ _ t125 _ _ t128 t132 t133 t134 t135 t136 t137 _ _ t138 _ _ t141 false _ ?side1 ?side2 ?side3 ?side4 ?side5 ?side6 ?side7 ?side8 A10.out).mono ?_); (case side1 => repeat (first | exact (Kd.R_reads' HO127.out).2.2 | (with_reducible refine Kd.C_alloc ?_ _) | (with_reducible refine Kd.C_drewN ?_ _) | (with_reducible refine Kd.C_drew ?_))); (case side2 => exact (Kd.R_reads' HO127.out).2.1); (case side3 => repeat (first | exact (Kd.R_reads' HO130.out).2.2 | (with_reducible refine Kd.C_alloc ?_ _) | (with_reducible refine Kd.C_drewN ?_ _) | (with_reducible refine Kd.C_drew ?_))); (case side4 => exact (Kd.R_reads' HO130.out).2.1); (case side5 => repeat (first | exact (Kd.R_reads' HO140.out).2.2 | (with_reducible refine Kd.C_alloc ?_ _) | (with_reducible refine Kd.C_drewN ?_ _) | (with_reducible refine Kd.C_drew ?_))); (case side6 => exact (Kd.R_reads' HO140.out).2.1); (case side7 => repeat (first | exact (Kd.R_reads' HO143.out).2.2 | (with_reducible refine Kd.C_alloc ?_ _) | (with_reducible refine Kd.C_drewN ?_ _) | (with_reducible refine Kd.C_drew ?_))); (case side8 => exact (Kd.R_reads' HO143.out).2.1); rintro e w34 ⟨rfl, hb⟩; have n0_ := Aside0.mk (Kd.R_below (by (with_reducible repeat (first | apply Kd.R_alloc | apply Kd.R_drewN | apply Kd.R_drew)); exact HO127.out) hb); have n1_ := Aside0.mk (Kd.R_below (by (with_reducible repeat (first | apply Kd.R_alloc | apply Kd.R_drewN | apply Kd.R_drew)); exact HO130.out) hb); have n2_ := Aside0.mk (Kd.R_below (by (with_reducible repeat (first | apply Kd.R_alloc | apply Kd.R_drewN | apply Kd.R_drew)); exact HO140.out) hb); have n3_ := Aside0.mk (Kd.R_below (by (with_reducible repeat (first | apply Kd.R_alloc | apply Kd.R_drewN | apply Kd.R_drew)); exact HO143.out) hb); have n4_ := Aside0.mk (Kd.R_below (by (with_reducible repeat (first | apply Kd.R_alloc | apply Kd.R_drewN | apply Kd.R_drew)); exact HO147.out) hb); have n5_ := Aside0.mk (blk_below (g := gb131) (o := .cells #[.string t119, .int .i64 t120, .int .i64 t121, .int .i64 t122, .int .i64 t123, .int .i64 t124, .slice Ao21 t125.length co21, .slice Ao22 t128.length co22] 25 (0, 0)) (by (with_reducible repeat (first | refine blk_drewN ?_ _ | refine blk_drew ?_ | refine blk_alloc ?_ _)); exact BK131.out) hb); have n6_ := Aside0.mk (blk_below (g := gb144) (o := .cells #[.string t132, .int .i64 t133, .int .i64 t134, .int .i64 t135, .int .i64 t136, .int .i64 t137, .slice (some ad149) t138.length co27, .slice Ao28 t141.length co28] 25 (0, 0)) (by (with_reducible repeat (first | refine blk_drewN ?_ _ | refine blk_drew ?_ | refine blk_alloc ?_ _)); exact BK144.out) hb); have n7_ := Aside0.mk (below_step (by repeat (first | (with_reducible first | exact HB.out | apply below_alloc | apply pw_below_drewN | apply below_drew1 | refine below_set ?_ GE131.out | refine below_set ?_ GE144.out) | exact HB.out)) hb); clear HO127; clear HO130; clear HO140; clear HO143; clear HO147; clear BK131; clear BK144; clear HB; have HO127 := n0_; have HO130 := n1_; have HO140 := n2_; have HO143 := n3_; have HO147 := n4_; have BK131 := n5_; have BK144 := n6_; have HB := n7_; clear n0_ n1_ n2_ n3_ n4_ n5_ n6_ n7_; (try clear hb); (try clear hb2); (try clear hk); (try clear hi); obtain ⟨Ao35, co35, eo35⟩ := Kd.R_slice HO147.out; subst eo35; have p151 : 0 ≤ (0 : Int) := (by omega); have q151 : 0 < (t145.length : Int) := of_decide_eq_true (by first | (with_reducible assumption) | assumption); obtain ⟨ad151, e151, hx151_0, hx151_1⟩ := at_T43 (Kd.R_reads' HO147.out).2.2 0 p151 q151; cases e151; have qi151 : (0 < t145.length) = True := eq_true (by omega); (try rw [show ((0 : Int)).toNat = 0 from rfl] at hx151_0); (try rw [show 0 * 2 = 0 from rfl] at hx151_0); (try rw [Addr.add_zero'] at hx151_0); (try rw [show ((0 : Int)).toNat = 0 from rfl] at hx151_1); (try rw [show 0 * 2 = 0 from rfl] at hx151_1); (try rw [Addr.add_zero'] at hx151_1); replace p151 := eq_true p151; replace q151 := eq_true q151; have p152 : 0 ≤ (2 : Int) := (by omega); have q152 : 2 < (t145.length : Int) := of_decide_eq_true (by first | (with_reducible assumption) | assumption); obtain ⟨ad152, e152, hx152_0, hx152_1⟩ := at_T43 (Kd.R_reads' HO147.out).2.2 2 p152 q152; obtain rfl : ad151 = ad152 := (by injection e152); (try simp only [show (2 : Int).toNat = 2 from rfl, Nat.reduceMul, Nat.reduceEqDiff, Go.Addr.add, ↓reduceIte] at hx152_0); (try simp only [show (2 : Int).toNat = 2 from rfl, Nat.reduceMul, Nat.reduceEqDiff, Go.Addr.add, ↓reduceIte] at hx152_1); have qi152 : (2 < t145.length) = True := eq_true (by omega); (try rw [show ((2 : Int)).toNat = 2 from rfl] at hx152_0); (try rw [show 2 * 2 = 4 from rfl] at hx152_0); (try rw [show ((2 : Int)).toNat = 2 from rfl] at hx152_1); (try rw [show 2 * 2 = 4 from rfl] at hx152_1); replace p152 := eq_true p152; replace q152 := eq_true q152; have p153 : 0 ≤ (3 : Int) := (by omega); have q153 : 3 < (t145.length : Int) := of_decide_eq_true (by first | (with_reducible assumption) | assumption); obtain ⟨ad153, e153, hx153_0, hx153_1⟩ := at_T43 (Kd.R_reads' HO147.out).2.2 3 p153 q153; obtain rfl : ad151 = ad153 := (by injection e153); (try simp only [show (3 : Int).toNat = 3 from rfl, Nat.reduceMul, Nat.reduceEqDiff, Go.Addr.add, ↓reduceIte] at hx153_0); (try simp only [show (3 : Int).toNat = 3 from rfl, Nat.reduceMul, Nat.reduceEqDiff, Go.Addr.add, ↓reduceIte] at hx153_1); have qi153 : (3 < t145.length) = True := eq_true (by omega); (try rw [show ((3 : Int)).toNat = 3 from rfl] at hx153_0); (try rw [show 3 * 2 = 6 from rfl] at hx153_0); (try rw [show ((3 : Int)).toNat = 3 from rfl] at hx153_1); (try rw [show 3 * 2 = 6 from rfl] at hx153_1); replace p153 := eq_true p153; replace q153 := eq_true q153))
             go_ret
             exact ⟨by first | rfl | (simp [errW_none, errW_some] <;> rfl) | (simp [*, errW_none, errW_some] <;> rfl), by repeat (first | (with_reducible first | exact HB.out | apply below_alloc | apply pw_below_drewN | apply below_drew1 | refine below_set ?_ GE131.out | refine below_set ?_ GE144.out) | exact HB.out)⟩
            ·rw [if_neg c17] at H
             exact absurd H (by simp)
           ·rw [if_neg c16] at H
            have c16b0 : (((rd_T43 t145 2).f0) == 5) = false := beq_eq_false_iff_ne.mpr c16
            have c16b1 : (((rd_T43 t145 2).f0) != 5) = true := bne_iff_ne.mpr c16
            exact absurd ((Option.some.inj H).trans hr_.out) (by decide)
          ·rw [if_neg c15] at H
           exact absurd H (by simp)
         ·rw [if_neg c14] at H
          have c14b0 : (((rd_T43 t145 0).f0) == 1 && (((rd_T43 t145 0).f1) == 0)) = false := by simpa using c14
          (try (have c14b1 : decide (((rd_T43 t145 0).f0) = 1 && (((rd_T43 t145 0).f1) == 0)) = false := by simpa using c14))
          (try (have c14b2 : (((rd_T43 t145 0).f0) == 1 && (((rd_T43 t145 0).f1) == 0)) = false := by simpa using c14))
          (try (have c14b3 : ¬ (((rd_T43 t145 0).f0) = 1 && (((rd_T43 t145 0).f1) == 0)) := by simpa using c14))
          clear c14
          exact absurd ((Option.some.inj H).trans hr_.out) (by decide)
        ·rw [if_neg c13] at H
         exact absurd H (by simp)
       ·rw [if_neg c12] at H
        have c12b0 : ((t145.length : Int) == 4) = false := beq_eq_false_iff_ne.mpr c12
        have c12b1 : ((t145.length : Int) != 4) = true := bne_iff_ne.mpr c12
        exact absurd ((Option.some.inj H).trans hr_.out) (by decide)
     ·rw [if_neg c9] at H
      have c9b0 : (((rd_T46 t138 2).f1) == 4) = false := beq_eq_false_iff_ne.mpr c9
      have c9b1 : (((rd_T46 t138 2).f1) != 4) = true := bne_iff_ne.mpr c9
      exact absurd ((Option.some.inj H).trans hr_.out) (by decide)
    ·rw [if_neg c8] at H
     exact absurd H (by simp)
   ·rw [if_neg c7] at H
    have c7b0 : ((t138.length : Int) == 3) = false := beq_eq_false_iff_ne.mpr c7
    have c7b1 : ((t138.length : Int) != 3) = true := bne_iff_ne.mpr c7
    exact absurd ((Option.some.inj H).trans hr_.out) (by decide)
  ·rw [if_neg c6] at H
   have c6b0 : (t135 == 0) = false := beq_eq_false_iff_ne.mpr c6
   have c6b1 : (t135 != 0) = true := bne_iff_ne.mpr c6
   exact absurd ((Option.some.inj H).trans hr_.out) (by decide)
 ·replace c5 := Bool.eq_false_iff.mpr c5
  subst c5
  have H1 : (some false) = some r := by rw [if_neg (show ¬ (false = true) by decide)] at H; exact H
  clear H
  have H := H1
  clear H1
  exact absurd ((Option.some.inj H).trans hr_.out) (by decide)

theorem entrepotlaw08_shown.only : entrepotlaw08_shown.f = some true := by decide +kernel
theorem entrepotlaw08_shown.true_of {r : Bool} (h : entrepotlaw08_shown.f = some r) : r = true := Option.some.inj (h.symm.trans entrepotlaw08_shown.only)
theorem entrepotlaw08_shown.calls  (r : Bool) (w : World) (h : entrepotlaw08_shown.f  = some r) :
  Calls Try.prog 10 #[] w fun e w' => e = .returned (.bool r) ∧ Below w.heap.size w w' := entrepotlaw08_shown.callsT r w h ⟨entrepotlaw08_shown.true_of h⟩
end Go.Proofs.Ytfnnngoandpgkaa.P
namespace Go.Proofs.Ytfnnngoandpgkaa.P
open Go.RowKit Go.Proofs.YtfnnngoandpgkaaW.PrintWords Go.Proofs.YtfnnngoandpgkaaW.PrintLast Go.Proofs.YtfnnngoandpgkaaW.PrintMore
attribute [local go_sem] max2_int min2_int max_two min_two max_three min_three max_four min_four   -- for this text's walks alone
set_option linter.unusedVariables false
set_option linter.unusedSimpArgs false

/-! ### entrepotlaw08_its: function 15 -/
def entrepotlaw08_its.l0 : Nat → Int → ByteArray → Int → Int → Int → Int → Int → List (S46) → List Int → ByteArray → Int → Int → Int → Int → Int → List (S60) → List Int → Option (ByteArray × Int × Int × Int × Int × Int × (List (S60)) × List Int)
 | 0, _, _, _, _, _, _, _, _, _, _, _, _, _, _, _, _, _ => none
 | k + 1, x4, x246000, x246001, x246002, x246003, x246004, x246005, x246006, x246007, x248000, x248001, x248002, x248003, x248004, x248005, x248006, x248007 => if x4 < (x246006.length : Int) then (if 0 ≤ x4 then (if x248006.length < 2513169434916 then (entrepotlaw08_its.l0 k (wrap64 (x4 + 1)) x246000 x246001 x246002 x246003 x246004 x246005 x246006 x246007 x248000 x248001 x248002 x248003 x248004 x248005 (x248006 ++ [(⟨(rd_T46 x246006 x4).f0, (rd_T46 x246006 x4).f1, (rd_T46 x246006 x4).f2, (rd_T46 x246006 x4).f3, (rd_T46 x246006 x4).f4, (rd_T46 x246006 x4).f5, (rd_T46 x246006 x4).f6⟩ : S60)]) x248007) else (none)) else (none)) else (some (x248000, x248001, x248002, x248003, x248004, x248005, x248006, x248007))
def entrepotlaw08_its.f (k : Nat) (a0_0 : ByteArray) (a0_1 : Int) (a0_2 : Int) (a0_3 : Int) (a0_4 : Int) (a0_5 : Int) (l0_6 : List (S46)) (l0_7 : List Int) : Option (ByteArray × Int × Int × Int × Int × Int × (List (S60)) × List Int) := entrepotlaw08_its.l0 k 0 a0_0 a0_1 a0_2 a0_3 a0_4 a0_5 l0_6 l0_7 a0_0 a0_1 a0_2 a0_3 a0_4 a0_5 ([] : List (S60)) l0_7
theorem entrepotlaw08_its.mono_l : ∀ k, (∀ y0 y1 y2 y3 y4 y5 y6 y7 y8 y9 y10 y11 y12 y13 y14 y15 y16, LeO (entrepotlaw08_its.l0 k y0 y1 y2 y3 y4 y5 y6 y7 y8 y9 y10 y11 y12 y13 y14 y15 y16) (entrepotlaw08_its.l0 (k + 1) y0 y1 y2 y3 y4 y5 y6 y7 y8 y9 y10 y11 y12 y13 y14 y15 y16))
 | 0 => fun _ _ _ _ _ _ _ _ _ _ _ _ _ _ _ _ _ r h => by simp [entrepotlaw08_its.l0] at h
 | k + 1 => by
  have ih0 := entrepotlaw08_its.mono_l k
  ·intro y0 y1 y2 y3 y4 y5 y6 y7 y8 y9 y10 y11 y12 y13 y14 y15 y16
   unfold entrepotlaw08_its.l0
   repeat' first
   | (with_reducible exact ih0 _ _ _ _ _ _ _ _ _ _ _ _ _ _ _ _ _)
   | (with_reducible exact LeO.refl _)
   | (with_reducible exact LeO.none _)
   | (with_reducible refine LeO.ite ?_ ?_)
   | (with_reducible refine LeO.bind ?_ (fun _ => ?_))
   | exact ih0 _ _ _ _ _ _ _ _ _ _ _ _ _ _ _ _ _
   | exact LeO.none _
   | refine LeO.ite ?_ ?_
   | refine LeO.bind ?_ (fun _ => ?_)
theorem entrepotlaw08_its.mono : ∀ a0 a1 a2 a3 a4 a5 a6 a7 k, LeO (entrepotlaw08_its.f k a0 a1 a2 a3 a4 a5 a6 a7) (entrepotlaw08_its.f (k + 1) a0 a1 a2 a3 a4 a5 a6 a7) := by
 intro a0 a1 a2 a3 a4 a5 a6 a7 k
 have ih0 := entrepotlaw08_its.mono_l k
 unfold entrepotlaw08_its.f
 repeat' first
   | (with_reducible exact ih0 _ _ _ _ _ _ _ _ _ _ _ _ _ _ _ _ _)
   | (with_reducible exact LeO.refl _)
   | (with_reducible exact LeO.none _)
   | (with_reducible refine LeO.ite ?_ ?_)
   | (with_reducible refine LeO.bind ?_ (fun _ => ?_))
   | exact ih0 _ _ _ _ _ _ _ _ _ _ _ _ _ _ _ _ _
   | exact LeO.none _
   | refine LeO.ite ?_ ?_
   | refine LeO.bind ?_ (fun _ => ?_)
def entrepotlaw08_its.T5 : Bool × List (List Nat × List Nat) := (true, [([], []), ([0], [0]), ([], []), ([2], [2]), ([], []), ([3, 4], [3, 4]), ([5], [5]), ([6], [6]), ([1, 7], [1, 7]), ([0, 1, 2, 3, 4, 5, 6, 7, 8], []), ([9, 8, 8, 0, 1, 2, 3, 4, 5, 6, 7, 8], [8, 9])])
def entrepotlaw08_its.B5 : List Nat := [0, 1, 0, 4, 0, 28, 60, 124, 255, 511, 1023]
theorem entrepotlaw08_its.tab5 : rtab .any (opsOf Try.f15 5) = entrepotlaw08_its.T5 := by kernel_rfl
theorem entrepotlaw08_its.bits5 : waitsOk entrepotlaw08_its.T5.2 entrepotlaw08_its.B5 = true := by kernel_rfl
set_option maxHeartbeats 8000000 in
set_option maxRecDepth 100000 in
theorem entrepotlaw08_its.calls (k : Nat) (a0_0 : ByteArray) (a0_1 : Int) (a0_2 : Int) (a0_3 : Int) (a0_4 : Int) (a0_5 : Int) (A0_6 : Option Addr) (c0_6 : Nat) (l0_6 : List (S46)) (P0_7_ : Nat → Prop) (A0_7 : Option Addr) (c0_7 : Nat) (l0_7 : List Int) (r1 : ByteArray) (r2 : Int) (r3 : Int) (r4 : Int) (r5 : Int) (r6 : Int) (r7 : List (S60)) (r8 : List Int) (w : World) (hr0_6 : Kd.C k46 w A0_6 l0_6.length l0_6) (hc0_6 : l0_6.length ≤ c0_6) (hs0_7 : Kd.V (Kd.int .i64) 3 w w.heap.size (fun k_ => P0_7_ k_) (.slice A0_7 l0_7.length c0_7) l0_7) (h : entrepotlaw08_its.f k a0_0 a0_1 a0_2 a0_3 a0_4 a0_5 l0_6 l0_7 = some (r1, r2, r3, r4, r5, r6, r7, r8)) :
  Calls Try.prog 15 #[.agg #[.string a0_0, .int .i64 a0_1, .int .i64 a0_2, .int .i64 a0_3, .int .i64 a0_4, .int .i64 a0_5, .slice A0_6 l0_6.length c0_6, .slice A0_7 l0_7.length c0_7]] w fun e w' => ∃ v6_ v7_ : Value, e = .returned (.agg #[.string r1, .int .i64 r2, .int .i64 r3, .int .i64 r4, .int .i64 r5, .int .i64 r6, v6_, v7_]) ∧ Kd.R k60 60 w' w.heap.size (fun k_ => (w.heap.size ≤ k_)) v6_ r7 ∧ Kd.V (Kd.int .i64) 3 w' w.heap.size (fun k_ => (P0_7_ k_ ∨ w.heap.size ≤ k_) ∧ some k_ ≠ (v6_ : Value).ownBlock) v7_ r8 ∧ Below w.heap.size w w' := by
 have hu25 := Try.underlying25
 have hu36 := Try.underlying36
 have hu46 := Try.underlying46
 have HR0_6 := Aside0.mk hr0_6
 have HC0_6 := Aside0.mk hc0_6
 clear hr0_6 hc0_6
 have HO0_7 := Aside0.mk (show Kd.V (Kd.int .i64) 3 w w.heap.size (fun k_ => (P0_7_ k_ ∨ w.heap.size ≤ k_)) (.slice A0_7 l0_7.length c0_7) l0_7 from Kd.V_mono hs0_7 (fun k_ hk => .inl hk))
 have HB := Aside0.mk (Below.refl w.heap.size w)
 have H : (entrepotlaw08_its.l0 k 0 a0_0 a0_1 a0_2 a0_3 a0_4 a0_5 l0_6 l0_7 a0_0 a0_1 a0_2 a0_3 a0_4 a0_5 ([] : List (S60)) l0_7) = some (r1, r2, r3, r4, r5, r6, r7, r8) := h
 clear h
 have H' := Aside0.mk H
 clear H
 go_enter Try.func15, Try.ntmps15
 go_wp2_with (first | ((with_reducible refine gate_dst (N := 1) rfl ?_); refine box_event ?hg (N := 1) ?hd (cs := #[.string a0_0, .int .i64 a0_1, .int .i64 a0_2, .int .i64 a0_3, .int .i64 a0_4, .int .i64 a0_5, .slice A0_6 l0_6.length c0_6, .slice A0_7 l0_7.length c0_7]) (t := 25) ?hr ?_; (case hd => rfl); (case hg => rfl); (case hr => first | (go_simp; done) | (go_simp; rfl)); intro gb245 hg w2 hbox hb; have n0_ := Aside0.mk (Kd.V_below (Kd.V_elderB (by (with_reducible repeat (first | apply Kd.V_alloc | apply Kd.V_drewN | apply Kd.V_drew)); exact HO0_7.out) gb245 (Nat.le_of_eq hg.symm)) hb); have n1_ := Aside0.mk (below_step (by repeat (first | (with_reducible first | exact HB.out | apply below_alloc | apply pw_below_drewN | apply below_drew1) | exact HB.out)) hb); have n2_ := Aside0.mk (hbox); have n3_ := Aside0.mk ((by rw [hg]; exact (below_size (by repeat (first | (with_reducible first | exact HB.out | apply below_alloc | apply pw_below_drewN | apply below_drew1) | exact HB.out))) : w.heap.size ≤ gb245)); have n4_ := Aside0.mk ((by rw [hg]; exact (below_size (by repeat (first | (with_reducible first | exact HB.out | apply below_alloc | apply pw_below_drewN | apply below_drew1) | exact HB.out))) : w.heap.size ≤ gb245)); clear HO0_7; clear HB; have HO0_7 := n0_; have HB := n1_; have BK245 := n2_; have GW245 := n3_; have GE245 := n4_; clear n0_ n1_ n2_ n3_ n4_; clear hb hbox hg) | ((with_reducible refine gate_dst (N := 2) rfl ?_); refine box_event ?hg (N := 2) ?hd (cs := #[.string (⟨#[]⟩ : ByteArray), .int .i64 0, .int .i64 0, .int .i64 0, .int .i64 0, .int .i64 0, .slice none 0 0, .slice none 0 0]) (t := 36) ?hr ?_; (case hd => rfl); (case hg => rfl); (case hr => first | (go_simp; done) | (go_simp; rfl)); intro gb246 hg w3 hbox hb; have n0_ := Aside0.mk (Kd.V_below (Kd.V_elderB (by (with_reducible repeat (first | apply Kd.V_alloc | apply Kd.V_drewN | apply Kd.V_drew)); exact HO0_7.out) gb246 (Nat.le_of_eq hg.symm)) hb); have n1_ := Aside0.mk (blk_below (g := gb245) (o := .cells #[.string a0_0, .int .i64 a0_1, .int .i64 a0_2, .int .i64 a0_3, .int .i64 a0_4, .int .i64 a0_5, .slice A0_6 l0_6.length c0_6, .slice A0_7 l0_7.length c0_7] 25 (0, 0)) (by (with_reducible repeat (first | refine blk_drewN ?_ _ | refine blk_drew ?_ | refine blk_alloc ?_ _)); exact BK245.out) hb); have n2_ := Aside0.mk (below_step (by repeat (first | (with_reducible first | exact HB.out | apply below_alloc | apply pw_below_drewN | apply below_drew1 | refine below_set ?_ GE245.out) | exact HB.out)) hb); have n3_ := Aside0.mk (hbox); have n4_ := Aside0.mk ((by rw [hg]; exact (below_size (by repeat (first | (with_reducible first | exact HB.out | apply below_alloc | apply pw_below_drewN | apply below_drew1 | refine below_set ?_ GE245.out) | exact HB.out))) : w.heap.size ≤ gb246)); have n5_ := Aside0.mk ((by rw [hg]; exact (below_size (by repeat (first | (with_reducible first | exact HB.out | apply below_alloc | apply pw_below_drewN | apply below_drew1 | refine below_set ?_ GE245.out) | exact HB.out))) : w.heap.size ≤ gb246)); have n6_ := Aside0.mk ((by rw [hg]; exact Nat.ne_of_lt (blk_lt (g := gb245) (o := .cells #[.string a0_0, .int .i64 a0_1, .int .i64 a0_2, .int .i64 a0_3, .int .i64 a0_4, .int .i64 a0_5, .slice A0_6 l0_6.length c0_6, .slice A0_7 l0_7.length c0_7] 25 (0, 0)) (by (with_reducible repeat (first | refine blk_drewN ?_ _ | refine blk_drew ?_ | refine blk_alloc ?_ _)); exact BK245.out)) : gb245 ≠ gb246)); have n7_ := Aside0.mk ((by rw [hg]; exact Nat.ne_of_gt (blk_lt (g := gb245) (o := .cells #[.string a0_0, .int .i64 a0_1, .int .i64 a0_2, .int .i64 a0_3, .int .i64 a0_4, .int .i64 a0_5, .slice A0_6 l0_6.length c0_6, .slice A0_7 l0_7.length c0_7] 25 (0, 0)) (by (with_reducible repeat (first | refine blk_drewN ?_ _ | refine blk_drew ?_ | refine blk_alloc ?_ _)); exact BK245.out)) : gb246 ≠ gb245)); clear HO0_7; clear BK245; clear HB; have HO0_7 := n0_; have BK245 := n1_; have HB := n2_; have BK246 := n3_; have GW246 := n4_; have GE246 := n5_; have NB245_246 := n6_; have NB246_245 := n7_; clear n0_ n1_ n2_ n3_ n4_ n5_ n6_ n7_; clear hb hbox hg; have hnb4 := NB245_246.out; have hnc4 := NB246_245.out; obtain ⟨hcz5_0, hcz5_1, hcz5_2, hcz5_3, hcz5_4, hcz5_5, hcz5_6, hcz5_7, hfz5_0, hfz5_1, hfz5_2, hfz5_3, hfz5_4, hfz5_5, hfz5_6, hfz5_7⟩ := blk8_ BK245.out) | ((with_reducible refine gate_dst (N := 3) rfl ?_); refine box_event ?hg (N := 3) ?hd (cs := #[.string (⟨#[]⟩ : ByteArray), .int .i64 0, .int .i64 0, .int .i64 0, .int .i64 0, .int .i64 0, .slice none 0 0, .slice none 0 0]) (t := 36) ?hr ?_; (case hd => rfl); (case hg => rfl); (case hr => first | (go_simp; done) | (go_simp; rfl)); intro gb247 hg w6 hbox hb; have n0_ := Aside0.mk (Kd.V_below (Kd.V_elderB (by (with_reducible repeat (first | apply Kd.V_alloc | apply Kd.V_drewN | apply Kd.V_drew)); exact HO0_7.out) gb247 (Nat.le_of_eq hg.symm)) hb); have n1_ := Aside0.mk (blk_below (g := gb245) (o := .cells #[.string a0_0, .int .i64 a0_1, .int .i64 a0_2, .int .i64 a0_3, .int .i64 a0_4, .int .i64 a0_5, .slice A0_6 l0_6.length c0_6, .slice A0_7 l0_7.length c0_7] 25 (0, 0)) (by (with_reducible repeat (first | refine blk_drewN ?_ _ | refine blk_drew ?_ | refine blk_alloc ?_ _)); exact BK245.out) hb); have n2_ := Aside0.mk (blk_below (g := gb246) (o := .cells #[.string (⟨#[]⟩ : ByteArray), .int .i64 0, .int .i64 0, .int .i64 0, .int .i64 0, .int .i64 0, .slice none 0 0, .slice none 0 0] 36 (0, 0)) (by (with_reducible repeat (first | refine blk_drewN ?_ _ | refine blk_drew ?_ | refine blk_alloc ?_ _)); exact BK246.out) hb); have n3_ := Aside0.mk (below_step (by repeat (first | (with_reducible first | exact HB.out | apply below_alloc | apply pw_below_drewN | apply below_drew1 | refine below_set ?_ GE245.out | refine below_set ?_ GE246.out) | exact HB.out)) hb); have n4_ := Aside0.mk (hbox); have n5_ := Aside0.mk ((by rw [hg]; exact (below_size (by repeat (first | (with_reducible first | exact HB.out | apply below_alloc | apply pw_below_drewN | apply below_drew1 | refine below_set ?_ GE245.out | refine below_set ?_ GE246.out) | exact HB.out))) : w.heap.size ≤ gb247)); have n6_ := Aside0.mk ((by rw [hg]; exact (below_size (by repeat (first | (with_reducible first | exact HB.out | apply below_alloc | apply pw_below_drewN | apply below_drew1 | refine below_set ?_ GE245.out | refine below_set ?_ GE246.out) | exact HB.out))) : w.heap.size ≤ gb247)); have n7_ := Aside0.mk ((by rw [hg]; exact Nat.ne_of_lt (blk_lt (g := gb245) (o := .cells #[.string a0_0, .int .i64 a0_1, .int .i64 a0_2, .int .i64 a0_3, .int .i64 a0_4, .int .i64 a0_5, .slice A0_6 l0_6.length c0_6, .slice A0_7 l0_7.length c0_7] 25 (0, 0)) (by (with_reducible repeat (first | refine blk_drewN ?_ _ | refine blk_drew ?_ | refine blk_alloc ?_ _)); exact BK245.out)) : gb245 ≠ gb247)); have n8_ := Aside0.mk ((by rw [hg]; exact Nat.ne_of_gt (blk_lt (g := gb245) (o := .cells #[.string a0_0, .int .i64 a0_1, .int .i64 a0_2, .int .i64 a0_3, .int .i64 a0_4, .int .i64 a0_5, .slice A0_6 l0_6.length c0_6, .slice A0_7 l0_7.length c0_7] 25 (0, 0)) (by (with_reducible repeat (first | refine blk_drewN ?_ _ | refine blk_drew ?_ | refine blk_alloc ?_ _)); exact BK245.out)) : gb247 ≠ gb245)); have n9_ := Aside0.mk ((by rw [hg]; exact Nat.ne_of_lt (blk_lt (g := gb246) (o := .cells #[.string (⟨#[]⟩ : ByteArray), .int .i64 0, .int .i64 0, .int .i64 0, .int .i64 0, .int .i64 0, .slice none 0 0, .slice none 0 0] 36 (0, 0)) (by (with_reducible repeat (first | refine blk_drewN ?_ _ | refine blk_drew ?_ | refine blk_alloc ?_ _)); exact BK246.out)) : gb246 ≠ gb247)); have n10_ := Aside0.mk ((by rw [hg]; exact Nat.ne_of_gt (blk_lt (g := gb246) (o := .cells #[.string (⟨#[]⟩ : ByteArray), .int .i64 0, .int .i64 0, .int .i64 0, .int .i64 0, .int .i64 0, .slice none 0 0, .slice none 0 0] 36 (0, 0)) (by (with_reducible repeat (first | refine blk_drewN ?_ _ | refine blk_drew ?_ | refine blk_alloc ?_ _)); exact BK246.out)) : gb247 ≠ gb246)); clear HO0_7; clear BK245; clear BK246; clear HB; have HO0_7 := n0_; have BK245 := n1_; have BK246 := n2_; have HB := n3_; have BK247 := n4_; have GW247 := n5_; have GE247 := n6_; have NB245_247 := n7_; have NB247_245 := n8_; have NB246_247 := n9_; have NB247_246 := n10_; clear n0_ n1_ n2_ n3_ n4_ n5_ n6_ n7_ n8_ n9_ n10_; clear hb hbox hg; have hnb7 := NB247_245.out; have hnc7 := NB245_247.out; have hnb8 := NB247_246.out; have hnc8 := NB246_247.out; obtain ⟨hcz9_0, hcz9_1, hcz9_2, hcz9_3, hcz9_4, hcz9_5, hcz9_6, hcz9_7, hfz9_0, hfz9_1, hfz9_2, hfz9_3, hfz9_4, hfz9_5, hfz9_6, hfz9_7⟩ := blk8_ BK247.out))
 go_loopg [4] k (fun kq v4 w' => ∃ (x4_1 : Int) (x248006_1 : List (S60)) (u248006 : Value), v4 = .int .i64 x4_1 ∧ Aside0 (entrepotlaw08_its.l0 kq x4_1 a0_0 a0_1 a0_2 a0_3 a0_4 a0_5 l0_6 l0_7 a0_0 a0_1 a0_2 a0_3 a0_4 a0_5 x248006_1 l0_7 = some (r1, r2, r3, r4, r5, r6, r7, r8)) ∧ Aside0 (kq ≤ k) ∧ Aside0 (Kd.V (Kd.int .i64) 3 w' w.heap.size (fun k_ => (P0_7_ k_ ∨ w.heap.size ≤ k_) ∧ some k_ ≠ (u248006 : Value).ownBlock ∧ k_ ≠ gb245 ∧ k_ ≠ gb246 ∧ k_ ≠ gb247) (.slice A0_7 l0_7.length c0_7) l0_7) ∧ Aside0 (Kd.R k60 60 w' w.heap.size (fun k_ => (w.heap.size ≤ k_)) u248006 x248006_1) ∧ Aside0 (Kd.V (Kd.int .i64) 3 w' w.heap.size (fun k_ => (P0_7_ k_ ∨ w.heap.size ≤ k_) ∧ some k_ ≠ (u248006 : Value).ownBlock ∧ k_ ≠ gb245 ∧ k_ ≠ gb246 ∧ k_ ≠ gb247) (.slice A0_7 l0_7.length c0_7) l0_7) ∧ Aside0 (w'.heap[gb245]? = some (.cells #[.string a0_0, .int .i64 a0_1, .int .i64 a0_2, .int .i64 a0_3, .int .i64 a0_4, .int .i64 a0_5, (.slice A0_6 l0_6.length c0_6), (.slice A0_7 l0_7.length c0_7)] 25 (0, 0))) ∧ Aside0 (w'.heap[gb246]? = some (.cells #[.string (⟨#[]⟩ : ByteArray), .int .i64 0, .int .i64 0, .int .i64 0, .int .i64 0, .int .i64 0, (.slice none 0 0), (.slice none 0 0)] 36 (0, 0))) ∧ Aside0 (w'.heap[gb247]? = some (.cells #[.string a0_0, .int .i64 a0_1, .int .i64 a0_2, .int .i64 a0_3, .int .i64 a0_4, .int .i64 a0_5, u248006, (.slice A0_7 l0_7.length c0_7)] 36 (0, 0))) ∧ Aside0 (Below w.heap.size w w'))
 case atStart => exact ⟨(0), (([] : List (S60))), (.slice none 0 0), (by first | rfl | (simp; done) | (simp [*]; done)), H', ⟨Nat.le_refl _⟩, ⟨by (with_reducible repeat (first | apply Kd.V_alloc | apply Kd.V_drewN | apply Kd.V_drew)); exact Kd.V_mono (Kd.V_far (p := ⟨gb247, 7, none⟩) (Kd.V_far (p := ⟨gb247, 6, none⟩) (Kd.V_far (p := ⟨gb247, 5, none⟩) (Kd.V_far (p := ⟨gb247, 4, none⟩) (Kd.V_far (p := ⟨gb247, 3, none⟩) (Kd.V_far (p := ⟨gb247, 2, none⟩) (Kd.V_far (p := ⟨gb247, 1, none⟩) (Kd.V_far (p := ⟨gb247, 0, none⟩) (Kd.V_mono HO0_7.out (fun k_ hk => (⟨hk, hk.2⟩ : _ ∧ k_ ≠ gb247))) (fun _ hk => hk.2) (.string a0_0)) (fun _ hk => hk.2) (.int .i64 a0_1)) (fun _ hk => hk.2) (.int .i64 a0_2)) (fun _ hk => hk.2) (.int .i64 a0_3)) (fun _ hk => hk.2) (.int .i64 a0_4)) (fun _ hk => hk.2) (.int .i64 a0_5)) (fun _ hk => hk.2) (.slice none 0 0)) (fun _ hk => hk.2) (.slice A0_7 l0_7.length c0_7)) (fun _ hk => ⟨hk.1.1.1.1, ⟨(by simp [Value.ownBlock]), ⟨hk.1.1.1.2, ⟨hk.1.1.2, hk.1.2⟩⟩⟩⟩)⟩, ⟨by first | exact Kd.R_nil _ _ _ _ _ | exact Kd.N_nil _ _ _ _ _ | exact Kd.V_nil _ _ _ _ _ | exact Kd.Q_nil _ _ _ _ _ | exact Kd.S_nil _ _ _ _ _⟩, ⟨by (with_reducible repeat (first | apply Kd.V_alloc | apply Kd.V_drewN | apply Kd.V_drew)); exact Kd.V_mono (Kd.V_far (p := ⟨gb247, 7, none⟩) (Kd.V_far (p := ⟨gb247, 6, none⟩) (Kd.V_far (p := ⟨gb247, 5, none⟩) (Kd.V_far (p := ⟨gb247, 4, none⟩) (Kd.V_far (p := ⟨gb247, 3, none⟩) (Kd.V_far (p := ⟨gb247, 2, none⟩) (Kd.V_far (p := ⟨gb247, 1, none⟩) (Kd.V_far (p := ⟨gb247, 0, none⟩) (Kd.V_mono HO0_7.out (fun k_ hk => (⟨hk, hk.2⟩ : _ ∧ k_ ≠ gb247))) (fun _ hk => hk.2) (.string a0_0)) (fun _ hk => hk.2) (.int .i64 a0_1)) (fun _ hk => hk.2) (.int .i64 a0_2)) (fun _ hk => hk.2) (.int .i64 a0_3)) (fun _ hk => hk.2) (.int .i64 a0_4)) (fun _ hk => hk.2) (.int .i64 a0_5)) (fun _ hk => hk.2) (.slice none 0 0)) (fun _ hk => hk.2) (.slice A0_7 l0_7.length c0_7)) (fun _ hk => ⟨hk.1.1.1.1, ⟨(by simp [Value.ownBlock]), ⟨hk.1.1.1.2, ⟨hk.1.1.2, hk.1.2⟩⟩⟩⟩)⟩, ⟨by (with_reducible repeat (first | refine blk_drewN ?_ _ | refine blk_drew ?_ | refine blk_alloc ?_ _)); refine blk_far ?_ NB245_247.out _; (with_reducible repeat (first | refine blk_drewN ?_ _ | refine blk_drew ?_ | refine blk_alloc ?_ _)); refine blk_far ?_ NB245_247.out _; (with_reducible repeat (first | refine blk_drewN ?_ _ | refine blk_drew ?_ | refine blk_alloc ?_ _)); refine blk_far ?_ NB245_247.out _; (with_reducible repeat (first | refine blk_drewN ?_ _ | refine blk_drew ?_ | refine blk_alloc ?_ _)); refine blk_far ?_ NB245_247.out _; (with_reducible repeat (first | refine blk_drewN ?_ _ | refine blk_drew ?_ | refine blk_alloc ?_ _)); refine blk_far ?_ NB245_247.out _; (with_reducible repeat (first | refine blk_drewN ?_ _ | refine blk_drew ?_ | refine blk_alloc ?_ _)); refine blk_far ?_ NB245_247.out _; (with_reducible repeat (first | refine blk_drewN ?_ _ | refine blk_drew ?_ | refine blk_alloc ?_ _)); refine blk_far ?_ NB245_247.out _; (with_reducible repeat (first | refine blk_drewN ?_ _ | refine blk_drew ?_ | refine blk_alloc ?_ _)); refine blk_far ?_ NB245_247.out _; (with_reducible repeat (first | refine blk_drewN ?_ _ | refine blk_drew ?_ | refine blk_alloc ?_ _)); exact BK245.out⟩, ⟨by (with_reducible repeat (first | refine blk_drewN ?_ _ | refine blk_drew ?_ | refine blk_alloc ?_ _)); refine blk_far ?_ NB246_247.out _; (with_reducible repeat (first | refine blk_drewN ?_ _ | refine blk_drew ?_ | refine blk_alloc ?_ _)); refine blk_far ?_ NB246_247.out _; (with_reducible repeat (first | refine blk_drewN ?_ _ | refine blk_drew ?_ | refine blk_alloc ?_ _)); refine blk_far ?_ NB246_247.out _; (with_reducible repeat (first | refine blk_drewN ?_ _ | refine blk_drew ?_ | refine blk_alloc ?_ _)); refine blk_far ?_ NB246_247.out _; (with_reducible repeat (first | refine blk_drewN ?_ _ | refine blk_drew ?_ | refine blk_alloc ?_ _)); refine blk_far ?_ NB246_247.out _; (with_reducible repeat (first | refine blk_drewN ?_ _ | refine blk_drew ?_ | refine blk_alloc ?_ _)); refine blk_far ?_ NB246_247.out _; (with_reducible repeat (first | refine blk_drewN ?_ _ | refine blk_drew ?_ | refine blk_alloc ?_ _)); refine blk_far ?_ NB246_247.out _; (with_reducible repeat (first | refine blk_drewN ?_ _ | refine blk_drew ?_ | refine blk_alloc ?_ _)); refine blk_far ?_ NB246_247.out _; (with_reducible repeat (first | refine blk_drewN ?_ _ | refine blk_drew ?_ | refine blk_alloc ?_ _)); exact BK246.out⟩, ⟨by (with_reducible repeat (first | refine blk_drewN ?_ _ | refine blk_drew ?_ | refine blk_alloc ?_ _)); refine blk_put (cs := #[.string a0_0, .int .i64 a0_1, .int .i64 a0_2, .int .i64 a0_3, .int .i64 a0_4, .int .i64 a0_5, .slice none 0 0, .slice none 0 0]) ?_ 7 _ rfl; (with_reducible repeat (first | refine blk_drewN ?_ _ | refine blk_drew ?_ | refine blk_alloc ?_ _)); refine blk_put (cs := #[.string a0_0, .int .i64 a0_1, .int .i64 a0_2, .int .i64 a0_3, .int .i64 a0_4, .int .i64 a0_5, .slice none 0 0, .slice none 0 0]) ?_ 6 _ rfl; (with_reducible repeat (first | refine blk_drewN ?_ _ | refine blk_drew ?_ | refine blk_alloc ?_ _)); refine blk_put (cs := #[.string a0_0, .int .i64 a0_1, .int .i64 a0_2, .int .i64 a0_3, .int .i64 a0_4, .int .i64 0, .slice none 0 0, .slice none 0 0]) ?_ 5 _ rfl; (with_reducible repeat (first | refine blk_drewN ?_ _ | refine blk_drew ?_ | refine blk_alloc ?_ _)); refine blk_put (cs := #[.string a0_0, .int .i64 a0_1, .int .i64 a0_2, .int .i64 a0_3, .int .i64 0, .int .i64 0, .slice none 0 0, .slice none 0 0]) ?_ 4 _ rfl; (with_reducible repeat (first | refine blk_drewN ?_ _ | refine blk_drew ?_ | refine blk_alloc ?_ _)); refine blk_put (cs := #[.string a0_0, .int .i64 a0_1, .int .i64 a0_2, .int .i64 0, .int .i64 0, .int .i64 0, .slice none 0 0, .slice none 0 0]) ?_ 3 _ rfl; (with_reducible repeat (first | refine blk_drewN ?_ _ | refine blk_drew ?_ | refine blk_alloc ?_ _)); refine blk_put (cs := #[.string a0_0, .int .i64 a0_1, .int .i64 0, .int .i64 0, .int .i64 0, .int .i64 0, .slice none 0 0, .slice none 0 0]) ?_ 2 _ rfl; (with_reducible repeat (first | refine blk_drewN ?_ _ | refine blk_drew ?_ | refine blk_alloc ?_ _)); refine blk_put (cs := #[.string a0_0, .int .i64 0, .int .i64 0, .int .i64 0, .int .i64 0, .int .i64 0, .slice none 0 0, .slice none 0 0]) ?_ 1 _ rfl; (with_reducible repeat (first | refine blk_drewN ?_ _ | refine blk_drew ?_ | refine blk_alloc ?_ _)); refine blk_put (cs := #[.string (⟨#[]⟩ : ByteArray), .int .i64 0, .int .i64 0, .int .i64 0, .int .i64 0, .int .i64 0, .slice none 0 0, .slice none 0 0]) ?_ 0 _ rfl; (with_reducible repeat (first | refine blk_drewN ?_ _ | refine blk_drew ?_ | refine blk_alloc ?_ _)); exact BK247.out⟩, ⟨by repeat (first | (with_reducible first | exact HB.out | apply below_alloc | apply pw_below_drewN | apply below_drew1 | refine below_set ?_ GE245.out | refine below_set ?_ GE246.out | refine below_set ?_ GE247.out) | exact HB.out)⟩⟩
 case round =>
  clear H'
  (try clear hcz5_0); (try clear hcz5_1); (try clear hcz5_2); (try clear hcz5_3); (try clear hcz5_4); (try clear hcz5_5); (try clear hcz5_6); (try clear hcz5_7); (try clear hcz9_0); (try clear hcz9_1); (try clear hcz9_2); (try clear hcz9_3); (try clear hcz9_4); (try clear hcz9_5); (try clear hcz9_6); (try clear hcz9_7); (try clear hfz5_0); (try clear hfz5_1); (try clear hfz5_2); (try clear hfz5_3); (try clear hfz5_4); (try clear hfz5_5); (try clear hfz5_6); (try clear hfz5_7); (try clear hfz9_0); (try clear hfz9_1); (try clear hfz9_2); (try clear hfz9_3); (try clear hfz9_4); (try clear hfz9_5); (try clear hfz9_6); (try clear hfz9_7)
  obtain ⟨x4_1, x248006_1, u248006, rfl, HA, HK1, HO_246007, HO_248006, HO_248007, BK245, BK246, BK247, HB⟩ := hrel
  cases gk with
  | zero => exact absurd HA.out (by simp [entrepotlaw08_its.l0])
  | succ k1 =>
   have H := HA.out
   clear HA
   simp only [entrepotlaw08_its.l0] at H
   by_cases c10 : x4_1 < (l0_6.length : Int)
   ·rw [if_pos c10] at H
    have c10b0 : decide (x4_1 < (l0_6.length : Int)) = true := decide_eq_true c10
    clear c10
    by_cases c11 : 0 ≤ x4_1
    ·rw [if_pos c11] at H
     have c11b0 : decide (0 ≤ x4_1) = true := decide_eq_true c11
     clear c11
     by_cases c12 : x248006_1.length < 2513169434916
     ·rw [if_pos c12] at H
      have LMc12 := Aside0.mk c12
      clear c12
      obtain ⟨y249, hy249⟩ : ∃ y_ : List (S60), y_ = (x248006_1 ++ [(⟨(rd_T46 l0_6 x4_1).f0, (rd_T46 l0_6 x4_1).f1, (rd_T46 l0_6 x4_1).f2, (rd_T46 l0_6 x4_1).f3, (rd_T46 l0_6 x4_1).f4, (rd_T46 l0_6 x4_1).f5, (rd_T46 l0_6 x4_1).f6⟩ : S60)]) := ⟨_, rfl⟩
      replace H : (entrepotlaw08_its.l0 k1 (wrap64 (x4_1 + 1)) a0_0 a0_1 a0_2 a0_3 a0_4 a0_5 l0_6 l0_7 a0_0 a0_1 a0_2 a0_3 a0_4 a0_5 y249 l0_7) = some (r1, r2, r3, r4, r5, r6, r7, r8) := by first | (rw [hy249]; with_reducible exact H) | (have H2_ := (Option.bind_some _ _).symm.trans H; rw [hy249]; with_reducible exact H2_) | (have H2_ := (Option.bind_some _ _).symm.trans H; with_reducible exact H2_) | with_reducible exact H | (rw [hy249]; exact H) | exact H
      have Ny249 := Aside0.mk hy249
      clear hy249
      have H' := Aside0.mk H
      clear H
      have hnb13 := NB245_246.out
      have hnc13 := NB246_245.out
      have hnb14 := NB245_247.out
      have hnc14 := NB247_245.out
      obtain ⟨hcz15_0, hcz15_1, hcz15_2, hcz15_3, hcz15_4, hcz15_5, hcz15_6, hcz15_7, hfz15_0, hfz15_1, hfz15_2, hfz15_3, hfz15_4, hfz15_5, hfz15_6, hfz15_7⟩ := blk8_ BK245.out
      try go_wp2
      have n0_ := Aside0.mk (Kd.V_drew HO_246007.out)
      have n1_ := Aside0.mk (Kd.R_drew HO_248006.out)
      have n2_ := Aside0.mk (Kd.V_drew HO_248007.out)
      have n3_ := Aside0.mk (blk_drew BK245.out)
      have n4_ := Aside0.mk (blk_drew BK246.out)
      have n5_ := Aside0.mk (blk_drew BK247.out)
      have n6_ := Aside0.mk (below_drew1 HB.out)
      clear HO_246007
      clear HO_248006
      clear HO_248007
      clear BK245
      clear BK246
      clear BK247
      clear HB
      have HO_246007 := n0_
      have HO_248006 := n1_
      have HO_248007 := n2_
      have BK245 := n3_
      have BK246 := n4_
      have BK247 := n5_
      have HB := n6_
      clear n0_ n1_ n2_ n3_ n4_ n5_ n6_
      have p248 : 0 ≤ (x4_1 : Int) := of_decide_eq_true (by first | (with_reducible assumption) | assumption)
      have q248 : x4_1 < (l0_6.length : Int) := of_decide_eq_true (by first | (with_reducible assumption) | assumption)
      obtain ⟨ad248, e248, hx248_0, hx248_1, hx248_2, hx248_3, hx248_4, hx248_5, hx248_6⟩ := at_T46 HR0_6.out x4_1 p248 q248
      have hw248_6 := hx248_6
      have hw248_5 := hx248_5
      have hw248_4 := hx248_4
      have hw248_3 := hx248_3
      have hw248_2 := hx248_2
      have hw248_1 := hx248_1
      have hw248_0 := hx248_0
      cases e248
      replace hx248_0 := (HB.out.cell (World.block_lt_of_cell? w _ hx248_0)).trans hx248_0
      replace hx248_1 := (HB.out.cell (World.block_lt_of_cell? w _ hx248_1)).trans hx248_1
      replace hx248_2 := (HB.out.cell (World.block_lt_of_cell? w _ hx248_2)).trans hx248_2
      replace hx248_3 := (HB.out.cell (World.block_lt_of_cell? w _ hx248_3)).trans hx248_3
      replace hx248_4 := (HB.out.cell (World.block_lt_of_cell? w _ hx248_4)).trans hx248_4
      replace hx248_5 := (HB.out.cell (World.block_lt_of_cell? w _ hx248_5)).trans hx248_5
      replace hx248_6 := (HB.out.cell (World.block_lt_of_cell? w _ hx248_6)).trans hx248_6
      replace p248 := eq_true p248
      replace q248 := eq_true q248
      refine start_ (n := 11) (S := fun w' => w'.cell? ⟨gb247, 0, none⟩ = some (.string a0_0) ∧ w'.cell? ⟨gb247, 1, none⟩ = some (.int .i64 a0_1) ∧ w'.cell? ⟨gb247, 2, none⟩ = some (.int .i64 a0_2) ∧ w'.cell? ⟨gb247, 3, none⟩ = some (.int .i64 a0_3) ∧ w'.cell? ⟨gb247, 4, none⟩ = some (.int .i64 a0_4) ∧ w'.cell? ⟨gb247, 5, none⟩ = some (.int .i64 a0_5) ∧ w'.cell? ⟨gb247, 6, none⟩ = some (u248006) ∧ w'.cell? ⟨gb247, 7, none⟩ = some (.slice A0_7 l0_7.length c0_7) ∧ w'.cell? ⟨gb245, 0, none⟩ = some (.string a0_0) ∧ w'.cell? ⟨gb245, 1, none⟩ = some (.int .i64 a0_1) ∧ w'.cell? ⟨gb245, 2, none⟩ = some (.int .i64 a0_2) ∧ w'.cell? ⟨gb245, 3, none⟩ = some (.int .i64 a0_3) ∧ w'.cell? ⟨gb245, 4, none⟩ = some (.int .i64 a0_4) ∧ w'.cell? ⟨gb245, 5, none⟩ = some (.int .i64 a0_5) ∧ w'.cell? ⟨gb245, 6, none⟩ = some (.slice (some ad248) l0_6.length c0_6) ∧ w'.cell? ⟨gb245, 7, none⟩ = some (.slice A0_7 l0_7.length c0_7) ∧ w'.cell? (ad248.add ((x4_1).toNat * 7)) = some (.int .i64 ((rd_T46 l0_6 x4_1).f0)) ∧ w'.cell? ⟨(ad248.add ((x4_1).toNat * 7)).block, (ad248.add ((x4_1).toNat * 7)).off + 1, none⟩ = some (.int .i64 ((rd_T46 l0_6 x4_1).f1)) ∧ w'.cell? ⟨(ad248.add ((x4_1).toNat * 7)).block, (ad248.add ((x4_1).toNat * 7)).off + 2, none⟩ = some (.int .i64 ((rd_T46 l0_6 x4_1).f2)) ∧ w'.cell? ⟨(ad248.add ((x4_1).toNat * 7)).block, (ad248.add ((x4_1).toNat * 7)).off + 3, none⟩ = some (.int .i64 ((rd_T46 l0_6 x4_1).f3)) ∧ w'.cell? ⟨(ad248.add ((x4_1).toNat * 7)).block, (ad248.add ((x4_1).toNat * 7)).off + 4, none⟩ = some (.int .i64 ((rd_T46 l0_6 x4_1).f4)) ∧ w'.cell? ⟨(ad248.add ((x4_1).toNat * 7)).block, (ad248.add ((x4_1).toNat * 7)).off + 5, none⟩ = some (.int .i64 ((rd_T46 l0_6 x4_1).f5)) ∧ w'.cell? ⟨(ad248.add ((x4_1).toNat * 7)).block, (ad248.add ((x4_1).toNat * 7)).off + 6, none⟩ = some (.int .i64 ((rd_T46 l0_6 x4_1).f6))) (ds := [10]) #[false, false, false, false, false, false, false, false, false, false, false] (by kernel_rfl) rfl rfl ⟨(blk_cell BK247.out 0).trans rfl, (blk_cell BK247.out 1).trans rfl, (blk_cell BK247.out 2).trans rfl, (blk_cell BK247.out 3).trans rfl, (blk_cell BK247.out 4).trans rfl, (blk_cell BK247.out 5).trans rfl, (blk_cell BK247.out 6).trans rfl, (blk_cell BK247.out 7).trans rfl, (blk_cell BK245.out 0).trans rfl, (blk_cell BK245.out 1).trans rfl, (blk_cell BK245.out 2).trans rfl, (blk_cell BK245.out 3).trans rfl, (blk_cell BK245.out 4).trans rfl, (blk_cell BK245.out 5).trans rfl, (blk_cell BK245.out 6).trans rfl, (blk_cell BK245.out 7).trans rfl, ((HB.out.cell (World.block_lt_of_cell? w _ hw248_0)).trans hw248_0), ((HB.out.cell (World.block_lt_of_cell? w _ hw248_1)).trans hw248_1), ((HB.out.cell (World.block_lt_of_cell? w _ hw248_2)).trans hw248_2), ((HB.out.cell (World.block_lt_of_cell? w _ hw248_3)).trans hw248_3), ((HB.out.cell (World.block_lt_of_cell? w _ hw248_4)).trans hw248_4), ((HB.out.cell (World.block_lt_of_cell? w _ hw248_5)).trans hw248_5), ((HB.out.cell (World.block_lt_of_cell? w _ hw248_6)).trans hw248_6)⟩ (fun hHeld => ?_); refine with_tabW entrepotlaw08_its.tab5 entrepotlaw08_its.bits5 (fun HT_ HW_ => ?_)
      generalize wr.drew = w16 at HO_246007 HO_248006 HO_248007 BK245 BK246 BK247 HB hx248_0 hx248_1 hx248_2 hx248_3 hx248_4 hx248_5 hx248_6 hHeld ⊢
      refine pure_ (i := 0) (N := some 27) (v := ?_) (a' := ?_) #[true, false, false, false, false, false, false, false, false, false, false] rfl rfl (any_of HT_.out (by kernel_rfl)) (fun _ _ _ h => h) (Or.inl ⟨by rfl, ?_⟩) ?_ ?_
      rotate_left
      ·intro w'
       go_simp
       with_reducible rfl
      rotate_left
      ·simp only [Act.put, List.setIfInBounds_toArray, List.set_cons_zero, List.set_cons_succ, i64_w, i32_w]
       rfl
      refine pure_ (i := 2) (N := some 29) (v := ?_) (a' := ?_) #[true, false, true, false, false, false, false, false, false, false, false] rfl rfl (any_of HT_.out (by kernel_rfl)) (fun _ _ _ h => h) (Or.inl ⟨by rfl, ?_⟩) ?_ ?_
      rotate_left
      ·intro w'
       go_simp
       with_reducible rfl
      rotate_left
      ·simp only [Act.put, List.setIfInBounds_toArray, List.set_cons_zero, List.set_cons_succ, i64_w, i32_w]
       rfl
      refine pure_ (i := 4) (N := some 31) (v := ?_) (a' := ?_) #[true, false, true, false, true, false, false, false, false, false, false] rfl rfl (any_of HT_.out (by kernel_rfl)) (fun _ _ _ h => h) (Or.inl ⟨by rfl, ?_⟩) ?_ ?_
      rotate_left
      ·intro w'
       go_simp
       with_reducible rfl
      rotate_left
      ·simp only [Act.put, List.setIfInBounds_toArray, List.set_cons_zero, List.set_cons_succ, i64_w, i32_w]
       rfl
      refine take_ (i := 1) (N := some 28) (v := ?_) (a' := ?_) #[true, true, true, false, true, false, false, false, false, false, false] rfl rfl (take_ofW HT_.out HW_.out (by kernel_rfl)) (fun _ _ _ h => h) (Or.inl ⟨by rfl, ?_⟩) hHeld ?_ ?_
      rotate_left
      ·rintro w' ⟨s0, s1, s2, s3, s4, s5, s6, s7, s8, s9, s10, s11, s12, s13, s14, s15, s16, s17, s18, s19, s20, s21, s22⟩
       go_simp
       with_reducible rfl
      rotate_left
      ·simp only [Act.put, List.setIfInBounds_toArray, List.set_cons_zero, List.set_cons_succ, i64_w, i32_w]
       rfl
      refine take_ (i := 3) (N := some 30) (v := ?_) (a' := ?_) #[true, true, true, true, true, false, false, false, false, false, false] rfl rfl (take_ofW HT_.out HW_.out (by kernel_rfl)) (fun _ _ _ h => h) (Or.inl ⟨by rfl, ?_⟩) hHeld ?_ ?_
      rotate_left
      ·rintro w' ⟨s0, s1, s2, s3, s4, s5, s6, s7, s8, s9, s10, s11, s12, s13, s14, s15, s16, s17, s18, s19, s20, s21, s22⟩
       go_simp
       with_reducible rfl
      rotate_left
      ·simp only [Act.put, List.setIfInBounds_toArray, List.set_cons_zero, List.set_cons_succ, i64_w, i32_w]
       rfl
      refine pure_ (i := 5) (N := some 32) (v := ?_) (a' := ?_) #[true, true, true, true, true, true, false, false, false, false, false] rfl rfl (any_of HT_.out (by kernel_rfl)) (fun _ _ _ h => h) (Or.inl ⟨by rfl, ?_⟩) ?_ ?_
      rotate_left
      ·intro w'
       go_simp
       with_reducible rfl
      rotate_left
      ·simp only [Act.put, List.setIfInBounds_toArray, List.set_cons_zero, List.set_cons_succ, i64_w, i32_w]
       rfl
      refine take_ (i := 6) (N := some 33) (v := ?_) (a' := ?_) #[true, true, true, true, true, true, true, false, false, false, false] rfl rfl (take_ofW HT_.out HW_.out (by kernel_rfl)) (fun _ _ _ h => h) (Or.inl ⟨by rfl, ?_⟩) hHeld ?_ ?_
      rotate_left
      ·rintro w' ⟨s0, s1, s2, s3, s4, s5, s6, s7, s8, s9, s10, s11, s12, s13, s14, s15, s16, s17, s18, s19, s20, s21, s22⟩
       go_simp
       with_reducible rfl
      rotate_left
      ·simp only [Act.put, List.setIfInBounds_toArray, List.set_cons_zero, List.set_cons_succ, i64_w, i32_w]
       rfl
      refine one_ (i := 7) (N := some 34) #[true, true, true, true, true, true, true, true, false, false, false] rfl rfl (one_of HT_.out (by kernel_rfl)) (by decide) (fun K hK => ?_)
      refine value_ (w1 := ?_) (v := ?_) (by rfl) rfl ?_ ?_
      rotate_left 2
      ·go_simp
       constructor
       ·rfl
       ·rfl
      refine hK.out _ _ ⟨(blk_cell (blk_alloc BK247.out _) 0).trans rfl, (blk_cell (blk_alloc BK247.out _) 1).trans rfl, (blk_cell (blk_alloc BK247.out _) 2).trans rfl, (blk_cell (blk_alloc BK247.out _) 3).trans rfl, (blk_cell (blk_alloc BK247.out _) 4).trans rfl, (blk_cell (blk_alloc BK247.out _) 5).trans rfl, (blk_cell (blk_alloc BK247.out _) 6).trans rfl, (blk_cell (blk_alloc BK247.out _) 7).trans rfl, (blk_cell (blk_alloc BK245.out _) 0).trans rfl, (blk_cell (blk_alloc BK245.out _) 1).trans rfl, (blk_cell (blk_alloc BK245.out _) 2).trans rfl, (blk_cell (blk_alloc BK245.out _) 3).trans rfl, (blk_cell (blk_alloc BK245.out _) 4).trans rfl, (blk_cell (blk_alloc BK245.out _) 5).trans rfl, (blk_cell (blk_alloc BK245.out _) 6).trans rfl, (blk_cell (blk_alloc BK245.out _) 7).trans rfl, (World.cell?_alloc_lt _ _ _ (World.block_lt_of_cell? _ _ (((HB.out.cell (World.block_lt_of_cell? w _ hw248_0)).trans hw248_0)))).trans (((HB.out.cell (World.block_lt_of_cell? w _ hw248_0)).trans hw248_0)), (World.cell?_alloc_lt _ _ _ (World.block_lt_of_cell? _ _ (((HB.out.cell (World.block_lt_of_cell? w _ hw248_1)).trans hw248_1)))).trans (((HB.out.cell (World.block_lt_of_cell? w _ hw248_1)).trans hw248_1)), (World.cell?_alloc_lt _ _ _ (World.block_lt_of_cell? _ _ (((HB.out.cell (World.block_lt_of_cell? w _ hw248_2)).trans hw248_2)))).trans (((HB.out.cell (World.block_lt_of_cell? w _ hw248_2)).trans hw248_2)), (World.cell?_alloc_lt _ _ _ (World.block_lt_of_cell? _ _ (((HB.out.cell (World.block_lt_of_cell? w _ hw248_3)).trans hw248_3)))).trans (((HB.out.cell (World.block_lt_of_cell? w _ hw248_3)).trans hw248_3)), (World.cell?_alloc_lt _ _ _ (World.block_lt_of_cell? _ _ (((HB.out.cell (World.block_lt_of_cell? w _ hw248_4)).trans hw248_4)))).trans (((HB.out.cell (World.block_lt_of_cell? w _ hw248_4)).trans hw248_4)), (World.cell?_alloc_lt _ _ _ (World.block_lt_of_cell? _ _ (((HB.out.cell (World.block_lt_of_cell? w _ hw248_5)).trans hw248_5)))).trans (((HB.out.cell (World.block_lt_of_cell? w _ hw248_5)).trans hw248_5)), (World.cell?_alloc_lt _ _ _ (World.block_lt_of_cell? _ _ (((HB.out.cell (World.block_lt_of_cell? w _ hw248_6)).trans hw248_6)))).trans (((HB.out.cell (World.block_lt_of_cell? w _ hw248_6)).trans hw248_6))⟩ (fun hHeld => ?_)
      clear hK K
      refine norm_ (a' := ?_) ?_ ?_
      rotate_left
      ·show Act.put _ (some 34) _ = _
       simp only [Act.put, List.setIfInBounds_toArray, List.set_cons_zero, List.set_cons_succ, i64_w, i32_w]
       rfl
      refine one_ (i := 8) (N := some 35) #[true, true, true, true, true, true, true, true, true, false, false] rfl rfl (one_of HT_.out (by kernel_rfl)) (by decide) (fun K hK => ?_)
      refine Kd.R_append_step k60 (w0 := w) w.heap.size (by rfl) (.tmp 28) (.tmp 34) 34 60 (.agg #[(.int .i64 0), (.int .i64 0), (.int .i64 0), (.int .i64 0), (.int .i64 0), (.int .i64 0), (.int .i64 0)]) 56 rfl Try.underlying34 info60 rfl (by decide) (by omega) u248006 x248006_1 (⟨(rd_T46 l0_6 x4_1).f0, (rd_T46 l0_6 x4_1).f1, (rd_T46 l0_6 x4_1).f2, (rd_T46 l0_6 x4_1).f3, (rd_T46 l0_6 x4_1).f4, (rd_T46 l0_6 x4_1).f5, (rd_T46 l0_6 x4_1).f6⟩ : S60) [.int .i64 ((rd_T46 l0_6 x4_1).f0), .int .i64 ((rd_T46 l0_6 x4_1).f1), .int .i64 ((rd_T46 l0_6 x4_1).f2), .int .i64 ((rd_T46 l0_6 x4_1).f3), .int .i64 ((rd_T46 l0_6 x4_1).f4), .int .i64 ((rd_T46 l0_6 x4_1).f5), .int .i64 ((rd_T46 l0_6 x4_1).f6)] (fun k_ => (w.heap.size ≤ k_)) (fun _ => False) rfl rfl ?aP (fun _ hk => hk.elim) ?aF ?aO ?aB ?aS ?aL ?_
      (case aP => exact k60_mkM _ _ _ (⟨(rd_T46 l0_6 x4_1).f0, (rd_T46 l0_6 x4_1).f1, (rd_T46 l0_6 x4_1).f2, (rd_T46 l0_6 x4_1).f3, (rd_T46 l0_6 x4_1).f4, (rd_T46 l0_6 x4_1).f5, (rd_T46 l0_6 x4_1).f6⟩ : S60))
      (case aB => exact (by repeat (first | (with_reducible first | exact HB.out | apply below_alloc | apply pw_below_drewN | apply below_drew1 | refine below_set ?_ GE245.out | refine below_set ?_ GE246.out | refine below_set ?_ GE247.out) | exact HB.out)))
      (case aF => exact (fun k_ hk => (Nat.le_trans (below_size (by repeat (first | (with_reducible first | exact HB.out | apply below_alloc | apply pw_below_drewN | apply below_drew1 | refine below_set ?_ GE245.out | refine below_set ?_ GE246.out | refine below_set ?_ GE247.out) | exact HB.out))) hk)))
      (case aO => exact (by (with_reducible repeat (first | apply Kd.R_alloc | apply Kd.R_drewN | apply Kd.R_drew)); exact HO_248006.out))
      (case aS => exact (below_size (by repeat (first | (with_reducible first | exact HB.out | apply below_alloc | apply pw_below_drewN | apply below_drew1 | refine below_set ?_ GE245.out | refine below_set ?_ GE246.out | refine below_set ?_ GE247.out) | exact HB.out))))
      (case aL => have := LMc12.out; omega)
      intro v250 w17 ho hb hg hat
      rw [← Ny249.out] at ho
      have n0_ := Aside0.mk (Kd.V_afterv (ok := (fun k_ => (P0_7_ k_ ∨ w.heap.size ≤ k_) ∧ k_ ≠ gb245 ∧ k_ ≠ gb246 ∧ k_ ≠ gb247)) (by (with_reducible repeat (first | apply Kd.V_alloc | apply Kd.V_drewN | apply Kd.V_drew)); exact Kd.V_mono HO_246007.out (fun _ hk => ⟨⟨hk.1, ⟨hk.2.2.1, ⟨hk.2.2.2.1, hk.2.2.2.2⟩⟩⟩, hk.2.1⟩)) hg hat)
      have n1_ := Aside0.mk (Kd.V_afterv (ok := (fun k_ => (P0_7_ k_ ∨ w.heap.size ≤ k_) ∧ k_ ≠ gb245 ∧ k_ ≠ gb246 ∧ k_ ≠ gb247)) (by (with_reducible repeat (first | apply Kd.V_alloc | apply Kd.V_drewN | apply Kd.V_drew)); exact Kd.V_mono HO_248007.out (fun _ hk => ⟨⟨hk.1, ⟨hk.2.2.1, ⟨hk.2.2.2.1, hk.2.2.2.2⟩⟩⟩, hk.2.1⟩)) hg hat)
      have n2_ := Aside0.mk (blk_grown (g := gb245) (o := .cells #[.string a0_0, .int .i64 a0_1, .int .i64 a0_2, .int .i64 a0_3, .int .i64 a0_4, .int .i64 a0_5, .slice (some ad248) l0_6.length c0_6, .slice A0_7 l0_7.length c0_7] 25 (0, 0)) (by (with_reducible repeat (first | refine blk_drewN ?_ _ | refine blk_drew ?_ | refine blk_alloc ?_ _)); exact BK245.out) hg (Kd.R_ne HO_248006.out BK245.out (by decide)))
      have n3_ := Aside0.mk (blk_grown (g := gb246) (o := .cells #[.string (⟨#[]⟩ : ByteArray), .int .i64 0, .int .i64 0, .int .i64 0, .int .i64 0, .int .i64 0, .slice none 0 0, .slice none 0 0] 36 (0, 0)) (by (with_reducible repeat (first | refine blk_drewN ?_ _ | refine blk_drew ?_ | refine blk_alloc ?_ _)); exact BK246.out) hg (Kd.R_ne HO_248006.out BK246.out (by decide)))
      have n4_ := Aside0.mk (blk_grown (g := gb247) (o := .cells #[.string a0_0, .int .i64 a0_1, .int .i64 a0_2, .int .i64 a0_3, .int .i64 a0_4, .int .i64 a0_5, u248006, .slice A0_7 l0_7.length c0_7] 36 (0, 0)) (by (with_reducible repeat (first | refine blk_drewN ?_ _ | refine blk_drew ?_ | refine blk_alloc ?_ _)); exact BK247.out) hg (Kd.R_ne HO_248006.out BK247.out (by decide)))
      have n5_ := Aside0.mk (hb)
      have n6_ := Aside0.mk (ho)
      clear HO_246007
      clear HO_248007
      clear BK245
      clear BK246
      clear BK247
      clear HB
      clear HO_248006
      have HO_246007 := n0_
      have HO_248007 := n1_
      have BK245 := n2_
      have BK246 := n3_
      have BK247 := n4_
      have HB := n5_
      have HO251 := n6_
      clear n0_ n1_ n2_ n3_ n4_ n5_ n6_
      clear ho hb hg hat
      obtain ⟨Ao18, co18, eo18⟩ := Kd.R_slice HO251.out
      (first | subst eo18 | (injection eo18 with f1_ f2_ f3_; have f4_ := f1_.symm; have f5_ := f3_.symm; clear f1_ f2_ f3_; subst f4_; subst f5_))
      refine hK.out _ _ ⟨(blk_cell BK247.out 0).trans rfl, (blk_cell BK247.out 1).trans rfl, (blk_cell BK247.out 2).trans rfl, (blk_cell BK247.out 3).trans rfl, (blk_cell BK247.out 4).trans rfl, (blk_cell BK247.out 5).trans rfl, (blk_cell BK247.out 6).trans rfl, (blk_cell BK247.out 7).trans rfl, (blk_cell BK245.out 0).trans rfl, (blk_cell BK245.out 1).trans rfl, (blk_cell BK245.out 2).trans rfl, (blk_cell BK245.out 3).trans rfl, (blk_cell BK245.out 4).trans rfl, (blk_cell BK245.out 5).trans rfl, (blk_cell BK245.out 6).trans rfl, (blk_cell BK245.out 7).trans rfl, ((HB.out.cell (World.block_lt_of_cell? w _ hw248_0)).trans hw248_0), ((HB.out.cell (World.block_lt_of_cell? w _ hw248_1)).trans hw248_1), ((HB.out.cell (World.block_lt_of_cell? w _ hw248_2)).trans hw248_2), ((HB.out.cell (World.block_lt_of_cell? w _ hw248_3)).trans hw248_3), ((HB.out.cell (World.block_lt_of_cell? w _ hw248_4)).trans hw248_4), ((HB.out.cell (World.block_lt_of_cell? w _ hw248_5)).trans hw248_5), ((HB.out.cell (World.block_lt_of_cell? w _ hw248_6)).trans hw248_6)⟩ (fun hHeld => ?_)
      clear hK K
      refine norm_ (a' := ?_) ?_ ?_
      rotate_left
      ·show Act.put _ (some 35) _ = _
       simp only [Act.put, List.setIfInBounds_toArray, List.set_cons_zero, List.set_cons_succ, i64_w, i32_w]
       rfl
      refine pure_ (i := 9) (N := some 36) (v := ?_) (a' := ?_) #[true, true, true, true, true, true, true, true, true, true, false] rfl rfl (any_of HT_.out (by kernel_rfl)) (fun _ _ _ h => h) (Or.inl ⟨by rfl, ?_⟩) ?_ ?_
      rotate_left
      ·intro w'
       go_simp
       with_reducible rfl
      rotate_left
      ·simp only [Act.put, List.setIfInBounds_toArray, List.set_cons_zero, List.set_cons_succ, i64_w, i32_w]
       rfl
      refine last_ (i := 10) (N := none) #[true, true, true, true, true, true, true, true, true, true, true] rfl rfl (one_of HT_.out (by kernel_rfl)) (by decide) (fun K hK => ?_)
      have hs19 : w17.cell? ⟨gb247, 6, none⟩ = some (u248006) := (blk_cell BK247.out 6).trans rfl
      have hfs19 := blk_frozen BK247.out 6
      have hns19_0 := NB245_247.out
      have hns19_1 := NB246_247.out
      have hms19_0 := NB247_245.out
      have hms19_1 := NB247_246.out
      refine skip_ (w1 := ?_) (by rfl) rfl ?_ ?_
      rotate_left
      ·go_simp
       rfl
      refine hK.out _ _ ?_
      clear hK K
      refine done_ (done_of HT_.out (by kernel_rfl)) ?_
      try go_wp2
      go_roundg k1
      case measure => have := HK1.out; omega
      case rel => exact ⟨(wrap64 (x4_1 + 1)), (y249), (.slice Ao18 y249.length co18), (by first | rfl | (simp; done) | (simp [*]; done)), H', ⟨by have := HK1.out; omega⟩, ⟨by (with_reducible repeat (first | apply Kd.V_alloc | apply Kd.V_drewN | apply Kd.V_drew)); exact Kd.V_mono (Kd.V_far (p := ⟨gb247, 6, none⟩) (Kd.V_mono HO_246007.out (fun k_ hk => (⟨hk, hk.1.2.2.2⟩ : _ ∧ k_ ≠ gb247))) (fun _ hk => hk.2) (.slice Ao18 y249.length co18)) (fun _ hk => ⟨hk.1.1.1, ⟨hk.1.2, ⟨hk.1.1.2.1, ⟨hk.1.1.2.2.1, hk.1.1.2.2.2⟩⟩⟩⟩)⟩, ⟨by (with_reducible repeat (first | apply Kd.R_alloc | apply Kd.R_drewN | apply Kd.R_drew)); exact Kd.R_mono (Kd.R_far (p := ⟨gb247, 6, none⟩) (Kd.R_types HO251.out BK247.out (by decide)) (fun _ hk => hk.2) (.slice Ao18 y249.length co18)) (fun _ hk => hk.1)⟩, ⟨by (with_reducible repeat (first | apply Kd.V_alloc | apply Kd.V_drewN | apply Kd.V_drew)); exact Kd.V_mono (Kd.V_far (p := ⟨gb247, 6, none⟩) (Kd.V_mono HO_248007.out (fun k_ hk => (⟨hk, hk.1.2.2.2⟩ : _ ∧ k_ ≠ gb247))) (fun _ hk => hk.2) (.slice Ao18 y249.length co18)) (fun _ hk => ⟨hk.1.1.1, ⟨hk.1.2, ⟨hk.1.1.2.1, ⟨hk.1.1.2.2.1, hk.1.1.2.2.2⟩⟩⟩⟩)⟩, ⟨by (with_reducible repeat (first | refine blk_drewN ?_ _ | refine blk_drew ?_ | refine blk_alloc ?_ _)); refine blk_far ?_ NB245_247.out _; (with_reducible repeat (first | refine blk_drewN ?_ _ | refine blk_drew ?_ | refine blk_alloc ?_ _)); exact BK245.out⟩, ⟨by (with_reducible repeat (first | refine blk_drewN ?_ _ | refine blk_drew ?_ | refine blk_alloc ?_ _)); refine blk_far ?_ NB246_247.out _; (with_reducible repeat (first | refine blk_drewN ?_ _ | refine blk_drew ?_ | refine blk_alloc ?_ _)); exact BK246.out⟩, ⟨by (with_reducible repeat (first | refine blk_drewN ?_ _ | refine blk_drew ?_ | refine blk_alloc ?_ _)); refine blk_put (cs := #[.string a0_0, .int .i64 a0_1, .int .i64 a0_2, .int .i64 a0_3, .int .i64 a0_4, .int .i64 a0_5, u248006, .slice A0_7 l0_7.length c0_7]) ?_ 6 _ rfl; (with_reducible repeat (first | refine blk_drewN ?_ _ | refine blk_drew ?_ | refine blk_alloc ?_ _)); exact BK247.out⟩, ⟨by repeat (first | (with_reducible first | exact HB.out | apply below_alloc | apply pw_below_drewN | apply below_drew1 | refine below_set ?_ GE245.out | refine below_set ?_ GE246.out | refine below_set ?_ GE247.out) | exact HB.out)⟩⟩
     ·rw [if_neg c12] at H
      exact absurd H (by simp)
    ·rw [if_neg c11] at H
     exact absurd H (by simp)
   ·rw [if_neg c10] at H
    have c10b0 : decide (x4_1 < (l0_6.length : Int)) = false := decide_eq_false c10
    clear c10
    simp only [Option.some.injEq, Prod.mk.injEq] at H
    obtain ⟨rfl, rfl, rfl, rfl, rfl, rfl, rfl, rfl⟩ := H
    have hnb20 := NB245_246.out
    have hnc20 := NB246_245.out
    have hnb21 := NB245_247.out
    have hnc21 := NB247_245.out
    obtain ⟨hcz22_0, hcz22_1, hcz22_2, hcz22_3, hcz22_4, hcz22_5, hcz22_6, hcz22_7, hfz22_0, hfz22_1, hfz22_2, hfz22_3, hfz22_4, hfz22_5, hfz22_6, hfz22_7⟩ := blk8_ BK245.out
    have hnb23 := NB247_246.out
    have hnc23 := NB246_247.out
    obtain ⟨hcz24_0, hcz24_1, hcz24_2, hcz24_3, hcz24_4, hcz24_5, hcz24_6, hcz24_7, hfz24_0, hfz24_1, hfz24_2, hfz24_3, hfz24_4, hfz24_5, hfz24_6, hfz24_7⟩ := blk8_ BK247.out
    obtain ⟨hcz25_0, hcz25_1, hcz25_2, hcz25_3, hcz25_4, hcz25_5, hcz25_6, hcz25_7, hfz25_0, hfz25_1, hfz25_2, hfz25_3, hfz25_4, hfz25_5, hfz25_6, hfz25_7⟩ := blk8_ BK246.out
    obtain ⟨Ao26, co26, eo26⟩ := Kd.R_slice HO_248006.out
    subst eo26
    go_wp2
    refine bodyPost_ret (results_cell_row rfl _ _ gb246 36 #[.string a0_0, .int .i64 a0_1, .int .i64 a0_2, .int .i64 a0_3, .int .i64 a0_4, .int .i64 a0_5, .slice Ao26 x248006_1.length co26, .slice A0_7 l0_7.length c0_7] (0, 0) _ rfl (by (with_reducible repeat (first | refine blk_drewN ?_ _ | refine blk_drew ?_ | refine blk_alloc ?_ _)); refine blk_put (cs := #[.string a0_0, .int .i64 a0_1, .int .i64 a0_2, .int .i64 a0_3, .int .i64 a0_4, .int .i64 a0_5, .slice Ao26 x248006_1.length co26, .slice none 0 0]) ?_ 7 _ rfl; (with_reducible repeat (first | refine blk_drewN ?_ _ | refine blk_drew ?_ | refine blk_alloc ?_ _)); refine blk_put (cs := #[.string a0_0, .int .i64 a0_1, .int .i64 a0_2, .int .i64 a0_3, .int .i64 a0_4, .int .i64 a0_5, .slice none 0 0, .slice none 0 0]) ?_ 6 _ rfl; (with_reducible repeat (first | refine blk_drewN ?_ _ | refine blk_drew ?_ | refine blk_alloc ?_ _)); refine blk_put (cs := #[.string a0_0, .int .i64 a0_1, .int .i64 a0_2, .int .i64 a0_3, .int .i64 a0_4, .int .i64 0, .slice none 0 0, .slice none 0 0]) ?_ 5 _ rfl; (with_reducible repeat (first | refine blk_drewN ?_ _ | refine blk_drew ?_ | refine blk_alloc ?_ _)); refine blk_put (cs := #[.string a0_0, .int .i64 a0_1, .int .i64 a0_2, .int .i64 a0_3, .int .i64 0, .int .i64 0, .slice none 0 0, .slice none 0 0]) ?_ 4 _ rfl; (with_reducible repeat (first | refine blk_drewN ?_ _ | refine blk_drew ?_ | refine blk_alloc ?_ _)); refine blk_put (cs := #[.string a0_0, .int .i64 a0_1, .int .i64 a0_2, .int .i64 0, .int .i64 0, .int .i64 0, .slice none 0 0, .slice none 0 0]) ?_ 3 _ rfl; (with_reducible repeat (first | refine blk_drewN ?_ _ | refine blk_drew ?_ | refine blk_alloc ?_ _)); refine blk_put (cs := #[.string a0_0, .int .i64 a0_1, .int .i64 0, .int .i64 0, .int .i64 0, .int .i64 0, .slice none 0 0, .slice none 0 0]) ?_ 2 _ rfl; (with_reducible repeat (first | refine blk_drewN ?_ _ | refine blk_drew ?_ | refine blk_alloc ?_ _)); refine blk_put (cs := #[.string a0_0, .int .i64 0, .int .i64 0, .int .i64 0, .int .i64 0, .int .i64 0, .slice none 0 0, .slice none 0 0]) ?_ 1 _ rfl; (with_reducible repeat (first | refine blk_drewN ?_ _ | refine blk_drew ?_ | refine blk_alloc ?_ _)); refine blk_put (cs := #[.string (⟨#[]⟩ : ByteArray), .int .i64 0, .int .i64 0, .int .i64 0, .int .i64 0, .int .i64 0, .slice none 0 0, .slice none 0 0]) ?_ 0 _ rfl; (with_reducible repeat (first | refine blk_drewN ?_ _ | refine blk_drew ?_ | refine blk_alloc ?_ _)); exact BK246.out) Try.underlying36 rfl (by kernel_rfl)) rfl ?_
    exact ⟨_, _, by first | rfl | (simp [errW_none, errW_some] <;> rfl) | (simp [*, errW_none, errW_some] <;> rfl), by (with_reducible repeat (first | apply Kd.R_alloc | apply Kd.R_drewN | apply Kd.R_drew)); exact Kd.R_mono (Kd.R_far (p := ⟨gb246, 7, none⟩) (Kd.R_far (p := ⟨gb246, 6, none⟩) (Kd.R_far (p := ⟨gb246, 5, none⟩) (Kd.R_far (p := ⟨gb246, 4, none⟩) (Kd.R_far (p := ⟨gb246, 3, none⟩) (Kd.R_far (p := ⟨gb246, 2, none⟩) (Kd.R_far (p := ⟨gb246, 1, none⟩) (Kd.R_far (p := ⟨gb246, 0, none⟩) (Kd.R_types HO_248006.out BK246.out (by decide)) (fun _ hk => hk.2) (.string a0_0)) (fun _ hk => hk.2) (.int .i64 a0_1)) (fun _ hk => hk.2) (.int .i64 a0_2)) (fun _ hk => hk.2) (.int .i64 a0_3)) (fun _ hk => hk.2) (.int .i64 a0_4)) (fun _ hk => hk.2) (.int .i64 a0_5)) (fun _ hk => hk.2) (.slice Ao26 x248006_1.length co26)) (fun _ hk => hk.2) (.slice A0_7 l0_7.length c0_7)) (fun _ hk => hk.1), by (with_reducible repeat (first | apply Kd.V_alloc | apply Kd.V_drewN | apply Kd.V_drew)); exact Kd.V_mono (Kd.V_far (p := ⟨gb246, 7, none⟩) (Kd.V_far (p := ⟨gb246, 6, none⟩) (Kd.V_far (p := ⟨gb246, 5, none⟩) (Kd.V_far (p := ⟨gb246, 4, none⟩) (Kd.V_far (p := ⟨gb246, 3, none⟩) (Kd.V_far (p := ⟨gb246, 2, none⟩) (Kd.V_far (p := ⟨gb246, 1, none⟩) (Kd.V_far (p := ⟨gb246, 0, none⟩) (Kd.V_mono HO_248007.out (fun k_ hk => (⟨hk, hk.2.2.2.1⟩ : _ ∧ k_ ≠ gb246))) (fun _ hk => hk.2) (.string a0_0)) (fun _ hk => hk.2) (.int .i64 a0_1)) (fun _ hk => hk.2) (.int .i64 a0_2)) (fun _ hk => hk.2) (.int .i64 a0_3)) (fun _ hk => hk.2) (.int .i64 a0_4)) (fun _ hk => hk.2) (.int .i64 a0_5)) (fun _ hk => hk.2) (.slice Ao26 x248006_1.length co26)) (fun _ hk => hk.2) (.slice A0_7 l0_7.length c0_7)) (fun _ hk => ⟨hk.1.1, hk.1.2.1⟩), by repeat (first | (with_reducible first | exact HB.out | apply below_alloc | apply pw_below_drewN | apply below_drew1 | refine below_set ?_ GE245.out | refine below_set ?_ GE246.out | refine below_set ?_ GE247.out) | exact HB.out)⟩

end Go.Proofs.Ytfnnngoandpgkaa.P
namespace Go.Proofs.Ytfnnngoandpgkaa.P
open Go.RowKit Go.Proofs.YtfnnngoandpgkaaW.PrintWords Go.Proofs.YtfnnngoandpgkaaW.PrintLast Go.Proofs.YtfnnngoandpgkaaW.PrintMore
attribute [local go_sem] max2_int min2_int max_two min_two max_three min_three max_four min_four   -- for this text's walks alone
set_option linter.unusedVariables false
set_option linter.unusedSimpArgs false

/-! ### entrepotlaw08_faults: function 13 -/
def entrepotlaw08_faults.l0 : Nat → List (S43) → List (S58) → Int → Option ((List (S58)))
 | 0, _, _, _ => none
 | k + 1, x0, x3, x4 => if x4 < (x0.length : Int) then (if 0 ≤ x4 then (if x3.length < 8796093022208 then (entrepotlaw08_faults.l0 k x0 (x3 ++ [(⟨(rd_T43 x0 x4).f0, (rd_T43 x0 x4).f1⟩ : S58)]) (wrap64 (x4 + 1))) else (none)) else (none)) else (some x3)
def entrepotlaw08_faults.f (k : Nat) (l0 : List (S43)) : Option ((List (S58))) := entrepotlaw08_faults.l0 k l0 (([] : List (S58))) 0
theorem entrepotlaw08_faults.mono_l : ∀ k, (∀ y0 y1 y2, LeO (entrepotlaw08_faults.l0 k y0 y1 y2) (entrepotlaw08_faults.l0 (k + 1) y0 y1 y2))
 | 0 => fun _ _ _ r h => by simp [entrepotlaw08_faults.l0] at h
 | k + 1 => by
  have ih0 := entrepotlaw08_faults.mono_l k
  ·intro y0 y1 y2
   unfold entrepotlaw08_faults.l0
   repeat' first
   | (with_reducible exact ih0 _ _ _)
   | (with_reducible exact LeO.refl _)
   | (with_reducible exact LeO.none _)
   | (with_reducible refine LeO.ite ?_ ?_)
   | (with_reducible refine LeO.bind ?_ (fun _ => ?_))
   | exact ih0 _ _ _
   | exact LeO.none _
   | refine LeO.ite ?_ ?_
   | refine LeO.bind ?_ (fun _ => ?_)
theorem entrepotlaw08_faults.mono : ∀ a0 k, LeO (entrepotlaw08_faults.f k a0) (entrepotlaw08_faults.f (k + 1) a0) := by
 intro a0 k
 have ih0 := entrepotlaw08_faults.mono_l k
 unfold entrepotlaw08_faults.f
 repeat' first
   | (with_reducible exact ih0 _ _ _)
   | (with_reducible exact LeO.refl _)
   | (with_reducible exact LeO.none _)
   | (with_reducible refine LeO.ite ?_ ?_)
   | (with_reducible refine LeO.bind ?_ (fun _ => ?_))
   | exact ih0 _ _ _
   | exact LeO.none _
   | refine LeO.ite ?_ ?_
   | refine LeO.bind ?_ (fun _ => ?_)
set_option maxHeartbeats 8000000 in
set_option maxRecDepth 100000 in
theorem entrepotlaw08_faults.calls (k : Nat) (A0 : Option Addr) (c0 : Nat) (l0 : List (S43)) (r : List (S58)) (w : World) (hr0 : Kd.C k43 w A0 l0.length l0) (hc0 : l0.length ≤ c0) (h : entrepotlaw08_faults.f k l0 = some r) :
  Calls Try.prog 13 #[.slice A0 l0.length c0] w fun e w' => ∃ v0_ : Value, e = .returned (v0_) ∧ Kd.R k58 58 w' w.heap.size (fun _ => True) v0_ r ∧ Below w.heap.size w w' := by
 have hu43 := Try.underlying43
 have HR0 := Aside0.mk hr0
 have HC0 := Aside0.mk hc0
 clear hr0 hc0
 have HB := Aside0.mk (Below.refl w.heap.size w)
 have H : (entrepotlaw08_faults.l0 k l0 (([] : List (S58))) 0) = some r := h
 clear h
 obtain ⟨y156, hy156⟩ : ∃ y_ : List (S58), y_ = (([] : List (S58))) := ⟨_, rfl⟩
 replace H : (entrepotlaw08_faults.l0 k l0 y156 0) = some r := by first | (rw [hy156]; with_reducible exact H) | (have H2_ := (Option.bind_some _ _).symm.trans H; rw [hy156]; with_reducible exact H2_) | (have H2_ := (Option.bind_some _ _).symm.trans H; with_reducible exact H2_) | with_reducible exact H | (rw [hy156]; exact H) | exact H
 have Ny156 := Aside0.mk hy156
 clear hy156
 have H' := Aside0.mk H
 clear H
 go_enter Try.func13, Try.ntmps13
 go_wp2_with (first | ((with_reducible refine gate_dst (N := 5) rfl ?_); refine Kd.R_lit k58 _ 58 ?hg (N := 5) ?hd (xs := ([] : List (S58))) (inner := []) (ok := fun _ => True) (okp := fun _ => True) ?hr ?hp (fun _ hk => hk) trivial (Below.refl _ _) (Nat.le_refl _) (by simp) ?_; (case hd => rfl); (case hg => rfl); (case hr => first | (go_simp; done) | (go_simp; rfl)); (case hp => exact (Reps.none _ _)); intro v157 w2 ho3 hb hg_ hnew_; clear hg_ hnew_; (first | rw [← Ny156.out] at ho3 | (simp only [Int.reduceToNat] at ho3; rw [← Ny156.out] at ho3)); have n0_ := Aside0.mk (Kd.R_lower ho3 (below_size (by repeat (first | (with_reducible first | exact HB.out | apply below_alloc | apply pw_below_drewN | apply below_drew1) | exact HB.out)))); have n1_ := Aside0.mk (below_step (by repeat (first | (with_reducible first | exact HB.out | apply below_alloc | apply pw_below_drewN | apply below_drew1) | exact HB.out)) hb); clear HB; have HO158 := n0_; have HB := n1_; clear n0_ n1_; clear hb ho3))
 go_loopg [3, 4] k (fun kq v3 v4 w' => ∃ (x3_1 : List (S58)) (x4_1 : Int), v4 = .int .i64 x4_1 ∧ Aside0 (entrepotlaw08_faults.l0 kq l0 x3_1 x4_1 = some r) ∧ Aside0 (kq ≤ k) ∧ Aside0 (Kd.R k58 58 w' w.heap.size (fun _ => True) v3 x3_1) ∧ Aside0 (Below w.heap.size w w'))
 case atStart => exact ⟨(y156), (0), (by first | rfl | (simp; done) | (simp [*]; done)), H', ⟨Nat.le_refl _⟩, ⟨by (with_reducible repeat (first | apply Kd.R_alloc | apply Kd.R_drewN | apply Kd.R_drew)); exact HO158.out⟩, ⟨by repeat (first | (with_reducible first | exact HB.out | apply below_alloc | apply pw_below_drewN | apply below_drew1) | exact HB.out)⟩⟩
 case round =>
  clear H'
  obtain ⟨x3_1, x4_1, rfl, HA, HK1, HO_3, HB⟩ := hrel
  cases gk with
  | zero => exact absurd HA.out (by simp [entrepotlaw08_faults.l0])
  | succ k1 =>
   have H := HA.out
   clear HA
   simp only [entrepotlaw08_faults.l0] at H
   by_cases c4 : x4_1 < (l0.length : Int)
   ·rw [if_pos c4] at H
    have c4b0 : decide (x4_1 < (l0.length : Int)) = true := decide_eq_true c4
    clear c4
    by_cases c5 : 0 ≤ x4_1
    ·rw [if_pos c5] at H
     have c5b0 : decide (0 ≤ x4_1) = true := decide_eq_true c5
     clear c5
     by_cases c6 : x3_1.length < 8796093022208
     ·rw [if_pos c6] at H
      have LMc6 := Aside0.mk c6
      clear c6
      obtain ⟨y160, hy160⟩ : ∃ y_ : List (S58), y_ = (x3_1 ++ [(⟨(rd_T43 l0 x4_1).f0, (rd_T43 l0 x4_1).f1⟩ : S58)]) := ⟨_, rfl⟩
      replace H : (entrepotlaw08_faults.l0 k1 l0 y160 (wrap64 (x4_1 + 1))) = some r := by first | (rw [hy160]; with_reducible exact H) | (have H2_ := (Option.bind_some _ _).symm.trans H; rw [hy160]; with_reducible exact H2_) | (have H2_ := (Option.bind_some _ _).symm.trans H; with_reducible exact H2_) | with_reducible exact H | (rw [hy160]; exact H) | exact H
      have Ny160 := Aside0.mk hy160
      clear hy160
      have H' := Aside0.mk H
      clear H
      have p159 : 0 ≤ (x4_1 : Int) := of_decide_eq_true (by first | (with_reducible assumption) | assumption)
      have q159 : x4_1 < (l0.length : Int) := of_decide_eq_true (by first | (with_reducible assumption) | assumption)
      obtain ⟨ad159, e159, hx159_0, hx159_1⟩ := at_T43 HR0.out x4_1 p159 q159
      cases e159
      replace hx159_0 := (HB.out.cell (World.block_lt_of_cell? w _ hx159_0)).trans hx159_0
      replace hx159_1 := (HB.out.cell (World.block_lt_of_cell? w _ hx159_1)).trans hx159_1
      replace p159 := eq_true p159
      replace q159 := eq_true q159
      go_wp2_with (first | ((with_reducible refine gate_builtin (b := .append) (xs := #[.tmp 12, .tmp 17]) rfl ?_); at_builtin; refine Kd.R_append k58 (w0 := w) w.heap.size rfl (.tmp 12) (.tmp 17) 31 58 (.agg #[(.int .i64 0), (.int .i64 0)]) 16 rfl Try.underlying31 info58 rfl (by decide) (by omega) u3 x3_1 (⟨(rd_T43 l0 x4_1).f0, (rd_T43 l0 x4_1).f1⟩ : S58) [.int .i64 ((rd_T43 l0 x4_1).f0), .int .i64 ((rd_T43 l0 x4_1).f1)] (fun _ => True) (fun _ => False) rfl rfl ?aP (fun _ hk => hk.elim) ?aF ?aO ?aB ?aS ?aL ?_; (case aP => exact k58_mkM _ _ _ (⟨(rd_T43 l0 x4_1).f0, (rd_T43 l0 x4_1).f1⟩ : S58)); (case aB => exact (by repeat (first | (with_reducible first | exact HB.out | apply below_alloc | apply pw_below_drewN | apply below_drew1) | exact HB.out))); (case aF => exact (fun _ _ => trivial)); (case aO => exact (by (with_reducible repeat (first | apply Kd.R_alloc | apply Kd.R_drewN | apply Kd.R_drew)); exact HO_3.out)); (case aS => exact (below_size (by repeat (first | (with_reducible first | exact HB.out | apply below_alloc | apply pw_below_drewN | apply below_drew1) | exact HB.out)))); (case aL => have := LMc6.out; omega); intro v161 w7 ho hb hg hat; rw [← Ny160.out] at ho; have n0_ := Aside0.mk (hb); have n1_ := Aside0.mk (ho); clear HB; clear HO_3; have HB := n0_; have HO162 := n1_; clear n0_ n1_; clear ho hb hg hat))
      go_roundg k1
      case measure => have := HK1.out; omega
      case rel => exact ⟨(y160), (wrap64 (x4_1 + 1)), (by first | rfl | (simp; done) | (simp [*]; done)), H', ⟨by have := HK1.out; omega⟩, ⟨by (with_reducible repeat (first | apply Kd.R_alloc | apply Kd.R_drewN | apply Kd.R_drew)); exact HO162.out⟩, ⟨by repeat (first | (with_reducible first | exact HB.out | apply below_alloc | apply pw_below_drewN | apply below_drew1) | exact HB.out)⟩⟩
     ·rw [if_neg c6] at H
      exact absurd H (by simp)
    ·rw [if_neg c5] at H
     exact absurd H (by simp)
   ·rw [if_neg c4] at H
    have c4b0 : decide (x4_1 < (l0.length : Int)) = false := decide_eq_false c4
    clear c4
    obtain rfl := Option.some.inj H
    go_wp2
    go_ret
    exact ⟨_, by first | rfl | (simp [errW_none, errW_some] <;> rfl) | (simp [*, errW_none, errW_some] <;> rfl), by (with_reducible repeat (first | apply Kd.R_alloc | apply Kd.R_drewN | apply Kd.R_drew)); exact HO_3.out, by repeat (first | (with_reducible first | exact HB.out | apply below_alloc | apply pw_below_drewN | apply below_drew1) | exact HB.out)⟩

end Go.Proofs.Ytfnnngoandpgkaa.P
namespace Go.Proofs.Ytfnnngoandpgkaa.P
open Go.RowKit Go.Proofs.YtfnnngoandpgkaaW.PrintWords Go.Proofs.YtfnnngoandpgkaaW.PrintLast Go.Proofs.YtfnnngoandpgkaaW.PrintMore
attribute [local go_sem] max2_int min2_int max_two min_two max_three min_three max_four min_four   -- for this text's walks alone
set_option linter.unusedVariables false
set_option linter.unusedSimpArgs false

attribute [local go_sem high] eqA58
/-! ### entrepotref08_Faults: function 12 -/
def entrepotref08_Faults.l0 : Nat → List (S58) → List (S58) → Int → Option (Bool)
 | 0, _, _, _ => none
 | k + 1, x0, x1, x5 => if x5 < (x0.length : Int) then (if 0 ≤ x5 then (if x5 < (x1.length : Int) then (if (!(((rd_T58 x0 x5).f0) == ((rd_T58 x1 x5).f0)) || (!(((rd_T58 x0 x5).f1) == ((rd_T58 x1 x5).f1)))) = true then (some false) else (entrepotref08_Faults.l0 k x0 x1 (wrap64 (x5 + 1)))) else (none)) else (none)) else (some true)
def entrepotref08_Faults.f (k : Nat) (l0 : List (S58)) (l1 : List (S58)) : Option (Bool) := if (l0.length : Int) = (l1.length : Int) then (entrepotref08_Faults.l0 k l0 l1 0) else (some false)
theorem entrepotref08_Faults.mono_l : ∀ k, (∀ y0 y1 y2, LeO (entrepotref08_Faults.l0 k y0 y1 y2) (entrepotref08_Faults.l0 (k + 1) y0 y1 y2))
 | 0 => fun _ _ _ r h => by simp [entrepotref08_Faults.l0] at h
 | k + 1 => by
  have ih0 := entrepotref08_Faults.mono_l k
  ·intro y0 y1 y2
   unfold entrepotref08_Faults.l0
   repeat' first
   | (with_reducible exact ih0 _ _ _)
   | (with_reducible exact LeO.refl _)
   | (with_reducible exact LeO.none _)
   | (with_reducible refine LeO.ite ?_ ?_)
   | (with_reducible refine LeO.bind ?_ (fun _ => ?_))
   | exact ih0 _ _ _
   | exact LeO.none _
   | refine LeO.ite ?_ ?_
   | refine LeO.bind ?_ (fun _ => ?_)
theorem entrepotref08_Faults.mono : ∀ a0 a1 k, LeO (entrepotref08_Faults.f k a0 a1) (entrepotref08_Faults.f (k + 1) a0 a1) := by
 intro a0 a1 k
 have ih0 := entrepotref08_Faults.mono_l k
 unfold entrepotref08_Faults.f
 repeat' first
   | (with_reducible exact ih0 _ _ _)
   | (with_reducible exact LeO.refl _)
   | (with_reducible exact LeO.none _)
   | (with_reducible refine LeO.ite ?_ ?_)
   | (with_reducible refine LeO.bind ?_ (fun _ => ?_))
   | exact ih0 _ _ _
   | exact LeO.none _
   | refine LeO.ite ?_ ?_
   | refine LeO.bind ?_ (fun _ => ?_)
set_option maxHeartbeats 8000000 in
set_option maxRecDepth 100000 in
theorem entrepotref08_Faults.calls (k : Nat) (A0 : Option Addr) (c0 : Nat) (l0 : List (S58)) (A1 : Option Addr) (c1 : Nat) (l1 : List (S58)) (r : Bool) (w : World) (hr0 : Kd.C k58 w A0 l0.length l0) (hc0 : l0.length ≤ c0) (hr1 : Kd.C k58 w A1 l1.length l1) (hc1 : l1.length ≤ c1) (h : entrepotref08_Faults.f k l0 l1 = some r) :
  Calls Try.prog 12 #[.slice A0 l0.length c0, .slice A1 l1.length c1] w fun e w' => e = .returned (.bool r) ∧ Drawn0 w w' := by
 have hu58 := Try.underlying58
 have HR0 := Aside0.mk hr0
 have HC0 := Aside0.mk hc0
 clear hr0 hc0
 have HR1 := Aside0.mk hr1
 have HC1 := Aside0.mk hc1
 clear hr1 hc1
 have H : (if (l0.length : Int) = (l1.length : Int) then (entrepotref08_Faults.l0 k l0 l1 0) else (some false)) = some r := h
 clear h
 by_cases c3 : (l0.length : Int) = (l1.length : Int)
 ·rw [if_pos c3] at H
  have c3b0 : ((l0.length : Int) == (l1.length : Int)) = true := beq_iff_eq.mpr c3
  have c3b1 : ((l0.length : Int) != (l1.length : Int)) = false := bne_eq_false_iff_eq.mpr c3
  have c3b2 : (l0.length == l1.length) = true := by first | simpa using c3 | (simp at c3 ⊢; omega)
  clear c3
  have H' := Aside0.mk H
  clear H
  go_enter Try.func12, Try.ntmps12
  go_wp2
  repeat (go_quiet (fail); try go_wp2)
  go_loopg [5] k (fun kq v5 w' => ∃ (x5_1 : Int), v5 = .int .i64 x5_1 ∧ Aside0 (entrepotref08_Faults.l0 kq l0 l1 x5_1 = some r) ∧ Aside0 (kq ≤ k) ∧ Drawn0 w w')
  case atStart => exact ⟨(0), (by first | rfl | (simp; done) | (simp [*]; done)), H', ⟨Nat.le_refl _⟩, by repeat (first | exact Drawn0.refl _ | apply Drawn0.step)⟩
  case round =>
   clear H'
   (try clear c1); (try clear c3); (try clear c3b0); (try clear c3b1); (try clear c3b2)
   obtain ⟨x5_1, rfl, HA, HK1, ⟨m1, rfl⟩⟩ := hrel
   cases gk with
   | zero => exact absurd HA.out (by simp [entrepotref08_Faults.l0])
   | succ k1 =>
    have H := HA.out
    clear HA
    simp only [entrepotref08_Faults.l0] at H
    by_cases c4 : x5_1 < (l0.length : Int)
    ·rw [if_pos c4] at H
     have c4b0 : decide (x5_1 < (l0.length : Int)) = true := decide_eq_true c4
     clear c4
     by_cases c5 : 0 ≤ x5_1
     ·rw [if_pos c5] at H
      have c5b0 : decide (0 ≤ x5_1) = true := decide_eq_true c5
      clear c5
      by_cases c6 : x5_1 < (l1.length : Int)
      ·rw [if_pos c6] at H
       have c6b0 : decide (x5_1 < (l1.length : Int)) = true := decide_eq_true c6
       clear c6
       by_cases c7 : (!(((rd_T58 l0 x5_1).f0) == ((rd_T58 l1 x5_1).f0)) || (!(((rd_T58 l0 x5_1).f1) == ((rd_T58 l1 x5_1).f1)))) = true
       ·rw [if_pos c7] at H
        have c7b0 : (!(((rd_T58 l0 x5_1).f0) == ((rd_T58 l1 x5_1).f0)) || (!(((rd_T58 l0 x5_1).f1) == ((rd_T58 l1 x5_1).f1)))) = true := c7
        clear c7
        obtain rfl := Option.some.inj H
        have p154 : 0 ≤ (x5_1 : Int) := of_decide_eq_true (by first | (with_reducible assumption) | assumption)
        have q154 : x5_1 < (l0.length : Int) := of_decide_eq_true (by first | (with_reducible assumption) | assumption)
        obtain ⟨ad154, e154, hx154_0, hx154_1⟩ := at_T58 HR0.out x5_1 p154 q154
        cases e154
        replace p154 := eq_true p154
        replace q154 := eq_true q154
        have p155 : 0 ≤ (x5_1 : Int) := of_decide_eq_true (by first | (with_reducible assumption) | assumption)
        have q155 : x5_1 < (l1.length : Int) := of_decide_eq_true (by first | (with_reducible assumption) | assumption)
        obtain ⟨ad155, e155, hx155_0, hx155_1⟩ := at_T58 HR1.out x5_1 p155 q155
        cases e155
        replace p155 := eq_true p155
        replace q155 := eq_true q155
        go_wp2
        repeat (go_quiet (fail); try go_wp2)
        go_ret
        exact ⟨by first | rfl | (simp; done) | (simp [*]; done), by repeat (first | exact Drawn0.refl _ | apply Drawn0.step)⟩
       ·rw [if_neg c7] at H
        have c7b0 : (!(((rd_T58 l0 x5_1).f0) == ((rd_T58 l1 x5_1).f0)) || (!(((rd_T58 l0 x5_1).f1) == ((rd_T58 l1 x5_1).f1)))) = false := by simpa using c7
        clear c7
        have H' := Aside0.mk H
        clear H
        have p154 : 0 ≤ (x5_1 : Int) := of_decide_eq_true (by first | (with_reducible assumption) | assumption)
        have q154 : x5_1 < (l0.length : Int) := of_decide_eq_true (by first | (with_reducible assumption) | assumption)
        obtain ⟨ad154, e154, hx154_0, hx154_1⟩ := at_T58 HR0.out x5_1 p154 q154
        cases e154
        replace p154 := eq_true p154
        replace q154 := eq_true q154
        have p155 : 0 ≤ (x5_1 : Int) := of_decide_eq_true (by first | (with_reducible assumption) | assumption)
        have q155 : x5_1 < (l1.length : Int) := of_decide_eq_true (by first | (with_reducible assumption) | assumption)
        obtain ⟨ad155, e155, hx155_0, hx155_1⟩ := at_T58 HR1.out x5_1 p155 q155
        cases e155
        replace p155 := eq_true p155
        replace q155 := eq_true q155
        go_wp2
        repeat (go_quiet (fail); try go_wp2)
        go_roundg k1
        case measure => have := HK1.out; omega
        case rel => exact ⟨(wrap64 (x5_1 + 1)), (by first | rfl | (simp; done) | (simp [*]; done)), H', ⟨by have := HK1.out; omega⟩, by repeat (first | exact Drawn0.refl _ | apply Drawn0.step)⟩
      ·rw [if_neg c6] at H
       exact absurd H (by simp)
     ·rw [if_neg c5] at H
      exact absurd H (by simp)
    ·rw [if_neg c4] at H
     have c4b0 : decide (x5_1 < (l0.length : Int)) = false := decide_eq_false c4
     clear c4
     obtain rfl := Option.some.inj H
     go_wp2
     repeat (go_quiet (fail); try go_wp2)
     go_ret
     exact ⟨by first | rfl | (simp; done) | (simp [*]; done), by repeat (first | exact Drawn0.refl _ | apply Drawn0.step)⟩
 ·rw [if_neg c3] at H
  have c3b0 : ((l0.length : Int) == (l1.length : Int)) = false := beq_eq_false_iff_ne.mpr c3
  have c3b1 : ((l0.length : Int) != (l1.length : Int)) = true := bne_iff_ne.mpr c3
  have c3b2 : (l0.length == l1.length) = false := by first | simpa using c3 | (simp at c3 ⊢; omega)
  obtain rfl := Option.some.inj H
  go_enter Try.func12, Try.ntmps12
  go_wp2
  repeat (go_quiet (fail); try go_wp2)
  go_ret
  exact ⟨by first | rfl | (simp; done) | (simp [*]; done), by repeat (first | exact Drawn0.refl _ | apply Drawn0.step)⟩

end Go.Proofs.Ytfnnngoandpgkaa.P
