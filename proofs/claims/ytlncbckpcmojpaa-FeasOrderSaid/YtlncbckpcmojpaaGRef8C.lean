/- entrepotref08.Check, Well: their walks. -/
import Derived.Test.YtlncbckpcmojpaaMka
import Derived.Test.YtlncbckpcmojpaaGRef8B
import Derived.Lib.Hide
set_option linter.unusedVariables false
set_option linter.unusedSimpArgs false
namespace Go.Proofs.Ytlncbckpcmojpaa
open Go.RowKit Go.Proofs.YtlncbckpcmojpaaW.PrintWords Go.Proofs.YtlncbckpcmojpaaW.PrintLast Go.Proofs.YtlncbckpcmojpaaW.PrintMore P
namespace Ref08
def XB (x : In) : Obj := .cells #[.string x.nm, .int .i64 x.kd, .int .i64 x.mt, .int .i64 x.sc, .int .i64 x.cp, .int .i64 x.fl, .slice x.A x.ns.length x.c, .slice x.B x.mx.length x.e] 46 (0, 0)
/-- Check's state: the instance's block, the faults so far. -/
def SC (x : In) (w : World) (v : Value) (xs : List Fault) (W : World) : Prop := W.heap[w.heap.size]? = some (XB x) ∧ Kd.R k103 103 W w.heap.size (fun _ => True) v xs ∧ Below w.heap.size w W
theorem SC.below {x : In} {w : World} {v : Value} {xs : List Fault} {W W' : World} (h : SC x w v xs W) (hb : Below W.heap.size W W') : SC x w v xs W' := ⟨blk_below h.1 hb, Kd.R_below h.2.1 hb, below_step h.2.2 hb⟩
theorem SC.app {x : In} {w : World} {v v' : Value} {xs ys : List Fault} {W W' : World} (h : SC x w v xs W) (ho : Kd.R k103 103 W' w.heap.size (fun _ => True) v' ys) (hb : Below w.heap.size w W') (hg : W.grownBy W' v.ownBlock) : SC x w v' ys W' :=
  ⟨blk_grown h.1 hg (Kd.R_ne h.2.1 h.1 (by decide)), ho, hb⟩
theorem SC.cells {x : In} {w : World} {v : Value} {xs : List Fault} {W : World} (h : SC x w v xs W) : W.cell? ⟨w.heap.size, 0, none⟩ = some (.string x.nm) ∧ W.cell? ⟨w.heap.size, 1, none⟩ = some (.int .i64 x.kd) ∧ W.cell? ⟨w.heap.size, 2, none⟩ = some (.int .i64 x.mt) ∧ W.cell? ⟨w.heap.size, 3, none⟩ = some (.int .i64 x.sc) ∧
    W.cell? ⟨w.heap.size, 4, none⟩ = some (.int .i64 x.cp) ∧ W.cell? ⟨w.heap.size, 5, none⟩ = some (.int .i64 x.fl) ∧ W.cell? ⟨w.heap.size, 6, none⟩ = some (.slice x.A x.ns.length x.c) ∧ W.cell? ⟨w.heap.size, 7, none⟩ = some (.slice x.B x.mx.length x.e) := by
  obtain ⟨k0, k1, k2, k3, k4, k5, k6, k7, -⟩ := blk8_ h.1
  exact ⟨k0, k1, k2, k3, k4, k5, k6, k7⟩
theorem In.rows.below {x : In} {W W' : World} (h : x.rows W) (hb : Below W.heap.size W W') : x.rows W' := In.rows_below h hb
theorem nodes_le (kd mt : Int) (ns : List Node) : ∀ k, ((List.range k).flatMap (nodeOf kd mt ns)).length ≤ 5 * k
  | 0 => by simp
  | k + 1 => by
    rw [List.range_succ, List.flatMap_append, List.flatMap_singleton, List.length_append]
    have h1 := nodes_le kd mt ns k
    have h2 := nodeOf_le kd mt ns k
    omega
theorem opt_t (L : List Fault) (f : Fault) : L = L ++ opt true f := by simp [opt]
set_option maxHeartbeats 8000000 in
set_option maxRecDepth 100000 in
theorem check_c (x : In) (w : World) (hr : x.rows w) (hs : x.nm.size ≤ 4611686018427387904) :
    Calls Try.prog 48 #[x.val] w fun e w' => ∃ v', e = .returned v' ∧ Kd.R k103 103 w' w.heap.size (fun _ => True) v' (faultsOf x.nm x.kd x.mt x.sc x.cp x.fl x.ns x.mx) ∧ Below w.heap.size w w' := by
  unfold In.val
  have HR := Lib.hid hr
  have hX := heap_alloc_new w (.cells #[.string x.nm, .int .i64 x.kd, .int .i64 x.mt, .int .i64 x.sc, .int .i64 x.cp, .int .i64 x.fl, .slice x.A x.ns.length x.c, .slice x.B x.mx.length x.e] 46)
  have hB : Below w.heap.size w (w.alloc (.cells #[.string x.nm, .int .i64 x.kd, .int .i64 x.mt, .int .i64 x.sc, .int .i64 x.cp, .int .i64 x.fl, .slice x.A x.ns.length x.c, .slice x.B x.mx.length x.e] 46)) := (Below.refl _ w).alloc (Nat.le_refl _) _
  generalize hW1 : w.alloc (.cells #[.string x.nm, .int .i64 x.kd, .int .i64 x.mt, .int .i64 x.sc, .int .i64 x.cp, .int .i64 x.fl, .slice x.A x.ns.length x.c, .slice x.B x.mx.length x.e] 46) = W1 at *
  have HW := Lib.hid hW1
  have HXB := Lib.hid (And.intro hX hB)
  clear hW1 hX hB hr
  go_enter Try.func48, Try.ntmps48
  go_upto_region 1 with (fail)
  rw [HW.out]
  go_upto_region 2 with (first | ((with_reducible refine gate_dst (N := 6) rfl ?_); refine Kd.R_lit k103 w.heap.size 103 ?hg (N := 6) ?hd (xs := ([] : List Fault)) (inner := []) (ok := fun _ => True) (okp := fun _ => True) ?hr ?hp (fun _ hk => hk) trivial HXB.out.2 HXB.out.2.size (by simp) ?_; (case hd => rfl); (case hg => rfl); (case hr => first | (go_simp; done) | (go_simp; rfl)); (case hp => exact (Reps.none _ _)); intro u3 w0 ho hb hg hnew; have H0 := Aside0.mk (show SC x w u3 [] w0 from ⟨blk_grown HXB.out.1 hg (by simp), ho, hb⟩); clear hg hnew ho hb))
  have hl0 : ([] : List Fault).length ≤ 0 := Nat.le_refl _
  obtain ⟨x0, -, -, -, -, -, -, -⟩ := H0.out.cells
  go_wp2_with fail
  refine (name_c x.nm _ hs).mono ?_
  rintro e wb ⟨rfl, hb⟩
  have H1 := Aside0.mk (H0.out.below hb)
  clear hb H0
  clear x0
  go_upto_if 10 with (fail)
  go_cut [3] (fun v3 wc => Aside0 (SC x w v3 (([] : List Fault) ++ opt (nameB x.nm) ⟨1, 0⟩) wc))
  case first => as_aux_lemma =>
    cases hb1 : nameB x.nm with
    | true =>
      have HV := Lib.hid hb1
      clear hb1
      go_wp2
      go_meet
      exact ⟨by rw [HV.out, ← opt_t]; exact H1.out⟩
    | false =>
      have HV := Lib.hid hb1
      clear hb1
      go_wp2_with (first | ((with_reducible refine gate_builtin (b := .append) (xs := #[.tmp 11, .tmp 13]) rfl ?_); at_builtin; refine Kd.R_append k103 (w0 := w) w.heap.size rfl (.tmp 11) (.tmp 13) 88 103 (.agg #[.int .i64 0, .int .i64 0]) 16 rfl Try.underlying88 info103 rfl (by decide) (by omega) u3 ([] : List Fault) (⟨1, 0⟩ : Fault) [.int .i64 1, .int .i64 0] (fun _ => True) (fun _ => False) rfl rfl (k103_mkM _ _ _ (⟨1, 0⟩ : Fault)) (fun _ hk => hk.elim) (fun _ _ => trivial) H1.out.2.1 H1.out.2.2 H1.out.2.2.size (by omega) ?_; intro va wa ho hb hg hat; have H2 := Aside0.mk (H1.out.app ho hb hg); clear ho hb hg hat))
      go_meet
      exact ⟨by rw [HV.out]; exact H2.out⟩
  rename_i wc
  have hl1 : (([] : List Fault) ++ opt (nameB x.nm) ⟨1, 0⟩ : List Fault).length ≤ 1 := by rw [List.length_append]; have := opt_le (nameB x.nm) ⟨1, 0⟩; omega
  obtain ⟨L1, hL⟩ : ∃ L, ([] : List Fault) ++ opt (nameB x.nm) ⟨1, 0⟩ = L := ⟨_, rfl⟩
  rw [hL] at hcut hl1
  have E1 := Lib.hid hL
  clear hL H1
  have H0 := hcut
  clear hcut
  go_upto_region 4 with (fail)
  obtain ⟨-, x1, -, -, -, -, -, -⟩ := H0.out.cells
  go_cut [22] (fun vb wc => vb = .bool (!kindB x.kd) ∧ Aside0 (SC x w u3 L1 wc))
  case first => as_aux_lemma =>
    by_cases h1 : x.kd < 1
    · have bh1 : decide (x.kd < 1) = true := decide_eq_true h1
      have HV := Lib.hid (show (!kindB x.kd) = true from by unfold kindB; rw [decide_eq_false (by omega)]; rfl)
      clear h1
      go_wp2
      go_meet
      exact ⟨by rw [HV.out], H0⟩
    · have bh1 : decide (x.kd < 1) = false := decide_eq_false h1
      by_cases h2 : x.kd > 4
      · have bh2 : decide (x.kd > 4) = true := decide_eq_true h2
        have HV := Lib.hid (show (!kindB x.kd) = true from by unfold kindB; rw [decide_eq_false (by omega)]; rfl)
        clear h1 h2
        go_wp2
        go_meet
        exact ⟨by rw [HV.out], H0⟩
      · have bh2 : decide (x.kd > 4) = false := decide_eq_false h2
        have HV := Lib.hid (show (!kindB x.kd) = false from by unfold kindB; rw [decide_eq_true (by omega)]; rfl)
        clear h1 h2
        go_wp2
        go_meet
        exact ⟨by rw [HV.out], H0⟩
  rename_i wc
  obtain ⟨rfl, H1⟩ := hcut
  clear H0
  clear x1
  go_upto_if 22 with (fail)
  go_cut [3] (fun v3 wc => Aside0 (SC x w v3 (L1 ++ opt (kindB x.kd) ⟨2, 0⟩) wc))
  case first => as_aux_lemma =>
    cases hb1 : kindB x.kd with
    | true =>
      have HV := Lib.hid hb1
      clear hb1
      go_wp2
      go_meet
      exact ⟨by rw [HV.out, ← opt_t]; exact H1.out⟩
    | false =>
      have HV := Lib.hid hb1
      clear hb1
      go_wp2_with (first | ((with_reducible refine gate_builtin (b := .append) (xs := #[.tmp 23, .tmp 25]) rfl ?_); at_builtin; refine Kd.R_append k103 (w0 := w) w.heap.size rfl (.tmp 23) (.tmp 25) 88 103 (.agg #[.int .i64 0, .int .i64 0]) 16 rfl Try.underlying88 info103 rfl (by decide) (by omega) u3 L1 (⟨2, 0⟩ : Fault) [.int .i64 2, .int .i64 0] (fun _ => True) (fun _ => False) rfl rfl (k103_mkM _ _ _ (⟨2, 0⟩ : Fault)) (fun _ hk => hk.elim) (fun _ _ => trivial) H1.out.2.1 H1.out.2.2 H1.out.2.2.size (by omega) ?_; intro va wa ho hb hg hat; have H2 := Aside0.mk (H1.out.app ho hb hg); clear ho hb hg hat))
      go_meet
      exact ⟨by rw [HV.out]; exact H2.out⟩
  rename_i wc
  have hl2 : (L1 ++ opt (kindB x.kd) ⟨2, 0⟩ : List Fault).length ≤ 2 := by rw [List.length_append]; have := opt_le (kindB x.kd) ⟨2, 0⟩; omega
  obtain ⟨L2, hL⟩ : ∃ L, L1 ++ opt (kindB x.kd) ⟨2, 0⟩ = L := ⟨_, rfl⟩
  rw [hL] at hcut hl2
  have E2 := Lib.hid hL
  clear hL H1
  have H0 := hcut
  clear hcut
  go_upto_region 6 with (fail)
  obtain ⟨-, -, x2, -, -, -, -, -⟩ := H0.out.cells
  go_wp2_with fail
  refine (known_c x.mt _).mono ?_
  rintro e wb ⟨rfl, hb⟩
  have H1 := Aside0.mk (H0.out.below hb)
  clear hb H0
  clear x2
  go_upto_if 30 with (fail)
  go_cut [3] (fun v3 wc => Aside0 (SC x w v3 (L2 ++ opt (knownB x.mt) ⟨3, 0⟩) wc))
  case first => as_aux_lemma =>
    cases hb1 : knownB x.mt with
    | true =>
      have HV := Lib.hid hb1
      clear hb1
      go_wp2
      go_meet
      exact ⟨by rw [HV.out, ← opt_t]; exact H1.out⟩
    | false =>
      have HV := Lib.hid hb1
      clear hb1
      go_wp2_with (first | ((with_reducible refine gate_builtin (b := .append) (xs := #[.tmp 31, .tmp 33]) rfl ?_); at_builtin; refine Kd.R_append k103 (w0 := w) w.heap.size rfl (.tmp 31) (.tmp 33) 88 103 (.agg #[.int .i64 0, .int .i64 0]) 16 rfl Try.underlying88 info103 rfl (by decide) (by omega) u3 L2 (⟨3, 0⟩ : Fault) [.int .i64 3, .int .i64 0] (fun _ => True) (fun _ => False) rfl rfl (k103_mkM _ _ _ (⟨3, 0⟩ : Fault)) (fun _ hk => hk.elim) (fun _ _ => trivial) H1.out.2.1 H1.out.2.2 H1.out.2.2.size (by omega) ?_; intro va wa ho hb hg hat; have H2 := Aside0.mk (H1.out.app ho hb hg); clear ho hb hg hat))
      go_meet
      exact ⟨by rw [HV.out]; exact H2.out⟩
  rename_i wc
  have hl3 : (L2 ++ opt (knownB x.mt) ⟨3, 0⟩ : List Fault).length ≤ 3 := by rw [List.length_append]; have := opt_le (knownB x.mt) ⟨3, 0⟩; omega
  obtain ⟨L3, hL⟩ : ∃ L, L2 ++ opt (knownB x.mt) ⟨3, 0⟩ = L := ⟨_, rfl⟩
  rw [hL] at hcut hl3
  have E3 := Lib.hid hL
  clear hL H1
  have H0 := hcut
  clear hcut
  go_upto_region 8 with (fail)
  obtain ⟨-, -, x2, x3, -, -, -, -⟩ := H0.out.cells
  go_cut [52] (fun vb wc => vb = .bool (!scaleB x.mt x.sc) ∧ Aside0 (SC x w u3 L3 wc))
  case first => as_aux_lemma =>
    by_cases h1 : x.sc < 0
    · have bh1 : decide (x.sc < 0) = true := decide_eq_true h1
      have HV := Lib.hid (show (!scaleB x.mt x.sc) = true from by unfold scaleB; rw [decide_eq_false (by omega)]; rfl)
      clear h1
      go_wp2
      go_meet
      exact ⟨by rw [HV.out], H0⟩
    · have bh1 : decide (x.sc < 0) = false := decide_eq_false h1
      by_cases h2 : x.sc > 6
      · have bh2 : decide (x.sc > 6) = true := decide_eq_true h2
        have HV := Lib.hid (show (!scaleB x.mt x.sc) = true from by unfold scaleB; rw [decide_eq_false (by omega)]; rfl)
        clear h1 h2
        go_wp2
        go_meet
        exact ⟨by rw [HV.out], H0⟩
      · have bh2 : decide (x.sc > 6) = false := decide_eq_false h2
        by_cases h3 : x.mt = 0
        · have bh3 : (x.mt == 0) = true := beq_iff_eq.2 h3
          have ch3 : (x.mt != 0) = false := bne_eq_false_iff_eq.2 h3
          by_cases h4 : x.sc = 0
          · have bh4 : (x.sc == 0) = true := beq_iff_eq.2 h4
            have ch4 : (x.sc != 0) = false := bne_eq_false_iff_eq.2 h4
            have HV := Lib.hid (show (!scaleB x.mt x.sc) = false from by unfold scaleB; rw [decide_eq_true (by omega)]; rfl)
            clear h1 h2 h3 h4
            go_wp2
            go_meet
            exact ⟨by rw [HV.out], H0⟩
          · have bh4 : (x.sc == 0) = false := beq_eq_false_iff_ne.2 h4
            have ch4 : (x.sc != 0) = true := bne_iff_ne.2 h4
            have HV := Lib.hid (show (!scaleB x.mt x.sc) = true from by unfold scaleB; rw [decide_eq_false (by omega)]; rfl)
            clear h1 h2 h3 h4
            go_wp2
            go_meet
            exact ⟨by rw [HV.out], H0⟩
        · have bh3 : (x.mt == 0) = false := beq_eq_false_iff_ne.2 h3
          have ch3 : (x.mt != 0) = true := bne_iff_ne.2 h3
          have HV := Lib.hid (show (!scaleB x.mt x.sc) = false from by unfold scaleB; rw [decide_eq_true (by omega)]; rfl)
          clear h1 h2 h3
          go_wp2
          go_meet
          exact ⟨by rw [HV.out], H0⟩
  rename_i wc
  obtain ⟨rfl, H1⟩ := hcut
  clear H0
  clear x2 x3
  go_upto_if 52 with (fail)
  go_cut [3] (fun v3 wc => Aside0 (SC x w v3 (L3 ++ opt (scaleB x.mt x.sc) ⟨4, 0⟩) wc))
  case first => as_aux_lemma =>
    cases hb1 : scaleB x.mt x.sc with
    | true =>
      have HV := Lib.hid hb1
      clear hb1
      go_wp2
      go_meet
      exact ⟨by rw [HV.out, ← opt_t]; exact H1.out⟩
    | false =>
      have HV := Lib.hid hb1
      clear hb1
      go_wp2_with (first | ((with_reducible refine gate_builtin (b := .append) (xs := #[.tmp 53, .tmp 55]) rfl ?_); at_builtin; refine Kd.R_append k103 (w0 := w) w.heap.size rfl (.tmp 53) (.tmp 55) 88 103 (.agg #[.int .i64 0, .int .i64 0]) 16 rfl Try.underlying88 info103 rfl (by decide) (by omega) u3 L3 (⟨4, 0⟩ : Fault) [.int .i64 4, .int .i64 0] (fun _ => True) (fun _ => False) rfl rfl (k103_mkM _ _ _ (⟨4, 0⟩ : Fault)) (fun _ hk => hk.elim) (fun _ _ => trivial) H1.out.2.1 H1.out.2.2 H1.out.2.2.size (by omega) ?_; intro va wa ho hb hg hat; have H2 := Aside0.mk (H1.out.app ho hb hg); clear ho hb hg hat))
      go_meet
      exact ⟨by rw [HV.out]; exact H2.out⟩
  rename_i wc
  have hl4 : (L3 ++ opt (scaleB x.mt x.sc) ⟨4, 0⟩ : List Fault).length ≤ 4 := by rw [List.length_append]; have := opt_le (scaleB x.mt x.sc) ⟨4, 0⟩; omega
  obtain ⟨L4, hL⟩ : ∃ L, L3 ++ opt (scaleB x.mt x.sc) ⟨4, 0⟩ = L := ⟨_, rfl⟩
  rw [hL] at hcut hl4
  have E4 := Lib.hid hL
  clear hL H1
  have H0 := hcut
  clear hcut
  go_upto_region 10 with (fail)
  obtain ⟨-, x1, -, -, x4, -, -, -⟩ := H0.out.cells
  go_cut [79] (fun vb wc => vb = .bool (!capB x.kd x.cp) ∧ Aside0 (SC x w u3 L4 wc))
  case first => as_aux_lemma =>
    by_cases h1 : x.kd = 1
    · have bh1 : (x.kd == 1) = true := beq_iff_eq.2 h1
      have ch1 : (x.kd != 1) = false := bne_eq_false_iff_eq.2 h1
      by_cases h2 : x.cp = 0
      · have bh2 : (x.cp == 0) = true := beq_iff_eq.2 h2
        have ch2 : (x.cp != 0) = false := bne_eq_false_iff_eq.2 h2
        have HV := Lib.hid (show (!capB x.kd x.cp) = false from by unfold capB; rw [if_pos h1, decide_eq_true (by omega)]; rfl)
        clear h1 h2
        go_wp2
        go_meet
        exact ⟨by rw [HV.out], H0⟩
      · have bh2 : (x.cp == 0) = false := beq_eq_false_iff_ne.2 h2
        have ch2 : (x.cp != 0) = true := bne_iff_ne.2 h2
        have HV := Lib.hid (show (!capB x.kd x.cp) = true from by unfold capB; rw [if_pos h1, decide_eq_false (by omega)]; rfl)
        clear h1 h2
        go_wp2
        go_meet
        exact ⟨by rw [HV.out], H0⟩
    · have bh1 : (x.kd == 1) = false := beq_eq_false_iff_ne.2 h1
      have ch1 : (x.kd != 1) = true := bne_iff_ne.2 h1
      by_cases h2 : x.cp < 1
      · have bh2 : decide (x.cp < 1) = true := decide_eq_true h2
        have HV := Lib.hid (show (!capB x.kd x.cp) = true from by unfold capB; rw [if_neg h1, decide_eq_false (by omega)]; rfl)
        clear h1 h2
        go_wp2
        go_meet
        exact ⟨by rw [HV.out], H0⟩
      · have bh2 : decide (x.cp < 1) = false := decide_eq_false h2
        by_cases h3 : x.cp > 100000000
        · have bh3 : decide (x.cp > 100000000) = true := decide_eq_true h3
          have HV := Lib.hid (show (!capB x.kd x.cp) = true from by unfold capB; rw [if_neg h1, decide_eq_false (by omega)]; rfl)
          clear h1 h2 h3
          go_wp2
          go_meet
          exact ⟨by rw [HV.out], H0⟩
        · have bh3 : decide (x.cp > 100000000) = false := decide_eq_false h3
          have HV := Lib.hid (show (!capB x.kd x.cp) = false from by unfold capB; rw [if_neg h1, decide_eq_true (by omega)]; rfl)
          clear h1 h2 h3
          go_wp2
          go_meet
          exact ⟨by rw [HV.out], H0⟩
  rename_i wc
  obtain ⟨rfl, H1⟩ := hcut
  clear H0
  clear x1 x4
  go_upto_if 79 with (fail)
  go_cut [3] (fun v3 wc => Aside0 (SC x w v3 (L4 ++ opt (capB x.kd x.cp) ⟨5, 0⟩) wc))
  case first => as_aux_lemma =>
    cases hb1 : capB x.kd x.cp with
    | true =>
      have HV := Lib.hid hb1
      clear hb1
      go_wp2
      go_meet
      exact ⟨by rw [HV.out, ← opt_t]; exact H1.out⟩
    | false =>
      have HV := Lib.hid hb1
      clear hb1
      go_wp2_with (first | ((with_reducible refine gate_builtin (b := .append) (xs := #[.tmp 80, .tmp 82]) rfl ?_); at_builtin; refine Kd.R_append k103 (w0 := w) w.heap.size rfl (.tmp 80) (.tmp 82) 88 103 (.agg #[.int .i64 0, .int .i64 0]) 16 rfl Try.underlying88 info103 rfl (by decide) (by omega) u3 L4 (⟨5, 0⟩ : Fault) [.int .i64 5, .int .i64 0] (fun _ => True) (fun _ => False) rfl rfl (k103_mkM _ _ _ (⟨5, 0⟩ : Fault)) (fun _ hk => hk.elim) (fun _ _ => trivial) H1.out.2.1 H1.out.2.2 H1.out.2.2.size (by omega) ?_; intro va wa ho hb hg hat; have H2 := Aside0.mk (H1.out.app ho hb hg); clear ho hb hg hat))
      go_meet
      exact ⟨by rw [HV.out]; exact H2.out⟩
  rename_i wc
  have hl5 : (L4 ++ opt (capB x.kd x.cp) ⟨5, 0⟩ : List Fault).length ≤ 5 := by rw [List.length_append]; have := opt_le (capB x.kd x.cp) ⟨5, 0⟩; omega
  obtain ⟨L5, hL⟩ : ∃ L, L4 ++ opt (capB x.kd x.cp) ⟨5, 0⟩ = L := ⟨_, rfl⟩
  rw [hL] at hcut hl5
  have E5 := Lib.hid hL
  clear hL H1
  have H0 := hcut
  clear hcut
  go_upto_region 12 with (fail)
  obtain ⟨-, x1, -, -, -, x5, -, -⟩ := H0.out.cells
  go_cut [106] (fun vb wc => vb = .bool (!fleetB x.kd x.fl) ∧ Aside0 (SC x w u3 L5 wc))
  case first => as_aux_lemma =>
    by_cases h1 : x.kd = 1
    · have bh1 : (x.kd == 1) = true := beq_iff_eq.2 h1
      have ch1 : (x.kd != 1) = false := bne_eq_false_iff_eq.2 h1
      by_cases h2 : x.fl = 0
      · have bh2 : (x.fl == 0) = true := beq_iff_eq.2 h2
        have ch2 : (x.fl != 0) = false := bne_eq_false_iff_eq.2 h2
        have HV := Lib.hid (show (!fleetB x.kd x.fl) = false from by unfold fleetB; rw [if_pos h1, decide_eq_true (by omega)]; rfl)
        clear h1 h2
        go_wp2
        go_meet
        exact ⟨by rw [HV.out], H0⟩
      · have bh2 : (x.fl == 0) = false := beq_eq_false_iff_ne.2 h2
        have ch2 : (x.fl != 0) = true := bne_iff_ne.2 h2
        have HV := Lib.hid (show (!fleetB x.kd x.fl) = true from by unfold fleetB; rw [if_pos h1, decide_eq_false (by omega)]; rfl)
        clear h1 h2
        go_wp2
        go_meet
        exact ⟨by rw [HV.out], H0⟩
    · have bh1 : (x.kd == 1) = false := beq_eq_false_iff_ne.2 h1
      have ch1 : (x.kd != 1) = true := bne_iff_ne.2 h1
      by_cases h2 : x.fl < 0
      · have bh2 : decide (x.fl < 0) = true := decide_eq_true h2
        have HV := Lib.hid (show (!fleetB x.kd x.fl) = true from by unfold fleetB; rw [if_neg h1, decide_eq_false (by omega)]; rfl)
        clear h1 h2
        go_wp2
        go_meet
        exact ⟨by rw [HV.out], H0⟩
      · have bh2 : decide (x.fl < 0) = false := decide_eq_false h2
        by_cases h3 : x.fl > 400
        · have bh3 : decide (x.fl > 400) = true := decide_eq_true h3
          have HV := Lib.hid (show (!fleetB x.kd x.fl) = true from by unfold fleetB; rw [if_neg h1, decide_eq_false (by omega)]; rfl)
          clear h1 h2 h3
          go_wp2
          go_meet
          exact ⟨by rw [HV.out], H0⟩
        · have bh3 : decide (x.fl > 400) = false := decide_eq_false h3
          have HV := Lib.hid (show (!fleetB x.kd x.fl) = false from by unfold fleetB; rw [if_neg h1, decide_eq_true (by omega)]; rfl)
          clear h1 h2 h3
          go_wp2
          go_meet
          exact ⟨by rw [HV.out], H0⟩
  rename_i wc
  obtain ⟨rfl, H1⟩ := hcut
  clear H0
  clear x1 x5
  go_upto_if 106 with (fail)
  go_cut [3] (fun v3 wc => Aside0 (SC x w v3 (L5 ++ opt (fleetB x.kd x.fl) ⟨6, 0⟩) wc))
  case first => as_aux_lemma =>
    cases hb1 : fleetB x.kd x.fl with
    | true =>
      have HV := Lib.hid hb1
      clear hb1
      go_wp2
      go_meet
      exact ⟨by rw [HV.out, ← opt_t]; exact H1.out⟩
    | false =>
      have HV := Lib.hid hb1
      clear hb1
      go_wp2_with (first | ((with_reducible refine gate_builtin (b := .append) (xs := #[.tmp 107, .tmp 109]) rfl ?_); at_builtin; refine Kd.R_append k103 (w0 := w) w.heap.size rfl (.tmp 107) (.tmp 109) 88 103 (.agg #[.int .i64 0, .int .i64 0]) 16 rfl Try.underlying88 info103 rfl (by decide) (by omega) u3 L5 (⟨6, 0⟩ : Fault) [.int .i64 6, .int .i64 0] (fun _ => True) (fun _ => False) rfl rfl (k103_mkM _ _ _ (⟨6, 0⟩ : Fault)) (fun _ hk => hk.elim) (fun _ _ => trivial) H1.out.2.1 H1.out.2.2 H1.out.2.2.size (by omega) ?_; intro va wa ho hb hg hat; have H2 := Aside0.mk (H1.out.app ho hb hg); clear ho hb hg hat))
      go_meet
      exact ⟨by rw [HV.out]; exact H2.out⟩
  rename_i wc
  have hl6 : (L5 ++ opt (fleetB x.kd x.fl) ⟨6, 0⟩ : List Fault).length ≤ 6 := by rw [List.length_append]; have := opt_le (fleetB x.kd x.fl) ⟨6, 0⟩; omega
  obtain ⟨L6, hL⟩ : ∃ L, L5 ++ opt (fleetB x.kd x.fl) ⟨6, 0⟩ = L := ⟨_, rfl⟩
  rw [hL] at hcut hl6
  have E6 := Lib.hid hL
  clear hL H1
  have H0 := hcut
  clear hcut
  have EH := Lib.hid (show headOf x.nm x.kd x.mt x.sc x.cp x.fl = L6 from by unfold headOf; rw [← E6.out, ← E5.out, ← E4.out, ← E3.out, ← E2.out, ← E1.out]; rfl)
  clear E1 E2 E3 E4 E5 E6 hl1 hl2 hl3 hl4 hl5
  obtain ⟨-, -, -, -, -, -, x6, -⟩ := H0.out.cells
  by_cases h1 : (x.ns.length : Int) < 1
  · have b1 : decide ((x.ns.length : Int) < 1) = true := decide_eq_true h1
    have HF := Lib.hid (show faultsOf x.nm x.kd x.mt x.sc x.cp x.fl x.ns x.mx = L6 ++ [⟨7, 0⟩] from by unfold faultsOf; rw [if_pos (by omega), EH.out])
    clear h1
    go_wp2_with (first | ((with_reducible refine gate_builtin (b := .append) (xs := #[.tmp 120, .tmp 122]) rfl ?_); at_builtin; refine Kd.R_append k103 (w0 := w) w.heap.size rfl (.tmp 120) (.tmp 122) 88 103 (.agg #[.int .i64 0, .int .i64 0]) 16 rfl Try.underlying88 info103 rfl (by decide) (by omega) u3 L6 (⟨7, 0⟩ : Fault) [.int .i64 7, .int .i64 0] (fun _ => True) (fun _ => False) rfl rfl (k103_mkM _ _ _ (⟨7, 0⟩ : Fault)) (fun _ hk => hk.elim) (fun _ _ => trivial) H0.out.2.1 H0.out.2.2 H0.out.2.2.size (by omega) ?_; intro va wa ho hb hg hat; have H2 := Aside0.mk (H0.out.app ho hb hg); clear ho hb hg hat))
    go_ret
    exact ⟨_, rfl, by rw [HF.out]; exact H2.out.2.1, H2.out.2.2⟩
  · have b1 : decide ((x.ns.length : Int) < 1) = false := decide_eq_false h1
    by_cases h2 : (x.ns.length : Int) > 400
    · have b2 : decide ((x.ns.length : Int) > 400) = true := decide_eq_true h2
      have HF := Lib.hid (show faultsOf x.nm x.kd x.mt x.sc x.cp x.fl x.ns x.mx = L6 ++ [⟨7, 0⟩] from by unfold faultsOf; rw [if_pos (by omega), EH.out])
      clear h1
      go_wp2_with (first | ((with_reducible refine gate_builtin (b := .append) (xs := #[.tmp 120, .tmp 122]) rfl ?_); at_builtin; refine Kd.R_append k103 (w0 := w) w.heap.size rfl (.tmp 120) (.tmp 122) 88 103 (.agg #[.int .i64 0, .int .i64 0]) 16 rfl Try.underlying88 info103 rfl (by decide) (by omega) u3 L6 (⟨7, 0⟩ : Fault) [.int .i64 7, .int .i64 0] (fun _ => True) (fun _ => False) rfl rfl (k103_mkM _ _ _ (⟨7, 0⟩ : Fault)) (fun _ hk => hk.elim) (fun _ _ => trivial) H0.out.2.1 H0.out.2.2 H0.out.2.2.size (by omega) ?_; intro va wa ho hb hg hat; have H2 := Aside0.mk (H0.out.app ho hb hg); clear ho hb hg hat))
      go_ret
      exact ⟨_, rfl, by rw [HF.out]; exact H2.out.2.1, H2.out.2.2⟩
    · have b2 : decide ((x.ns.length : Int) > 400) = false := decide_eq_false h2
      have hn : x.ns.length ≤ 400 := by omega
      have HF := Lib.hid (show faultsOf x.nm x.kd x.mt x.sc x.cp x.fl x.ns x.mx = L6 ++ opt (matrixB x.mt x.ns.length x.mx) ⟨8, 0⟩ ++ (List.range x.ns.length).flatMap (nodeOf x.kd x.mt x.ns) from by unfold faultsOf; rw [if_neg (by omega), EH.out])
      clear h1 h2
      go_upto_region 17 with (fail)
      clear x6
      obtain ⟨x0, x1, x2, x3, x4, x5, x6, x7⟩ := H0.out.cells
      go_wp2_with fail
      refine (matrix_c x _ (HR.out.below H0.out.2.2) hn).mono ?_
      rintro e wb ⟨rfl, hb⟩
      have H1 := Aside0.mk (H0.out.below hb)
      clear hb H0
      clear x0 x1 x2 x3 x4 x5 x6 x7
      go_upto_if 126 with (fail)
      go_cut [3] (fun v3 wc => Aside0 (SC x w v3 (L6 ++ opt (matrixB x.mt x.ns.length x.mx) ⟨8, 0⟩) wc))
      case first => as_aux_lemma =>
        cases hb1 : matrixB x.mt x.ns.length x.mx with
        | true =>
          have HV := Lib.hid hb1
          clear hb1
          go_wp2
          go_meet
          exact ⟨by rw [HV.out, ← opt_t]; exact H1.out⟩
        | false =>
          have HV := Lib.hid hb1
          clear hb1
          go_wp2_with (first | ((with_reducible refine gate_builtin (b := .append) (xs := #[.tmp 127, .tmp 129]) rfl ?_); at_builtin; refine Kd.R_append k103 (w0 := w) w.heap.size rfl (.tmp 127) (.tmp 129) 88 103 (.agg #[.int .i64 0, .int .i64 0]) 16 rfl Try.underlying88 info103 rfl (by decide) (by omega) u3 L6 (⟨8, 0⟩ : Fault) [.int .i64 8, .int .i64 0] (fun _ => True) (fun _ => False) rfl rfl (k103_mkM _ _ _ (⟨8, 0⟩ : Fault)) (fun _ hk => hk.elim) (fun _ _ => trivial) H1.out.2.1 H1.out.2.2 H1.out.2.2.size (by omega) ?_; intro va wa ho hb hg hat; have H2 := Aside0.mk (H1.out.app ho hb hg); clear ho hb hg hat))
          go_meet
          exact ⟨by rw [HV.out]; exact H2.out⟩
      rename_i wc
      have hl7 : (L6 ++ opt (matrixB x.mt x.ns.length x.mx) ⟨8, 0⟩ : List Fault).length ≤ 7 := by rw [List.length_append]; have := opt_le (matrixB x.mt x.ns.length x.mx) ⟨8, 0⟩; omega
      obtain ⟨L7, hL⟩ : ∃ L, L6 ++ opt (matrixB x.mt x.ns.length x.mx) ⟨8, 0⟩ = L := ⟨_, rfl⟩
      rw [hL] at hcut hl7
      have E7 := Lib.hid hL
      clear hL H1
      have H0 := hcut
      clear hcut
      rw [E7.out] at HF
      have HI0 := Aside0.mk (show SC x w u3 (L7 ++ (List.range 0).flatMap (nodeOf x.kd x.mt x.ns)) wc from by simpa using H0.out)
      clear H0
      go_wp2
      go_loopw [3, 5] (fun v3 v5 wr => ∃ k : Nat, v5 = .int .i64 k ∧ k ≤ x.ns.length ∧ Aside0 (SC x w v3 (L7 ++ (List.range k).flatMap (nodeOf x.kd x.mt x.ns)) wr)) (fun v3 v5 wr => x.ns.length - (intOf v5).toNat)
      case atStart => exact ⟨0, rfl, Nat.zero_le _, HI0⟩
      case round =>
        obtain ⟨k, rfl, hk, HK⟩ := hrel
        clear HI0
        by_cases hlt : k < x.ns.length
        · have bt : decide ((k : Int) < (x.ns.length : Int)) = true := decide_eq_true (by omega)
          have HIx := Lib.hid (show x.rows w from HR.out)
          obtain ⟨L8, hL⟩ : ∃ L, L7 ++ (List.range k).flatMap (nodeOf x.kd x.mt x.ns) = L := ⟨_, rfl⟩
          have hl8 : L8.length ≤ 5 * k + 8 := by rw [← hL, List.length_append]; have := nodes_le x.kd x.mt x.ns k; omega
          have HN := Lib.hid (show L7 ++ (List.range (k + 1)).flatMap (nodeOf x.kd x.mt x.ns) = L8 ++ nodeOf x.kd x.mt x.ns k from by rw [List.range_succ, List.flatMap_append, List.flatMap_singleton, ← List.append_assoc, hL])
          rw [hL] at HK
          clear hL
          have H0 := HK
          clear HK
          obtain ⟨x0, x1, x2, x3, x4, x5, x6, x7⟩ := H0.out.cells
          go_wp2_with fail
          refine (coord_c x k _ (HR.out.below H0.out.2.2) hlt).mono ?_
          rintro e wb ⟨rfl, hb⟩
          have H1 := Aside0.mk (H0.out.below hb)
          clear hb H0
          clear x0 x1 x2 x3 x4 x5 x6 x7
          go_upto_if 139 with (fail)
          go_cut [3] (fun v3 wc => Aside0 (SC x w v3 (L8 ++ opt (coordB x.mt (rdN x.ns (k : Int))) ⟨9, (k : Int)⟩) wc))
          case first => as_aux_lemma =>
            cases hb1 : coordB x.mt (rdN x.ns (k : Int)) with
            | true =>
              have HV := Lib.hid hb1
              clear hb1
              go_wp2
              go_meet
              exact ⟨by rw [HV.out, ← opt_t]; exact H1.out⟩
            | false =>
              have HV := Lib.hid hb1
              clear hb1
              go_wp2_with (first | ((with_reducible refine gate_builtin (b := .append) (xs := #[.tmp 140, .tmp 143]) rfl ?_); at_builtin; refine Kd.R_append k103 (w0 := w) w.heap.size rfl (.tmp 140) (.tmp 143) 88 103 (.agg #[.int .i64 0, .int .i64 0]) 16 rfl Try.underlying88 info103 rfl (by decide) (by omega) u3 L8 (⟨9, (k : Int)⟩ : Fault) [.int .i64 9, .int .i64 (k : Int)] (fun _ => True) (fun _ => False) rfl rfl (k103_mkM _ _ _ (⟨9, (k : Int)⟩ : Fault)) (fun _ hk => hk.elim) (fun _ _ => trivial) H1.out.2.1 H1.out.2.2 H1.out.2.2.size (by omega) ?_; intro va wa ho hb hg hat; have H2 := Aside0.mk (H1.out.app ho hb hg); clear ho hb hg hat))
              go_meet
              exact ⟨by rw [HV.out]; exact H2.out⟩
          rename_i wc
          have hl9 : (L8 ++ opt (coordB x.mt (rdN x.ns (k : Int))) ⟨9, (k : Int)⟩ : List Fault).length ≤ 5 * k + 17 := by rw [List.length_append]; have := opt_le (coordB x.mt (rdN x.ns (k : Int))) ⟨9, (k : Int)⟩; omega
          obtain ⟨L9, hL⟩ : ∃ L, L8 ++ opt (coordB x.mt (rdN x.ns (k : Int))) ⟨9, (k : Int)⟩ = L := ⟨_, rfl⟩
          rw [hL] at hcut hl9
          have E9 := Lib.hid hL
          clear hL H1
          have H0 := hcut
          clear hcut
          go_upto_region 24 with (fail)
          obtain ⟨x0, x1, x2, x3, x4, x5, x6, x7⟩ := H0.out.cells
          go_wp2_with fail
          refine (demand_c x k _ (HR.out.below H0.out.2.2) hlt).mono ?_
          rintro e wb ⟨rfl, hb⟩
          have H1 := Aside0.mk (H0.out.below hb)
          clear hb H0
          clear x0 x1 x2 x3 x4 x5 x6 x7
          go_upto_if 148 with (fail)
          go_cut [3] (fun v3 wc => Aside0 (SC x w v3 (L9 ++ opt (demandB x.kd k (rdN x.ns (k : Int))) ⟨10, (k : Int)⟩) wc))
          case first => as_aux_lemma =>
            cases hb1 : demandB x.kd k (rdN x.ns (k : Int)) with
            | true =>
              have HV := Lib.hid hb1
              clear hb1
              go_wp2
              go_meet
              exact ⟨by rw [HV.out, ← opt_t]; exact H1.out⟩
            | false =>
              have HV := Lib.hid hb1
              clear hb1
              go_wp2_with (first | ((with_reducible refine gate_builtin (b := .append) (xs := #[.tmp 149, .tmp 152]) rfl ?_); at_builtin; refine Kd.R_append k103 (w0 := w) w.heap.size rfl (.tmp 149) (.tmp 152) 88 103 (.agg #[.int .i64 0, .int .i64 0]) 16 rfl Try.underlying88 info103 rfl (by decide) (by omega) u3 L9 (⟨10, (k : Int)⟩ : Fault) [.int .i64 10, .int .i64 (k : Int)] (fun _ => True) (fun _ => False) rfl rfl (k103_mkM _ _ _ (⟨10, (k : Int)⟩ : Fault)) (fun _ hk => hk.elim) (fun _ _ => trivial) H1.out.2.1 H1.out.2.2 H1.out.2.2.size (by omega) ?_; intro va wa ho hb hg hat; have H2 := Aside0.mk (H1.out.app ho hb hg); clear ho hb hg hat))
              go_meet
              exact ⟨by rw [HV.out]; exact H2.out⟩
          rename_i wc
          have hl10 : (L9 ++ opt (demandB x.kd k (rdN x.ns (k : Int))) ⟨10, (k : Int)⟩ : List Fault).length ≤ 5 * k + 18 := by rw [List.length_append]; have := opt_le (demandB x.kd k (rdN x.ns (k : Int))) ⟨10, (k : Int)⟩; omega
          obtain ⟨L10, hL⟩ : ∃ L, L9 ++ opt (demandB x.kd k (rdN x.ns (k : Int))) ⟨10, (k : Int)⟩ = L := ⟨_, rfl⟩
          rw [hL] at hcut hl10
          have E10 := Lib.hid hL
          clear hL H1
          have H0 := hcut
          clear hcut
          go_upto_region 26 with (fail)
          obtain ⟨x0, x1, x2, x3, x4, x5, x6, x7⟩ := H0.out.cells
          go_wp2_with fail
          refine (window_c x k _ (HR.out.below H0.out.2.2) hlt).mono ?_
          rintro e wb ⟨rfl, hb⟩
          have H1 := Aside0.mk (H0.out.below hb)
          clear hb H0
          clear x0 x1 x2 x3 x4 x5 x6 x7
          go_upto_if 157 with (fail)
          go_cut [3] (fun v3 wc => Aside0 (SC x w v3 (L10 ++ opt (windowB x.kd (rdN x.ns (k : Int))) ⟨11, (k : Int)⟩) wc))
          case first => as_aux_lemma =>
            cases hb1 : windowB x.kd (rdN x.ns (k : Int)) with
            | true =>
              have HV := Lib.hid hb1
              clear hb1
              go_wp2
              go_meet
              exact ⟨by rw [HV.out, ← opt_t]; exact H1.out⟩
            | false =>
              have HV := Lib.hid hb1
              clear hb1
              go_wp2_with (first | ((with_reducible refine gate_builtin (b := .append) (xs := #[.tmp 158, .tmp 161]) rfl ?_); at_builtin; refine Kd.R_append k103 (w0 := w) w.heap.size rfl (.tmp 158) (.tmp 161) 88 103 (.agg #[.int .i64 0, .int .i64 0]) 16 rfl Try.underlying88 info103 rfl (by decide) (by omega) u3 L10 (⟨11, (k : Int)⟩ : Fault) [.int .i64 11, .int .i64 (k : Int)] (fun _ => True) (fun _ => False) rfl rfl (k103_mkM _ _ _ (⟨11, (k : Int)⟩ : Fault)) (fun _ hk => hk.elim) (fun _ _ => trivial) H1.out.2.1 H1.out.2.2 H1.out.2.2.size (by omega) ?_; intro va wa ho hb hg hat; have H2 := Aside0.mk (H1.out.app ho hb hg); clear ho hb hg hat))
              go_meet
              exact ⟨by rw [HV.out]; exact H2.out⟩
          rename_i wc
          have hl11 : (L10 ++ opt (windowB x.kd (rdN x.ns (k : Int))) ⟨11, (k : Int)⟩ : List Fault).length ≤ 5 * k + 19 := by rw [List.length_append]; have := opt_le (windowB x.kd (rdN x.ns (k : Int))) ⟨11, (k : Int)⟩; omega
          obtain ⟨L11, hL⟩ : ∃ L, L10 ++ opt (windowB x.kd (rdN x.ns (k : Int))) ⟨11, (k : Int)⟩ = L := ⟨_, rfl⟩
          rw [hL] at hcut hl11
          have E11 := Lib.hid hL
          clear hL H1
          have H0 := hcut
          clear hcut
          go_upto_region 28 with (fail)
          obtain ⟨x0, x1, x2, x3, x4, x5, x6, x7⟩ := H0.out.cells
          go_wp2_with fail
          refine (service_c x k _ (HR.out.below H0.out.2.2) hlt).mono ?_
          rintro e wb ⟨rfl, hb⟩
          have H1 := Aside0.mk (H0.out.below hb)
          clear hb H0
          clear x0 x1 x2 x3 x4 x5 x6 x7
          go_upto_if 166 with (fail)
          go_cut [3] (fun v3 wc => Aside0 (SC x w v3 (L11 ++ opt (serviceB x.kd (rdN x.ns (k : Int))) ⟨12, (k : Int)⟩) wc))
          case first => as_aux_lemma =>
            cases hb1 : serviceB x.kd (rdN x.ns (k : Int)) with
            | true =>
              have HV := Lib.hid hb1
              clear hb1
              go_wp2
              go_meet
              exact ⟨by rw [HV.out, ← opt_t]; exact H1.out⟩
            | false =>
              have HV := Lib.hid hb1
              clear hb1
              go_wp2_with (first | ((with_reducible refine gate_builtin (b := .append) (xs := #[.tmp 167, .tmp 170]) rfl ?_); at_builtin; refine Kd.R_append k103 (w0 := w) w.heap.size rfl (.tmp 167) (.tmp 170) 88 103 (.agg #[.int .i64 0, .int .i64 0]) 16 rfl Try.underlying88 info103 rfl (by decide) (by omega) u3 L11 (⟨12, (k : Int)⟩ : Fault) [.int .i64 12, .int .i64 (k : Int)] (fun _ => True) (fun _ => False) rfl rfl (k103_mkM _ _ _ (⟨12, (k : Int)⟩ : Fault)) (fun _ hk => hk.elim) (fun _ _ => trivial) H1.out.2.1 H1.out.2.2 H1.out.2.2.size (by omega) ?_; intro va wa ho hb hg hat; have H2 := Aside0.mk (H1.out.app ho hb hg); clear ho hb hg hat))
              go_meet
              exact ⟨by rw [HV.out]; exact H2.out⟩
          rename_i wc
          have hl12 : (L11 ++ opt (serviceB x.kd (rdN x.ns (k : Int))) ⟨12, (k : Int)⟩ : List Fault).length ≤ 5 * k + 20 := by rw [List.length_append]; have := opt_le (serviceB x.kd (rdN x.ns (k : Int))) ⟨12, (k : Int)⟩; omega
          obtain ⟨L12, hL⟩ : ∃ L, L11 ++ opt (serviceB x.kd (rdN x.ns (k : Int))) ⟨12, (k : Int)⟩ = L := ⟨_, rfl⟩
          rw [hL] at hcut hl12
          have E12 := Lib.hid hL
          clear hL H1
          have H0 := hcut
          clear hcut
          go_upto_region 30 with (fail)
          obtain ⟨x0, x1, x2, x3, x4, x5, x6, x7⟩ := H0.out.cells
          go_wp2_with fail
          refine (mate_c x k _ (HR.out.below H0.out.2.2) hlt).mono ?_
          rintro e wb ⟨rfl, hb⟩
          have H1 := Aside0.mk (H0.out.below hb)
          clear hb H0
          clear x0 x1 x2 x3 x4 x5 x6 x7
          cases hb1 : mateB x.kd x.ns k with
          | true =>
            have H2 := Aside0.mk (show SC x w u3 (L12 ++ opt (mateB x.kd x.ns k) ⟨13, (k : Int)⟩) _ from by rw [hb1, ← opt_t]; exact H1.out)
            clear hb1
            go_wp2
            go_roundw
            case rel => exact ⟨k + 1, by go_num, by omega, ⟨by rw [HN.out]; unfold nodeOf; rw [← List.append_assoc, ← List.append_assoc, ← List.append_assoc, ← List.append_assoc, E9.out, E10.out, E11.out, E12.out]; exact H2.out⟩⟩
            case measure => simp [intOf]; omega
          | false =>
            have HbF := Lib.hid (show L12 ++ opt (mateB x.kd x.ns k) ⟨13, (k : Int)⟩ = L12 ++ [⟨13, (k : Int)⟩] from by rw [hb1]; rfl)
            clear hb1
            go_wp2_with (first | ((with_reducible refine gate_builtin (b := .append) (xs := #[.tmp 176, .tmp 179]) rfl ?_); at_builtin; refine Kd.R_append k103 (w0 := w) w.heap.size rfl (.tmp 176) (.tmp 179) 88 103 (.agg #[.int .i64 0, .int .i64 0]) 16 rfl Try.underlying88 info103 rfl (by decide) (by omega) u3 L12 (⟨13, (k : Int)⟩ : Fault) [.int .i64 13, .int .i64 (k : Int)] (fun _ => True) (fun _ => False) rfl rfl (k103_mkM _ _ _ (⟨13, (k : Int)⟩ : Fault)) (fun _ hk => hk.elim) (fun _ _ => trivial) H1.out.2.1 H1.out.2.2 H1.out.2.2.size (by omega) ?_; intro va wa ho hb hg hat; have H2 := Aside0.mk (show SC x w va (L12 ++ opt (mateB x.kd x.ns k) ⟨13, (k : Int)⟩) wa from by rw [HbF.out]; exact H1.out.app ho hb hg); clear ho hb hg hat))
            go_roundw
            case rel => exact ⟨k + 1, by go_num, by omega, ⟨by rw [HN.out]; unfold nodeOf; rw [← List.append_assoc, ← List.append_assoc, ← List.append_assoc, ← List.append_assoc, E9.out, E10.out, E11.out, E12.out]; exact H2.out⟩⟩
            case measure => simp [intOf]; omega
        · have bt : decide ((k : Int) < (x.ns.length : Int)) = false := decide_eq_false (by omega)
          obtain rfl : k = x.ns.length := by omega
          have HE := Lib.hid HK.out
          clear HK
          go_wp2
          go_ret
          exact ⟨_, rfl, by rw [HF.out]; exact HE.out.2.1, HE.out.2.2⟩
end Ref08
end Go.Proofs.Ytlncbckpcmojpaa
