/- FeasOrder: the walk of the law; it answers true. -/
import Derived.Test.YtlncbckpcmojpaaGFeasO
import Derived.Test.YtlncbckpcmojpaaPxEntrepotlaw11shown
set_option linter.unusedVariables false
set_option linter.unusedSimpArgs false
namespace Go.Proofs.Ytlncbckpcmojpaa
open Go.RowKit Go.Proofs.YtlncbckpcmojpaaW.PrintWords Go.Proofs.YtlncbckpcmojpaaW.PrintLast Go.Proofs.YtlncbckpcmojpaaW.PrintMore
namespace FeasO
open P FeasWalk FeasP StopsWalk
theorem ret_b {b : Bool} {e : Ending} (h : e = .returned (.bool b)) (hb : b = true) : e = .returned (.bool true) := hb ▸ h
set_option maxHeartbeats 40000000 in
set_option maxRecDepth 100000 in
theorem order_c (x : Look) (A : Option Addr) (cap : Nat) (rs : List (List Int)) (b8 : Int) (W : World) (h : x.rows W) (hcx : x.ns.length ≤ x.c) (hce : x.mx.length ≤ x.e) (hC : Kd.C dR W A rs.length rs) (hcap : rs.length ≤ cap) (hb8 : 0 ≤ b8 ∧ b8 ≤ 255) :
    Calls Try.prog 8 #[x.val, .agg #[.slice A rs.length cap], .int .u8 b8] W fun e w' => e = .returned (.bool true) ∧ Below W.heap.size W w' := by
  have HR := Lib.hid h
  have HC := Lib.hid hC
  obtain ⟨k1, hk1⟩ := Ev.rounds (Well11.well_ev x.nm x.kd x.mt x.sc x.cp x.fl x.ns x.mx)
  obtain ⟨lo, hlo, hlo2⟩ := Well11.long_tells rs
  obtain ⟨k2, hk2⟩ := Ev.rounds hlo
  obtain ⟨wl, hwl⟩ : ∃ wl, Well11.wellF x.nm x.kd x.mt x.sc x.cp x.fl x.ns x.mx = wl := ⟨_, rfl⟩
  rw [hwl] at hk1
  have HWl := Lib.hid (fun W' (hb : Below W.heap.size W W') => entrepotlaw11_well.calls k1 x.nm x.kd x.mt x.sc x.cp x.fl x.A x.c x.ns x.B x.e x.mx wl W' (Kd.C_below h.1 hb) hcx (Kd.C_below h.2 hb) hce hk1)
  have HLo := Lib.hid (fun W' (hb : Below W.heap.size W W') => entrepotlaw11_long.calls k2 A cap rs lo W' (Kd.C_below hC hb) hcap hk2)
  have HSh := Lib.hid (fun W' : World => entrepotlaw11_shown.calls true W' entrepotlaw11_shown.only)
  have HW1 := Lib.hid hwl
  have HL2 := Lib.hid hlo2
  have HCx := Lib.hid (And.intro hcx hce)
  clear hwl hk1 hk2 hlo hlo2 hcx hce
  have bX := blk_alloc (heap_alloc_new W (.cells #[.string x.nm, .int .i64 x.kd, .int .i64 x.mt, .int .i64 x.sc, .int .i64 x.cp, .int .i64 x.fl, .slice x.A x.ns.length x.c, .slice x.B x.mx.length x.e] 25)) (.cells #[.slice A rs.length cap] 30)
  have bP := heap_alloc_new (W.alloc (.cells #[.string x.nm, .int .i64 x.kd, .int .i64 x.mt, .int .i64 x.sc, .int .i64 x.cp, .int .i64 x.fl, .slice x.A x.ns.length x.c, .slice x.B x.mx.length x.e] 25)) (.cells #[.slice A rs.length cap] 30)
  have hW0 : Below W.heap.size W ((W.alloc (.cells #[.string x.nm, .int .i64 x.kd, .int .i64 x.mt, .int .i64 x.sc, .int .i64 x.cp, .int .i64 x.fl, .slice x.A x.ns.length x.c, .slice x.B x.mx.length x.e] 25)).alloc (.cells #[.slice A rs.length cap] 30)) := ((Below.refl _ W).alloc (Nat.le_refl _) _).alloc (by simp) _
  simp only [World.size_alloc] at bP
  generalize hW1 : (W.alloc (.cells #[.string x.nm, .int .i64 x.kd, .int .i64 x.mt, .int .i64 x.sc, .int .i64 x.cp, .int .i64 x.fl, .slice x.A x.ns.length x.c, .slice x.B x.mx.length x.e] 25)).alloc (.cells #[.slice A rs.length cap] 30) = W1 at *
  obtain ⟨Bp, hBp⟩ : ∃ Bp, W.heap.size + 1 = Bp := ⟨_, rfl⟩
  have HW := Lib.hid hW1
  have HBp := Lib.hid hBp
  have H0 := Aside0.mk (show OB x W A rs.length cap W1 from ⟨bX, bP, hW0⟩)
  have HCell := Lib.hid (show ∀ w', OB x W A rs.length cap w' → w'.cell? ⟨Bp, 0, none⟩ = some (.slice A rs.length cap) from fun w' h => by rw [← HBp.out]; exact h.cell)
  have hlt8 : W.heap.size ≠ Bp := by omega
  clear hW1 hW0 bX bP h hC hBp
  unfold Look.val
  have hu30 := Try.underlying30
  go_enter Try.func8, Try.ntmps8
  go_upto_region 1 with (fail)
  rw [HW.out, HBp.out]
  obtain ⟨q, hq⟩ : ∃ q, (!wl || lo || decide (rs.length = 0)) = q := ⟨_, rfl⟩
  have HQ := Lib.hid hq
  clear hq HW
  obtain ⟨k0, k1, k2, k3, k4, k5, k6, k7⟩ := H0.out.cells
  go_cut [26] (fun v26 wc => v26 = .bool q ∧ Aside0 (OB x W A rs.length cap wc))
  case first => as_aux_lemma =>
    go_wp2_with fail
    refine (HWl.out _ H0.out.bel).mono ?_
    rintro e w2 ⟨rfl, hb⟩
    have H1 := Aside0.mk (H0.out.below hb)
    clear k0 k1 k2 k3 k4 k5 k6 k7 H0 hb HWl
    have kp := HCell.out _ H1.out
    cases wl with
    | false =>
      have HV := Lib.hid (show q = true from HQ.out.symm)
      go_wp2
      go_meet
      exact ⟨by rw [HV.out], H1⟩
    | true =>
      go_wp2_with fail
      refine (HLo.out _ H1.out.bel).mono ?_
      rintro e w3 ⟨rfl, hb⟩
      have H2 := Aside0.mk (H1.out.below hb)
      clear kp H1 hb HLo
      have kp := HCell.out _ H2.out
      cases lo with
      | true =>
        have HV := Lib.hid (show q = true from HQ.out.symm)
        go_wp2
        go_meet
        exact ⟨by rw [HV.out], H2⟩
      | false =>
        by_cases hr : rs.length = 0
        · have HV := Lib.hid (show q = true from HQ.out.symm.trans (by rw [decide_eq_true hr]; rfl))
          have b1 : ((rs.length : Int) == 0) = true := beq_iff_eq.2 (by omega)
          clear hr
          go_wp2
          go_meet
          exact ⟨by rw [HV.out], H2⟩
        · have HV := Lib.hid (show q = false from HQ.out.symm.trans (by rw [decide_eq_false hr]; rfl))
          have b1 : ((rs.length : Int) == 0) = false := beq_eq_false_iff_ne.2 (by omega)
          clear hr
          go_wp2_with fail
          refine (HSh.out _).mono ?_
          rintro e w4 ⟨rfl, hb⟩
          have H3 := Aside0.mk (H2.out.below hb)
          clear kp H2 hb
          go_wp2
          go_meet
          exact ⟨by rw [HV.out], H3⟩
  rename_i wc
  obtain ⟨rfl, H1⟩ := hcut
  clear k0 k1 k2 k3 k4 k5 k6 k7 H0 HWl HLo
  cases q with
  | true =>
    go_wp2_with fail
    refine (HSh.out _).mono ?_
    rintro e w4 ⟨rfl, hb⟩
    have H3 := Aside0.mk (H1.out.below hb)
    go_wp2
    go_ret
    exact ⟨rfl, H3.out.bel⟩
  | false =>
    have hq := HQ.out
    simp only [Bool.or_eq_false_iff, Bool.not_eq_false', decide_eq_false_iff_not] at hq
    obtain ⟨⟨hw, hl⟩, hr0⟩ := hq
    have g := Well11.good_of (HW1.out.trans hw)
    obtain ⟨l1, l2, l3⟩ := HL2.out hl
    have hok := ok_good g
    have hfw := few_long (rs := rs) (by omega) l2
    obtain ⟨kk, hkk, hkl⟩ : ∃ kk : Nat, Int.tmod b8 (rs.length : Int) = (kk : Int) ∧ kk < rs.length := by
      have h1 := Int.tmod_nonneg (rs.length : Int) hb8.1
      have h2 := Int.tmod_lt_of_pos b8 (show (0 : Int) < (rs.length : Int) by omega)
      exact ⟨(Int.tmod b8 (rs.length : Int)).toNat, by omega, by omega⟩
    have hdl : ∀ r ∈ rs.drop kk ++ [[]] ++ rs.take kk, r.length ≤ 300 := by
      intro r hr
      rcases List.mem_append.1 hr with hr | hr
      · rcases List.mem_append.1 hr with hr | hr
        · exact l2 r (List.mem_of_mem_drop hr)
        · rw [List.mem_singleton.1 hr]; exact Nat.zero_le _
      · exact l2 r (List.mem_of_mem_take hr)
    have hfq := few_long (rs := rs.drop kk ++ [[]] ++ rs.take kk) (by simp only [List.length_append, List.length_drop, List.length_take, List.length_singleton]; omega) hdl
    have hfn := few_long (rs := filled rs) (Nat.le_trans (List.length_filter_le _ _) (by omega)) (fun r hr => l2 r (List.mem_filter.1 hr).1)
    have hlq := wrongs_perm (lk x.nm x.kd x.mt x.sc x.cp x.fl x.ns x.mx) (turned_perm rs kk)
    have hln := wrongs_perm (lk x.nm x.kd x.mt x.sc x.cp x.fl x.ns x.mx) (rs := filled rs) (qs := rs) (by rw [filled_twice])
    have eq1 := feasible_some (nm := x.nm) (sc := x.sc) (kd := x.kd) (cp := x.cp) (fl := x.fl) hok hfq
    have eq2 := feasible_some (nm := x.nm) (sc := x.sc) (kd := x.kd) (cp := x.cp) (fl := x.fl) hok hfn
    have eq3 := feasible_some (nm := x.nm) (sc := x.sc) (kd := x.kd) (cp := x.cp) (fl := x.fl) hok hfw
    have eq4 := check_some (nm := x.nm) (sc := x.sc) (kd := x.kd) (cp := x.cp) (fl := x.fl) hok hfq
    have eq5 := check_some (nm := x.nm) (sc := x.sc) (kd := x.kd) (cp := x.cp) (fl := x.fl) hok hfw
    rw [empty_len hlq] at eq1
    rw [empty_len hln] at eq2
    obtain ⟨z, hz⟩ : ∃ z, (wrongsOf (lk x.nm x.kd x.mt x.sc x.cp x.fl x.ns x.mx) rs).isEmpty = z := ⟨_, rfl⟩
    rw [hz] at eq1 eq2 eq3
    obtain ⟨m, hm⟩ : ∃ m, (wrongsOf (lk x.nm x.kd x.mt x.sc x.cp x.fl x.ns x.mx) rs).length = m := ⟨_, rfl⟩
    rw [hm] at hlq
    have hCd : Kd.C dR W _ (rs.drop kk).length (rs.drop kk) := Kd.C_drop (c := cap) HC.out (by omega) hcap
    have hCt : Kd.C dR W A (rs.take kk).length (rs.take kk) := Kd.C_take HC.out (by omega)
    obtain ⟨i0, hi0, hz0, hz1, hz2⟩ := info_parts P.info23
    have hcutD := cut_from (P := Try.prog) 28 23 .i64 Try.underlying28 hi0 1 hz1 A rs.length cap (kk : Int) (by omega) (by omega)
    have hcutT := cut_to (P := Try.prog) 28 23 .i64 Try.underlying28 hi0 A rs.length cap (kk : Int) (by omega) (by omega) hcap
    rw [Int.toNat_natCast] at hcutD hcutT
    obtain ⟨AD, hAD⟩ : ∃ AD, (if cap = kk then A else A.map (·.add (kk * 1))) = AD := ⟨_, rfl⟩
    have hCd : Kd.C dR W AD (rs.drop kk).length (rs.drop kk) := by rw [← hAD]; exact hCd
    rw [hAD, show rs.length - kk = (rs.drop kk).length from List.length_drop.symm] at hcutD
    replace hcutT : ∀ W : World, (Instr.slice 28 (.slice A rs.length cap) none (some (.int .i64 (kk : Int))) none).run Try.prog W = .ok (.slice A (rs.take kk).length cap) W := fun W => by rw [hcutT W, List.length_take, Nat.min_eq_left (by omega)]
    have hld : (rs.drop kk).length ≤ 300 := by rw [List.length_drop]; omega
    have hlt : (rs.take kk).length ≤ 300 := by rw [List.length_take]; omega
    obtain ⟨qs, hqs⟩ : ∃ qs, rs.drop kk ++ [[]] ++ rs.take kk = qs := ⟨_, rfl⟩
    rw [hqs] at eq1 eq4 hlq
    generalize rs.drop kk = ds at *
    generalize rs.take kk = ts at *
    have HCD := Lib.hid hCd
    have HCT := Lib.hid hCt
    have HQs := Lib.hid hqs
    have HE := Lib.hid (And.intro hlq hm)
    have HFp := Lib.hid (fun W' (hb : Below W.heap.size W W') => feas_Feasible.calls x.nm x.kd x.mt x.sc x.cp x.fl x.A x.c x.ns x.B x.e x.mx A cap rs z W' (Kd.C_below HR.out.1 hb) HCx.out.1 (Kd.C_below HR.out.2 hb) HCx.out.2 (Kd.C_below HC.out hb) hcap eq3)
    have HFn := Lib.hid (fun A60 c60 W' (hb : Below W.heap.size W W') (h6 : Kd.C dR W' A60 (filled rs).length (filled rs) ∧ (filled rs).length ≤ c60) => feas_Feasible.calls x.nm x.kd x.mt x.sc x.cp x.fl x.A x.c x.ns x.B x.e x.mx A60 c60 (filled rs) z W' (Kd.C_below HR.out.1 hb) HCx.out.1 (Kd.C_below HR.out.2 hb) HCx.out.2 h6.1 h6.2 eq2)
    have HKp := Lib.hid (show ∀ W' (hb : Below W.heap.size W W'), Calls Try.prog 14 #[.agg #[.string x.nm, .int .i64 x.kd, .int .i64 x.mt, .int .i64 x.sc, .int .i64 x.cp, .int .i64 x.fl, .slice x.A x.ns.length x.c, .slice x.B x.mx.length x.e], .agg #[.slice A rs.length cap]] W' fun e w' => ∃ A' c', e = .returned (.slice A' m c') ∧ Below W'.heap.size W' w' from fun W' hb => (feas_Check.calls x.nm x.kd x.mt x.sc x.cp x.fl x.A x.c x.ns x.B x.e x.mx A cap rs _ W' (Kd.C_below HR.out.1 hb) HCx.out.1 (Kd.C_below HR.out.2 hb) HCx.out.2 (Kd.C_below HC.out hb) hcap eq5).mono (by
      rintro e w' ⟨v, rfl, ho, hb2⟩
      obtain ⟨A', c', rfl⟩ := Kd.R_slice ho
      exact ⟨A', c', by rw [HE.out.2], hb2⟩))
    have HNm := Lib.hid (show ∀ W' (hb : Below W.heap.size W W'), Calls Try.prog 27 #[.agg #[.slice A rs.length cap]] W' fun e w' => ∃ A' c', e = .returned (.agg #[.slice A' (filled rs).length c']) ∧ (Kd.C dR w' A' (filled rs).length (filled rs) ∧ (filled rs).length ≤ c') ∧ Below W'.heap.size W' w' from by
      obtain ⟨k3, hk3⟩ := Ev.rounds (norm_ev (few_of hfw))
      exact fun W' hb => (plan_Norm.calls k3 A cap rs _ W' (Kd.C_below HC.out hb) hcap hk3).mono (by
        rintro e w' ⟨v, rfl, ho, hb2⟩
        obtain ⟨A', c', rfl⟩ := Kd.S_slice ho
        have := Kd.N_reads' (Kd.S_N ho)
        exact ⟨A', c', rfl, ⟨this.2.2, this.2.1⟩, hb2⟩))
    have HFq := Lib.hid (show ∀ (g8 : Nat) A47 n47 c47 W', OQ x W A rs.length cap g8 (.slice A47 n47 c47) qs W' → Calls Try.prog 13 #[.agg #[.string x.nm, .int .i64 x.kd, .int .i64 x.mt, .int .i64 x.sc, .int .i64 x.cp, .int .i64 x.fl, .slice x.A x.ns.length x.c, .slice x.B x.mx.length x.e], .agg #[.slice A47 n47 c47]] W' fun e w' => e = .returned (.bool z) ∧ Below W'.heap.size W' w' from fun g8 A47 n47 c47 W' hQ => by
      obtain ⟨e1, e2, e3⟩ := Kd.N_reads' hQ.qr
      subst e1
      exact feas_Feasible.calls x.nm x.kd x.mt x.sc x.cp x.fl x.A x.c x.ns x.B x.e x.mx A47 c47 qs z W' (Kd.C_below HR.out.1 hQ.bel) HCx.out.1 (Kd.C_below HR.out.2 hQ.bel) HCx.out.2 e3 e2 eq1)
    have HKq := Lib.hid (show ∀ (g8 : Nat) A47 n47 c47 W', OQ x W A rs.length cap g8 (.slice A47 n47 c47) qs W' → Calls Try.prog 14 #[.agg #[.string x.nm, .int .i64 x.kd, .int .i64 x.mt, .int .i64 x.sc, .int .i64 x.cp, .int .i64 x.fl, .slice x.A x.ns.length x.c, .slice x.B x.mx.length x.e], .agg #[.slice A47 n47 c47]] W' fun e w' => ∃ A' c', e = .returned (.slice A' m c') ∧ Below W'.heap.size W' w' from fun g8 A47 n47 c47 W' hQ => by
      obtain ⟨e1, e2, e3⟩ := Kd.N_reads' hQ.qr
      subst e1
      refine (feas_Check.calls x.nm x.kd x.mt x.sc x.cp x.fl x.A x.c x.ns x.B x.e x.mx A47 c47 qs _ W' (Kd.C_below HR.out.1 hQ.bel) HCx.out.1 (Kd.C_below HR.out.2 hQ.bel) HCx.out.2 e3 e2 eq4).mono ?_
      rintro e w' ⟨v, rfl, ho, hb2⟩
      obtain ⟨A', c', rfl⟩ := Kd.R_slice ho
      exact ⟨A', c', by rw [HE.out.1], hb2⟩)
    have b0 : ((rs.length : Int) == 0) = false := beq_eq_false_iff_ne.2 (by omega)
    have hw8 : wrap64 b8 = b8 := by unfold wrap64; omega
    have hw8w : IntKind.i64.wrap b8 = b8 := (i64_w _).trans hw8
    have hkw : IntKind.i64.wrap (kk : Int) = (kk : Int) := (i64_w _).trans (by unfold wrap64; omega)
    have hkw2 : wrap64 (kk : Int) = (kk : Int) := by unfold wrap64; omega
    clear g hok hfw hfq hfn eq1 eq2 eq3 eq4 eq5 hz hm hlq hln hdl l2 l3 hCd hCt hqs hw hl HQ HW1 HL2 i0 hi0 hz0 hz1 hz2 hAD HSh
    have kp := HCell.out _ H1.out
    go_upto_region 4 with (fail)
    have hF0 : OB x W A rs.length cap wc.drew := H1.out.below (below_drew1 (Below.refl _ _))
    clear H1 kp b0 hw8 hw8w hkw hkw2 hkk hb8
    go_wp2_with fail
    -- REGION
    refine start_ (n := 17) (S := fun w' => w'.cell? ⟨Bp, 0, none⟩ = some (.slice A rs.length cap)) (ds := []) #[false, false, false, false, false, false, false, false, false, false, false, false, false, false, false, false, false] (by kernel_rfl) rfl rfl ((HCell.out _ hF0)) (fun hHeld => ?_)
    obtain ⟨s_, hF⟩ : ∃ s_, OS x W A cap rs.length ds ts 0 0 0 s_ wc.drew := ⟨⟨undef, undef, 0, undef, 0, undef, none, 0, 0, 0⟩, OS.start hF0 _⟩
    generalize wc.drew = w_ at hF hHeld ⊢
    clear hF0
    refine pure_ (i := 1) (N := some 35) (v := ?_) (a' := ?_) #[false, true, false, false, false, false, false, false, false, false, false, false, false, false, false, false, false] rfl rfl (by kernel_rfl) (fun _ _ _ h => h) (Or.inl ⟨by rfl, ?_⟩) ?_ ?_
    rotate_left
    · intro w'
      go_simp
      with_reducible rfl
    rotate_left
    · simp only [Act.put, List.setIfInBounds_toArray, List.set_cons_zero, List.set_cons_succ, i64_w, i32_w]
      rfl
    refine pure_ (i := 3) (N := some 37) (v := ?_) (a' := ?_) #[false, true, false, true, false, false, false, false, false, false, false, false, false, false, false, false, false] rfl rfl (by kernel_rfl) (fun _ _ _ h => h) (Or.inl ⟨by rfl, ?_⟩) ?_ ?_
    rotate_left
    · intro w'
      go_simp
      with_reducible rfl
    rotate_left
    · simp only [Act.put, List.setIfInBounds_toArray, List.set_cons_zero, List.set_cons_succ, i64_w, i32_w]
      rfl
    refine pure_ (i := 9) (N := some 43) (v := ?_) (a' := ?_) #[false, true, false, true, false, false, false, false, false, true, false, false, false, false, false, false, false] rfl rfl (by kernel_rfl) (fun _ _ _ h => h) (Or.inl ⟨by rfl, ?_⟩) ?_ ?_
    rotate_left
    · intro w'
      go_simp
      with_reducible rfl
    rotate_left
    · simp only [Act.put, List.setIfInBounds_toArray, List.set_cons_zero, List.set_cons_succ, i64_w, i32_w]
      rfl
    refine pure_ (i := 11) (N := some 45) (v := ?_) (a' := ?_) #[false, true, false, true, false, false, false, false, false, true, false, true, false, false, false, false, false] rfl rfl (by kernel_rfl) (fun _ _ _ h => h) (Or.inl ⟨by rfl, ?_⟩) ?_ ?_
    rotate_left
    · intro w'
      go_simp
      with_reducible rfl
    rotate_left
    · simp only [Act.put, List.setIfInBounds_toArray, List.set_cons_zero, List.set_cons_succ, i64_w, i32_w]
      rfl
    refine take_ (i := 2) (N := some 36) (v := ?_) (a' := ?_) #[false, true, true, true, false, false, false, false, false, true, false, true, false, false, false, false, false] rfl rfl (by kernel_rfl) (fun _ _ _ h => h) (Or.inl ⟨by rfl, ?_⟩) hHeld ?_ ?_
    rotate_left
    · intro w' s0
      go_simp
      with_reducible rfl
    rotate_left
    · simp only [Act.put, List.setIfInBounds_toArray, List.set_cons_zero, List.set_cons_succ, i64_w, i32_w]
      rfl
    refine pure_ (i := 4) (N := some 38) (v := ?_) (a' := ?_) #[false, true, true, true, true, false, false, false, false, true, false, true, false, false, false, false, false] rfl rfl (by kernel_rfl) (fun _ _ _ h => h) (Or.inl ⟨by rfl, ?_⟩) ?_ ?_
    rotate_left
    · intro w'
      go_simp
      with_reducible rfl
    rotate_left
    · simp only [Act.put, List.setIfInBounds_toArray, List.set_cons_zero, List.set_cons_succ, i64_w, i32_w]
      rfl
    refine take_ (i := 10) (N := some 44) (v := ?_) (a' := ?_) #[false, true, true, true, true, false, false, false, false, true, true, true, false, false, false, false, false] rfl rfl (by kernel_rfl) (fun _ _ _ h => h) (Or.inl ⟨by rfl, ?_⟩) hHeld ?_ ?_
    rotate_left
    · intro w' s0
      go_simp
      with_reducible rfl
    rotate_left
    · simp only [Act.put, List.setIfInBounds_toArray, List.set_cons_zero, List.set_cons_succ, i64_w, i32_w]
      rfl
    refine pure_ (i := 12) (N := some 46) (v := ?_) (a' := ?_) #[false, true, true, true, true, false, false, false, false, true, true, true, true, false, false, false, false] rfl rfl (by kernel_rfl) (fun _ _ _ h => h) (Or.inl ⟨by rfl, ?_⟩) ?_ ?_
    rotate_left
    · intro w'
      go_simp
      with_reducible rfl
    rotate_left
    · simp only [Act.put, List.setIfInBounds_toArray, List.set_cons_zero, List.set_cons_succ, i64_w, i32_w]
      rfl
    refine join_ (σ := Sg) 1 #[true, true, true, true, true, true, true, true, true, true, true, true, true, true, true, true, false] (fun s_ => [(34, s_.v34), (39, s_.v39), (40, .slice (some ⟨s_.b40, 0, none⟩) 0 0), (41, s_.v41), (42, s_.v42), (47, .slice s_.A47 s_.n47 s_.c47), (48, .agg #[.slice s_.A47 s_.n47 s_.c47]), (8, .pointer (some ⟨s_.g8, 0, none⟩))]) (fun s_ w_ => OS x W A cap rs.length ds ts 4 3 1 s_ w_) ?_ ?_
    rotate_left
    · intro hJ0_5_6_7_8_13_15
      refine join_ (σ := Sg) 2 #[true, true, true, true, true, true, true, true, true, true, true, true, true, true, true, false, false] (fun s_ => [(34, s_.v34), (39, s_.v39), (40, .slice (some ⟨s_.b40, 0, none⟩) 0 0), (41, s_.v41), (42, s_.v42), (47, .slice s_.A47 s_.n47 s_.c47), (48, .agg #[.slice s_.A47 s_.n47 s_.c47])]) (fun s_ w_ => OS x W A cap rs.length ds ts 4 3 0 s_ w_) ?_ ?_
      rotate_left
      · intro hJ0_5_6_7_8_13
        refine join_ (σ := Sg) 3 #[true, true, true, true, true, true, true, true, true, true, true, true, true, false, false, true, false] (fun s_ => [(34, s_.v34), (39, s_.v39), (40, .slice (some ⟨s_.b40, 0, none⟩) 0 0), (41, s_.v41), (42, s_.v42), (8, .pointer (some ⟨s_.g8, 0, none⟩))]) (fun s_ w_ => OS x W A cap rs.length ds ts 3 3 1 s_ w_) ?_ ?_
        rotate_left
        · intro hJ0_5_6_7_8_15
          refine join_ (σ := Sg) 4 #[true, true, true, true, true, true, true, true, true, true, true, true, true, false, false, false, false] (fun s_ => [(34, s_.v34), (39, s_.v39), (40, .slice (some ⟨s_.b40, 0, none⟩) 0 0), (41, s_.v41), (42, s_.v42)]) (fun s_ w_ => OS x W A cap rs.length ds ts 3 3 0 s_ w_) ?_ ?_
          rotate_left
          · intro hJ0_5_6_7_8
            refine join_ (σ := Sg) 4 #[true, true, true, true, true, true, true, true, false, true, true, true, true, false, false, true, false] (fun s_ => [(34, s_.v34), (39, s_.v39), (40, .slice (some ⟨s_.b40, 0, none⟩) 0 0), (41, s_.v41), (8, .pointer (some ⟨s_.g8, 0, none⟩))]) (fun s_ w_ => OS x W A cap rs.length ds ts 2 2 1 s_ w_) ?_ ?_
            rotate_left
            · intro hJ0_5_6_7_15
              refine join_ (σ := Sg) 5 #[true, true, true, true, true, true, true, true, false, true, true, true, true, false, false, false, false] (fun s_ => [(34, s_.v34), (39, s_.v39), (40, .slice (some ⟨s_.b40, 0, none⟩) 0 0), (41, s_.v41)]) (fun s_ w_ => OS x W A cap rs.length ds ts 2 2 0 s_ w_) ?_ ?_
              rotate_left
              · intro hJ0_5_6_7
                refine join_ (σ := Sg) 5 #[true, true, true, true, true, true, true, false, false, true, true, true, true, false, false, true, false] (fun s_ => [(34, s_.v34), (39, s_.v39), (40, .slice (some ⟨s_.b40, 0, none⟩) 0 0), (8, .pointer (some ⟨s_.g8, 0, none⟩))]) (fun s_ w_ => OS x W A cap rs.length ds ts 2 1 1 s_ w_) ?_ ?_
                rotate_left
                · intro hJ0_5_6_15
                  refine join_ (σ := Sg) 5 #[true, true, true, true, true, false, true, true, false, true, true, true, true, false, false, true, false] (fun s_ => [(34, s_.v34), (40, .slice (some ⟨s_.b40, 0, none⟩) 0 0), (41, s_.v41), (8, .pointer (some ⟨s_.g8, 0, none⟩))]) (fun s_ w_ => OS x W A cap rs.length ds ts 1 2 1 s_ w_) ?_ ?_
                  rotate_left
                  · intro hJ0_6_7_15
                    refine join_ (σ := Sg) 6 #[true, true, true, true, true, true, true, false, false, true, true, true, true, false, false, false, false] (fun s_ => [(34, s_.v34), (39, s_.v39), (40, .slice (some ⟨s_.b40, 0, none⟩) 0 0)]) (fun s_ w_ => OS x W A cap rs.length ds ts 2 1 0 s_ w_) ?_ ?_
                    rotate_left
                    · intro hJ0_5_6
                      refine join_ (σ := Sg) 6 #[true, true, true, true, true, true, false, false, false, true, true, true, true, false, false, true, false] (fun s_ => [(34, s_.v34), (39, s_.v39), (8, .pointer (some ⟨s_.g8, 0, none⟩))]) (fun s_ w_ => OS x W A cap rs.length ds ts 2 0 1 s_ w_) ?_ ?_
                      rotate_left
                      · intro hJ0_5_15
                        refine join_ (σ := Sg) 6 #[true, true, true, true, true, false, true, true, false, true, true, true, true, false, false, false, false] (fun s_ => [(34, s_.v34), (40, .slice (some ⟨s_.b40, 0, none⟩) 0 0), (41, s_.v41)]) (fun s_ w_ => OS x W A cap rs.length ds ts 1 2 0 s_ w_) ?_ ?_
                        rotate_left
                        · intro hJ0_6_7
                          refine join_ (σ := Sg) 6 #[true, true, true, true, true, false, true, false, false, true, true, true, true, false, false, true, false] (fun s_ => [(34, s_.v34), (40, .slice (some ⟨s_.b40, 0, none⟩) 0 0), (8, .pointer (some ⟨s_.g8, 0, none⟩))]) (fun s_ w_ => OS x W A cap rs.length ds ts 1 1 1 s_ w_) ?_ ?_
                          rotate_left
                          · intro hJ0_6_15
                            refine join_ (σ := Sg) 6 #[false, true, true, true, true, false, true, true, false, true, true, true, true, false, false, true, false] (fun s_ => [(40, .slice (some ⟨s_.b40, 0, none⟩) 0 0), (41, s_.v41), (8, .pointer (some ⟨s_.g8, 0, none⟩))]) (fun s_ w_ => OS x W A cap rs.length ds ts 0 2 1 s_ w_) ?_ ?_
                            rotate_left
                            · intro hJ6_7_15
                              refine join_ (σ := Sg) 7 #[true, true, true, true, true, true, false, false, false, true, true, true, true, false, false, false, false] (fun s_ => [(34, s_.v34), (39, s_.v39)]) (fun s_ w_ => OS x W A cap rs.length ds ts 2 0 0 s_ w_) ?_ ?_
                              rotate_left
                              · intro hJ0_5
                                refine join_ (σ := Sg) 7 #[true, true, true, true, true, false, true, false, false, true, true, true, true, false, false, false, false] (fun s_ => [(34, s_.v34), (40, .slice (some ⟨s_.b40, 0, none⟩) 0 0)]) (fun s_ w_ => OS x W A cap rs.length ds ts 1 1 0 s_ w_) ?_ ?_
                                rotate_left
                                · intro hJ0_6
                                  refine join_ (σ := Sg) 7 #[true, true, true, true, true, false, false, false, false, true, true, true, true, false, false, true, false] (fun s_ => [(34, s_.v34), (8, .pointer (some ⟨s_.g8, 0, none⟩))]) (fun s_ w_ => OS x W A cap rs.length ds ts 1 0 1 s_ w_) ?_ ?_
                                  rotate_left
                                  · intro hJ0_15
                                    refine join_ (σ := Sg) 7 #[false, true, true, true, true, false, true, true, false, true, true, true, true, false, false, false, false] (fun s_ => [(40, .slice (some ⟨s_.b40, 0, none⟩) 0 0), (41, s_.v41)]) (fun s_ w_ => OS x W A cap rs.length ds ts 0 2 0 s_ w_) ?_ ?_
                                    rotate_left
                                    · intro hJ6_7
                                      refine join_ (σ := Sg) 7 #[false, true, true, true, true, false, true, false, false, true, true, true, true, false, false, true, false] (fun s_ => [(40, .slice (some ⟨s_.b40, 0, none⟩) 0 0), (8, .pointer (some ⟨s_.g8, 0, none⟩))]) (fun s_ w_ => OS x W A cap rs.length ds ts 0 1 1 s_ w_) ?_ ?_
                                      rotate_left
                                      · intro hJ6_15
                                        refine join_ (σ := Sg) 8 #[true, true, true, true, true, false, false, false, false, true, true, true, true, false, false, false, false] (fun s_ => [(34, s_.v34)]) (fun s_ w_ => OS x W A cap rs.length ds ts 1 0 0 s_ w_) ?_ ?_
                                        rotate_left
                                        · intro hJ0
                                          refine join_ (σ := Sg) 8 #[false, true, true, true, true, false, true, false, false, true, true, true, true, false, false, false, false] (fun s_ => [(40, .slice (some ⟨s_.b40, 0, none⟩) 0 0)]) (fun s_ w_ => OS x W A cap rs.length ds ts 0 1 0 s_ w_) ?_ ?_
                                          rotate_left
                                          · intro hJ6
                                            refine join_ (σ := Sg) 8 #[false, true, true, true, true, false, false, false, false, true, true, true, true, false, false, true, false] (fun s_ => [(8, .pointer (some ⟨s_.g8, 0, none⟩))]) (fun s_ w_ => OS x W A cap rs.length ds ts 0 0 1 s_ w_) ?_ ?_
                                            rotate_left
                                            · intro hJ15
                                              refine three_ (i := 0) (j := 6) (k := 15) (Ni := some 34) (Nj := some 40) (Nk := some 8) #[true, true, true, true, true, false, false, false, false, true, true, true, true, false, false, false, false] #[false, true, true, true, true, false, true, false, false, true, true, true, true, false, false, false, false] #[false, true, true, true, true, false, false, false, false, true, true, true, true, false, false, true, false] rfl rfl rfl rfl rfl rfl (by kernel_rfl) (by decide) (by decide) (by decide) (fun K hK => ?_) (fun K hK => ?_) (fun K hK => ?_)
                                              · skip
                                                refine Kd.N_lit_step dR _ 23 ?hg (N' := 34) ?hd (xs := ([] : List (List Int))) (inner := []) (ok := okG _ s_) (okp := fun _ => False) ?hr ?hp (fun _ hk => hk.elim) (hF.fresh _ (Nat.le_refl _)) (Below.refl _ _) (Nat.le_refl _) (by simp) ?_; (case hd => rfl); (case hg => rfl); (case hr => first | (go_simp; done) | (go_simp; rfl)); (case hp => exact (Reps.none _ _))
                                                intro v1 w1 ho hb hg hnew
                                                have hT := OS.t34 hF hb ho
                                                refine hK.out _ _ ((HCell.out _ hT.toOB)) (fun hHeld => ?_)
                                                clear hK K
                                                refine norm_ (a' := ?_) ?_ ?_
                                                rotate_left
                                                · show Act.put _ (some 34) _ = _
                                                  simp only [Act.put, List.setIfInBounds_toArray, List.set_cons_zero, List.set_cons_succ, i64_w, i32_w]
                                                  rfl
                                                exact norm_ (by first | (simp only [putAll, Act.put, List.setIfInBounds_toArray, List.set_cons_zero, List.set_cons_succ]; done) | (simp only [putAll, Act.put, List.setIfInBounds_toArray, List.set_cons_zero, List.set_cons_succ]; rfl)) (hJ0 { s_ with v34 := v1 } _ hT)
                                              · skip
                                                refine value_ (w1 := ?_) (v := ?_) (by rfl) rfl ?_ ?_
                                                rotate_left 2
                                                · go_simp
                                                  constructor
                                                  · rfl
                                                  · rfl
                                                have hT := OS.t40 hF
                                                refine hK.out _ _ ((HCell.out _ hT.toOB)) (fun hHeld => ?_)
                                                clear hK K
                                                refine norm_ (a' := ?_) ?_ ?_
                                                rotate_left
                                                · show Act.put _ (some 40) _ = _
                                                  simp only [Act.put, List.setIfInBounds_toArray, List.set_cons_zero, List.set_cons_succ, i64_w, i32_w]
                                                  rfl
                                                exact norm_ (by first | (simp only [putAll, Act.put, List.setIfInBounds_toArray, List.set_cons_zero, List.set_cons_succ]; done) | (simp only [putAll, Act.put, List.setIfInBounds_toArray, List.set_cons_zero, List.set_cons_succ]; rfl)) (hJ6 { s_ with b40 := w_.heap.size } _ hT)
                                              · skip
                                                refine value_ (w1 := ?_) (v := ?_) (by rfl) rfl ?_ ?_
                                                rotate_left 2
                                                · go_simp
                                                  constructor
                                                  · rfl
                                                  · rfl
                                                have hT := OS.t8 hF
                                                refine hK.out _ _ ((HCell.out _ hT.toOB)) (fun hHeld => ?_)
                                                clear hK K
                                                refine norm_ (a' := ?_) ?_ ?_
                                                rotate_left
                                                · show Act.put _ (some 8) _ = _
                                                  simp only [Act.put, List.setIfInBounds_toArray, List.set_cons_zero, List.set_cons_succ, i64_w, i32_w]
                                                  rfl
                                                exact norm_ (by first | (simp only [putAll, Act.put, List.setIfInBounds_toArray, List.set_cons_zero, List.set_cons_succ]; done) | (simp only [putAll, Act.put, List.setIfInBounds_toArray, List.set_cons_zero, List.set_cons_succ]; rfl)) (hJ15 { s_ with g8 := w_.heap.size } _ hT)
                                            · skip
                                              intro s_ w_ hF
                                              have hHeld := HCell.out _ hF.toOB
                                              refine norm_ (a' := ?_) ?_ ?_
                                              rotate_left
                                              · simp only [putAll, Act.put, List.setIfInBounds_toArray, List.set_cons_zero, List.set_cons_succ]
                                                rfl
                                              refine two_ (i := 0) (j := 6) (Ni := some 34) (Nj := some 40) #[true, true, true, true, true, false, false, false, false, true, true, true, true, false, false, true, false] #[false, true, true, true, true, false, true, false, false, true, true, true, true, false, false, true, false] rfl rfl rfl rfl (by kernel_rfl) (by decide) (by decide) (fun K hK => ?_) (fun K hK => ?_)
                                              · skip
                                                refine Kd.N_lit_step dR _ 23 ?hg (N' := 34) ?hd (xs := ([] : List (List Int))) (inner := []) (ok := okG _ s_) (okp := fun _ => False) ?hr ?hp (fun _ hk => hk.elim) (hF.fresh _ (Nat.le_refl _)) (Below.refl _ _) (Nat.le_refl _) (by simp) ?_; (case hd => rfl); (case hg => rfl); (case hr => first | (go_simp; done) | (go_simp; rfl)); (case hp => exact (Reps.none _ _))
                                                intro v1 w1 ho hb hg hnew
                                                have hT := OS.t34 hF hb ho
                                                refine hK.out _ _ ((HCell.out _ hT.toOB)) (fun hHeld => ?_)
                                                clear hK K
                                                refine norm_ (a' := ?_) ?_ ?_
                                                rotate_left
                                                · show Act.put _ (some 34) _ = _
                                                  simp only [Act.put, List.setIfInBounds_toArray, List.set_cons_zero, List.set_cons_succ, i64_w, i32_w]
                                                  rfl
                                                exact norm_ (by first | (simp only [putAll, Act.put, List.setIfInBounds_toArray, List.set_cons_zero, List.set_cons_succ]; done) | (simp only [putAll, Act.put, List.setIfInBounds_toArray, List.set_cons_zero, List.set_cons_succ]; rfl)) (hJ0_15 { s_ with v34 := v1 } _ hT)
                                              · skip
                                                refine value_ (w1 := ?_) (v := ?_) (by rfl) rfl ?_ ?_
                                                rotate_left 2
                                                · go_simp
                                                  constructor
                                                  · rfl
                                                  · rfl
                                                have hT := OS.t40 hF
                                                refine hK.out _ _ ((HCell.out _ hT.toOB)) (fun hHeld => ?_)
                                                clear hK K
                                                refine norm_ (a' := ?_) ?_ ?_
                                                rotate_left
                                                · show Act.put _ (some 40) _ = _
                                                  simp only [Act.put, List.setIfInBounds_toArray, List.set_cons_zero, List.set_cons_succ, i64_w, i32_w]
                                                  rfl
                                                exact norm_ (by first | (simp only [putAll, Act.put, List.setIfInBounds_toArray, List.set_cons_zero, List.set_cons_succ]; done) | (simp only [putAll, Act.put, List.setIfInBounds_toArray, List.set_cons_zero, List.set_cons_succ]; rfl)) (hJ6_15 { s_ with b40 := w_.heap.size } _ hT)
                                          · skip
                                            intro s_ w_ hF
                                            have hHeld := HCell.out _ hF.toOB
                                            refine norm_ (a' := ?_) ?_ ?_
                                            rotate_left
                                            · simp only [putAll, Act.put, List.setIfInBounds_toArray, List.set_cons_zero, List.set_cons_succ]
                                              rfl
                                            refine three_ (i := 0) (j := 7) (k := 15) (Ni := some 34) (Nj := some 41) (Nk := some 8) #[true, true, true, true, true, false, true, false, false, true, true, true, true, false, false, false, false] #[false, true, true, true, true, false, true, true, false, true, true, true, true, false, false, false, false] #[false, true, true, true, true, false, true, false, false, true, true, true, true, false, false, true, false] rfl rfl rfl rfl rfl rfl (by kernel_rfl) (by decide) (by decide) (by decide) (fun K hK => ?_) (fun K hK => ?_) (fun K hK => ?_)
                                            · skip
                                              refine Kd.N_lit_step dR _ 23 ?hg (N' := 34) ?hd (xs := ([] : List (List Int))) (inner := []) (ok := okG _ s_) (okp := fun _ => False) ?hr ?hp (fun _ hk => hk.elim) (hF.fresh _ (Nat.le_refl _)) (Below.refl _ _) (Nat.le_refl _) (by simp) ?_; (case hd => rfl); (case hg => rfl); (case hr => first | (go_simp; done) | (go_simp; rfl)); (case hp => exact (Reps.none _ _))
                                              intro v1 w1 ho hb hg hnew
                                              have hT := OS.t34 hF hb ho
                                              refine hK.out _ _ ((HCell.out _ hT.toOB)) (fun hHeld => ?_)
                                              clear hK K
                                              refine norm_ (a' := ?_) ?_ ?_
                                              rotate_left
                                              · show Act.put _ (some 34) _ = _
                                                simp only [Act.put, List.setIfInBounds_toArray, List.set_cons_zero, List.set_cons_succ, i64_w, i32_w]
                                                rfl
                                              exact norm_ (by first | (simp only [putAll, Act.put, List.setIfInBounds_toArray, List.set_cons_zero, List.set_cons_succ]; done) | (simp only [putAll, Act.put, List.setIfInBounds_toArray, List.set_cons_zero, List.set_cons_succ]; rfl)) (hJ0_6 { s_ with v34 := v1 } _ hT)
                                            · skip
                                              refine Kd.N_lit_step dR _ 23 ?hg (N' := 41) ?hd (xs := ([[]] : List (List Int))) (inner := [.slice (some ⟨s_.b40, 0, none⟩) 0 0]) (ok := fun k => k = w_.heap.size) (okp := fun _ => False) ?hr ?hp (fun _ hk => hk.elim) rfl (Below.refl _ _) (Nat.le_refl _) (by simp) ?_; (case hd => rfl); (case hg => rfl); (case hr => first | (go_simp; done) | (go_simp; rfl)); (case hp => exact (Reps.one (fk_nil _ _) (Reps.none _ _)))
                                              intro v1 w1 ho hb hg hnew
                                              have hT := OS.t41 hF hb ho
                                              refine hK.out _ _ ((HCell.out _ hT.toOB)) (fun hHeld => ?_)
                                              clear hK K
                                              refine norm_ (a' := ?_) ?_ ?_
                                              rotate_left
                                              · show Act.put _ (some 41) _ = _
                                                simp only [Act.put, List.setIfInBounds_toArray, List.set_cons_zero, List.set_cons_succ, i64_w, i32_w]
                                                rfl
                                              exact norm_ (by first | (simp only [putAll, Act.put, List.setIfInBounds_toArray, List.set_cons_zero, List.set_cons_succ]; done) | (simp only [putAll, Act.put, List.setIfInBounds_toArray, List.set_cons_zero, List.set_cons_succ]; rfl)) (hJ6_7 { s_ with v41 := v1, b41 := w_.heap.size } _ hT)
                                            · skip
                                              refine value_ (w1 := ?_) (v := ?_) (by rfl) rfl ?_ ?_
                                              rotate_left 2
                                              · go_simp
                                                constructor
                                                · rfl
                                                · rfl
                                              have hT := OS.t8 hF
                                              refine hK.out _ _ ((HCell.out _ hT.toOB)) (fun hHeld => ?_)
                                              clear hK K
                                              refine norm_ (a' := ?_) ?_ ?_
                                              rotate_left
                                              · show Act.put _ (some 8) _ = _
                                                simp only [Act.put, List.setIfInBounds_toArray, List.set_cons_zero, List.set_cons_succ, i64_w, i32_w]
                                                rfl
                                              exact norm_ (by first | (simp only [putAll, Act.put, List.setIfInBounds_toArray, List.set_cons_zero, List.set_cons_succ]; done) | (simp only [putAll, Act.put, List.setIfInBounds_toArray, List.set_cons_zero, List.set_cons_succ]; rfl)) (hJ6_15 { s_ with g8 := w_.heap.size } _ hT)
                                        · skip
                                          intro s_ w_ hF
                                          have hHeld := HCell.out _ hF.toOB
                                          refine norm_ (a' := ?_) ?_ ?_
                                          rotate_left
                                          · simp only [putAll, Act.put, List.setIfInBounds_toArray, List.set_cons_zero, List.set_cons_succ]
                                            rfl
                                          refine three_ (i := 5) (j := 6) (k := 15) (Ni := some 39) (Nj := some 40) (Nk := some 8) #[true, true, true, true, true, true, false, false, false, true, true, true, true, false, false, false, false] #[true, true, true, true, true, false, true, false, false, true, true, true, true, false, false, false, false] #[true, true, true, true, true, false, false, false, false, true, true, true, true, false, false, true, false] rfl rfl rfl rfl rfl rfl (by kernel_rfl) (by decide) (by decide) (by decide) (fun K hK => ?_) (fun K hK => ?_) (fun K hK => ?_)
                                          · skip
                                            refine Kd.N_append_rows_step dR (w0 := W) W.heap.size (by rfl) (.tmp 34) (.tmp 38) 28 23 (.slice none 0 0) 24 rfl Try.underlying28 info23 rfl (by decide) (by omega) s_.v34 (rowsAt ds ts 1) ds _ _ _ (okG _ s_) (fun k => k < W.heap.size) rfl rfl (hF.row (by decide)) (old_F HCD.out hF.bel) (hF.okp (by decide)) hF.fresh hF.bel hF.bel.size (by simp only [rowsAt, List.length_append, List.length_nil, List.length_singleton]; omega) ?_
                                            intro v1 w1 ho hb hg hat
                                            have hT := OS.app hF (by decide) ho hb hg hat { s_ with v39 := v1 } rfl rfl rfl rfl
                                            refine hK.out _ _ ((HCell.out _ hT.toOB)) (fun hHeld => ?_)
                                            clear hK K
                                            refine norm_ (a' := ?_) ?_ ?_
                                            rotate_left
                                            · show Act.put _ (some 39) _ = _
                                              simp only [Act.put, List.setIfInBounds_toArray, List.set_cons_zero, List.set_cons_succ, i64_w, i32_w]
                                              rfl
                                            exact norm_ (by first | (simp only [putAll, Act.put, List.setIfInBounds_toArray, List.set_cons_zero, List.set_cons_succ]; done) | (simp only [putAll, Act.put, List.setIfInBounds_toArray, List.set_cons_zero, List.set_cons_succ]; rfl)) (hJ0_5 { s_ with v39 := v1 } _ hT)
                                          · skip
                                            refine value_ (w1 := ?_) (v := ?_) (by rfl) rfl ?_ ?_
                                            rotate_left 2
                                            · go_simp
                                              constructor
                                              · rfl
                                              · rfl
                                            have hT := OS.t40 hF
                                            refine hK.out _ _ ((HCell.out _ hT.toOB)) (fun hHeld => ?_)
                                            clear hK K
                                            refine norm_ (a' := ?_) ?_ ?_
                                            rotate_left
                                            · show Act.put _ (some 40) _ = _
                                              simp only [Act.put, List.setIfInBounds_toArray, List.set_cons_zero, List.set_cons_succ, i64_w, i32_w]
                                              rfl
                                            exact norm_ (by first | (simp only [putAll, Act.put, List.setIfInBounds_toArray, List.set_cons_zero, List.set_cons_succ]; done) | (simp only [putAll, Act.put, List.setIfInBounds_toArray, List.set_cons_zero, List.set_cons_succ]; rfl)) (hJ0_6 { s_ with b40 := w_.heap.size } _ hT)
                                          · skip
                                            refine value_ (w1 := ?_) (v := ?_) (by rfl) rfl ?_ ?_
                                            rotate_left 2
                                            · go_simp
                                              constructor
                                              · rfl
                                              · rfl
                                            have hT := OS.t8 hF
                                            refine hK.out _ _ ((HCell.out _ hT.toOB)) (fun hHeld => ?_)
                                            clear hK K
                                            refine norm_ (a' := ?_) ?_ ?_
                                            rotate_left
                                            · show Act.put _ (some 8) _ = _
                                              simp only [Act.put, List.setIfInBounds_toArray, List.set_cons_zero, List.set_cons_succ, i64_w, i32_w]
                                              rfl
                                            exact norm_ (by first | (simp only [putAll, Act.put, List.setIfInBounds_toArray, List.set_cons_zero, List.set_cons_succ]; done) | (simp only [putAll, Act.put, List.setIfInBounds_toArray, List.set_cons_zero, List.set_cons_succ]; rfl)) (hJ0_15 { s_ with g8 := w_.heap.size } _ hT)
                                      · skip
                                        intro s_ w_ hF
                                        have hHeld := HCell.out _ hF.toOB
                                        refine norm_ (a' := ?_) ?_ ?_
                                        rotate_left
                                        · simp only [putAll, Act.put, List.setIfInBounds_toArray, List.set_cons_zero, List.set_cons_succ]
                                          rfl
                                        refine two_ (i := 0) (j := 7) (Ni := some 34) (Nj := some 41) #[true, true, true, true, true, false, true, false, false, true, true, true, true, false, false, true, false] #[false, true, true, true, true, false, true, true, false, true, true, true, true, false, false, true, false] rfl rfl rfl rfl (by kernel_rfl) (by decide) (by decide) (fun K hK => ?_) (fun K hK => ?_)
                                        · skip
                                          refine Kd.N_lit_step dR _ 23 ?hg (N' := 34) ?hd (xs := ([] : List (List Int))) (inner := []) (ok := okG _ s_) (okp := fun _ => False) ?hr ?hp (fun _ hk => hk.elim) (hF.fresh _ (Nat.le_refl _)) (Below.refl _ _) (Nat.le_refl _) (by simp) ?_; (case hd => rfl); (case hg => rfl); (case hr => first | (go_simp; done) | (go_simp; rfl)); (case hp => exact (Reps.none _ _))
                                          intro v1 w1 ho hb hg hnew
                                          have hT := OS.t34 hF hb ho
                                          refine hK.out _ _ ((HCell.out _ hT.toOB)) (fun hHeld => ?_)
                                          clear hK K
                                          refine norm_ (a' := ?_) ?_ ?_
                                          rotate_left
                                          · show Act.put _ (some 34) _ = _
                                            simp only [Act.put, List.setIfInBounds_toArray, List.set_cons_zero, List.set_cons_succ, i64_w, i32_w]
                                            rfl
                                          exact norm_ (by first | (simp only [putAll, Act.put, List.setIfInBounds_toArray, List.set_cons_zero, List.set_cons_succ]; done) | (simp only [putAll, Act.put, List.setIfInBounds_toArray, List.set_cons_zero, List.set_cons_succ]; rfl)) (hJ0_6_15 { s_ with v34 := v1 } _ hT)
                                        · skip
                                          refine Kd.N_lit_step dR _ 23 ?hg (N' := 41) ?hd (xs := ([[]] : List (List Int))) (inner := [.slice (some ⟨s_.b40, 0, none⟩) 0 0]) (ok := fun k => k = w_.heap.size) (okp := fun _ => False) ?hr ?hp (fun _ hk => hk.elim) rfl (Below.refl _ _) (Nat.le_refl _) (by simp) ?_; (case hd => rfl); (case hg => rfl); (case hr => first | (go_simp; done) | (go_simp; rfl)); (case hp => exact (Reps.one (fk_nil _ _) (Reps.none _ _)))
                                          intro v1 w1 ho hb hg hnew
                                          have hT := OS.t41 hF hb ho
                                          refine hK.out _ _ ((HCell.out _ hT.toOB)) (fun hHeld => ?_)
                                          clear hK K
                                          refine norm_ (a' := ?_) ?_ ?_
                                          rotate_left
                                          · show Act.put _ (some 41) _ = _
                                            simp only [Act.put, List.setIfInBounds_toArray, List.set_cons_zero, List.set_cons_succ, i64_w, i32_w]
                                            rfl
                                          exact norm_ (by first | (simp only [putAll, Act.put, List.setIfInBounds_toArray, List.set_cons_zero, List.set_cons_succ]; done) | (simp only [putAll, Act.put, List.setIfInBounds_toArray, List.set_cons_zero, List.set_cons_succ]; rfl)) (hJ6_7_15 { s_ with v41 := v1, b41 := w_.heap.size } _ hT)
                                    · skip
                                      intro s_ w_ hF
                                      have hHeld := HCell.out _ hF.toOB
                                      refine norm_ (a' := ?_) ?_ ?_
                                      rotate_left
                                      · simp only [putAll, Act.put, List.setIfInBounds_toArray, List.set_cons_zero, List.set_cons_succ]
                                        rfl
                                      refine two_ (i := 0) (j := 15) (Ni := some 34) (Nj := some 8) #[true, true, true, true, true, false, true, true, false, true, true, true, true, false, false, false, false] #[false, true, true, true, true, false, true, true, false, true, true, true, true, false, false, true, false] rfl rfl rfl rfl (by kernel_rfl) (by decide) (by decide) (fun K hK => ?_) (fun K hK => ?_)
                                      · skip
                                        refine Kd.N_lit_step dR _ 23 ?hg (N' := 34) ?hd (xs := ([] : List (List Int))) (inner := []) (ok := okG _ s_) (okp := fun _ => False) ?hr ?hp (fun _ hk => hk.elim) (hF.fresh _ (Nat.le_refl _)) (Below.refl _ _) (Nat.le_refl _) (by simp) ?_; (case hd => rfl); (case hg => rfl); (case hr => first | (go_simp; done) | (go_simp; rfl)); (case hp => exact (Reps.none _ _))
                                        intro v1 w1 ho hb hg hnew
                                        have hT := OS.t34 hF hb ho
                                        refine hK.out _ _ ((HCell.out _ hT.toOB)) (fun hHeld => ?_)
                                        clear hK K
                                        refine norm_ (a' := ?_) ?_ ?_
                                        rotate_left
                                        · show Act.put _ (some 34) _ = _
                                          simp only [Act.put, List.setIfInBounds_toArray, List.set_cons_zero, List.set_cons_succ, i64_w, i32_w]
                                          rfl
                                        exact norm_ (by first | (simp only [putAll, Act.put, List.setIfInBounds_toArray, List.set_cons_zero, List.set_cons_succ]; done) | (simp only [putAll, Act.put, List.setIfInBounds_toArray, List.set_cons_zero, List.set_cons_succ]; rfl)) (hJ0_6_7 { s_ with v34 := v1 } _ hT)
                                      · skip
                                        refine value_ (w1 := ?_) (v := ?_) (by rfl) rfl ?_ ?_
                                        rotate_left 2
                                        · go_simp
                                          constructor
                                          · rfl
                                          · rfl
                                        have hT := OS.t8 hF
                                        refine hK.out _ _ ((HCell.out _ hT.toOB)) (fun hHeld => ?_)
                                        clear hK K
                                        refine norm_ (a' := ?_) ?_ ?_
                                        rotate_left
                                        · show Act.put _ (some 8) _ = _
                                          simp only [Act.put, List.setIfInBounds_toArray, List.set_cons_zero, List.set_cons_succ, i64_w, i32_w]
                                          rfl
                                        exact norm_ (by first | (simp only [putAll, Act.put, List.setIfInBounds_toArray, List.set_cons_zero, List.set_cons_succ]; done) | (simp only [putAll, Act.put, List.setIfInBounds_toArray, List.set_cons_zero, List.set_cons_succ]; rfl)) (hJ6_7_15 { s_ with g8 := w_.heap.size } _ hT)
                                  · skip
                                    intro s_ w_ hF
                                    have hHeld := HCell.out _ hF.toOB
                                    refine norm_ (a' := ?_) ?_ ?_
                                    rotate_left
                                    · simp only [putAll, Act.put, List.setIfInBounds_toArray, List.set_cons_zero, List.set_cons_succ]
                                      rfl
                                    refine two_ (i := 5) (j := 6) (Ni := some 39) (Nj := some 40) #[true, true, true, true, true, true, false, false, false, true, true, true, true, false, false, true, false] #[true, true, true, true, true, false, true, false, false, true, true, true, true, false, false, true, false] rfl rfl rfl rfl (by kernel_rfl) (by decide) (by decide) (fun K hK => ?_) (fun K hK => ?_)
                                    · skip
                                      refine Kd.N_append_rows_step dR (w0 := W) W.heap.size (by rfl) (.tmp 34) (.tmp 38) 28 23 (.slice none 0 0) 24 rfl Try.underlying28 info23 rfl (by decide) (by omega) s_.v34 (rowsAt ds ts 1) ds _ _ _ (okG _ s_) (fun k => k < W.heap.size) rfl rfl (hF.row (by decide)) (old_F HCD.out hF.bel) (hF.okp (by decide)) hF.fresh hF.bel hF.bel.size (by simp only [rowsAt, List.length_append, List.length_nil, List.length_singleton]; omega) ?_
                                      intro v1 w1 ho hb hg hat
                                      have hT := OS.app hF (by decide) ho hb hg hat { s_ with v39 := v1 } rfl rfl rfl rfl
                                      refine hK.out _ _ ((HCell.out _ hT.toOB)) (fun hHeld => ?_)
                                      clear hK K
                                      refine norm_ (a' := ?_) ?_ ?_
                                      rotate_left
                                      · show Act.put _ (some 39) _ = _
                                        simp only [Act.put, List.setIfInBounds_toArray, List.set_cons_zero, List.set_cons_succ, i64_w, i32_w]
                                        rfl
                                      exact norm_ (by first | (simp only [putAll, Act.put, List.setIfInBounds_toArray, List.set_cons_zero, List.set_cons_succ]; done) | (simp only [putAll, Act.put, List.setIfInBounds_toArray, List.set_cons_zero, List.set_cons_succ]; rfl)) (hJ0_5_15 { s_ with v39 := v1 } _ hT)
                                    · skip
                                      refine value_ (w1 := ?_) (v := ?_) (by rfl) rfl ?_ ?_
                                      rotate_left 2
                                      · go_simp
                                        constructor
                                        · rfl
                                        · rfl
                                      have hT := OS.t40 hF
                                      refine hK.out _ _ ((HCell.out _ hT.toOB)) (fun hHeld => ?_)
                                      clear hK K
                                      refine norm_ (a' := ?_) ?_ ?_
                                      rotate_left
                                      · show Act.put _ (some 40) _ = _
                                        simp only [Act.put, List.setIfInBounds_toArray, List.set_cons_zero, List.set_cons_succ, i64_w, i32_w]
                                        rfl
                                      exact norm_ (by first | (simp only [putAll, Act.put, List.setIfInBounds_toArray, List.set_cons_zero, List.set_cons_succ]; done) | (simp only [putAll, Act.put, List.setIfInBounds_toArray, List.set_cons_zero, List.set_cons_succ]; rfl)) (hJ0_6_15 { s_ with b40 := w_.heap.size } _ hT)
                                · skip
                                  intro s_ w_ hF
                                  have hHeld := HCell.out _ hF.toOB
                                  refine norm_ (a' := ?_) ?_ ?_
                                  rotate_left
                                  · simp only [putAll, Act.put, List.setIfInBounds_toArray, List.set_cons_zero, List.set_cons_succ]
                                    rfl
                                  refine three_ (i := 5) (j := 7) (k := 15) (Ni := some 39) (Nj := some 41) (Nk := some 8) #[true, true, true, true, true, true, true, false, false, true, true, true, true, false, false, false, false] #[true, true, true, true, true, false, true, true, false, true, true, true, true, false, false, false, false] #[true, true, true, true, true, false, true, false, false, true, true, true, true, false, false, true, false] rfl rfl rfl rfl rfl rfl (by kernel_rfl) (by decide) (by decide) (by decide) (fun K hK => ?_) (fun K hK => ?_) (fun K hK => ?_)
                                  · skip
                                    refine Kd.N_append_rows_step dR (w0 := W) W.heap.size (by rfl) (.tmp 34) (.tmp 38) 28 23 (.slice none 0 0) 24 rfl Try.underlying28 info23 rfl (by decide) (by omega) s_.v34 (rowsAt ds ts 1) ds _ _ _ (okG _ s_) (fun k => k < W.heap.size) rfl rfl (hF.row (by decide)) (old_F HCD.out hF.bel) (hF.okp (by decide)) hF.fresh hF.bel hF.bel.size (by simp only [rowsAt, List.length_append, List.length_nil, List.length_singleton]; omega) ?_
                                    intro v1 w1 ho hb hg hat
                                    have hT := OS.app hF (by decide) ho hb hg hat { s_ with v39 := v1 } rfl rfl rfl rfl
                                    refine hK.out _ _ ((HCell.out _ hT.toOB)) (fun hHeld => ?_)
                                    clear hK K
                                    refine norm_ (a' := ?_) ?_ ?_
                                    rotate_left
                                    · show Act.put _ (some 39) _ = _
                                      simp only [Act.put, List.setIfInBounds_toArray, List.set_cons_zero, List.set_cons_succ, i64_w, i32_w]
                                      rfl
                                    exact norm_ (by first | (simp only [putAll, Act.put, List.setIfInBounds_toArray, List.set_cons_zero, List.set_cons_succ]; done) | (simp only [putAll, Act.put, List.setIfInBounds_toArray, List.set_cons_zero, List.set_cons_succ]; rfl)) (hJ0_5_6 { s_ with v39 := v1 } _ hT)
                                  · skip
                                    refine Kd.N_lit_step dR _ 23 ?hg (N' := 41) ?hd (xs := ([[]] : List (List Int))) (inner := [.slice (some ⟨s_.b40, 0, none⟩) 0 0]) (ok := fun k => k = w_.heap.size) (okp := fun _ => False) ?hr ?hp (fun _ hk => hk.elim) rfl (Below.refl _ _) (Nat.le_refl _) (by simp) ?_; (case hd => rfl); (case hg => rfl); (case hr => first | (go_simp; done) | (go_simp; rfl)); (case hp => exact (Reps.one (fk_nil _ _) (Reps.none _ _)))
                                    intro v1 w1 ho hb hg hnew
                                    have hT := OS.t41 hF hb ho
                                    refine hK.out _ _ ((HCell.out _ hT.toOB)) (fun hHeld => ?_)
                                    clear hK K
                                    refine norm_ (a' := ?_) ?_ ?_
                                    rotate_left
                                    · show Act.put _ (some 41) _ = _
                                      simp only [Act.put, List.setIfInBounds_toArray, List.set_cons_zero, List.set_cons_succ, i64_w, i32_w]
                                      rfl
                                    exact norm_ (by first | (simp only [putAll, Act.put, List.setIfInBounds_toArray, List.set_cons_zero, List.set_cons_succ]; done) | (simp only [putAll, Act.put, List.setIfInBounds_toArray, List.set_cons_zero, List.set_cons_succ]; rfl)) (hJ0_6_7 { s_ with v41 := v1, b41 := w_.heap.size } _ hT)
                                  · skip
                                    refine value_ (w1 := ?_) (v := ?_) (by rfl) rfl ?_ ?_
                                    rotate_left 2
                                    · go_simp
                                      constructor
                                      · rfl
                                      · rfl
                                    have hT := OS.t8 hF
                                    refine hK.out _ _ ((HCell.out _ hT.toOB)) (fun hHeld => ?_)
                                    clear hK K
                                    refine norm_ (a' := ?_) ?_ ?_
                                    rotate_left
                                    · show Act.put _ (some 8) _ = _
                                      simp only [Act.put, List.setIfInBounds_toArray, List.set_cons_zero, List.set_cons_succ, i64_w, i32_w]
                                      rfl
                                    exact norm_ (by first | (simp only [putAll, Act.put, List.setIfInBounds_toArray, List.set_cons_zero, List.set_cons_succ]; done) | (simp only [putAll, Act.put, List.setIfInBounds_toArray, List.set_cons_zero, List.set_cons_succ]; rfl)) (hJ0_6_15 { s_ with g8 := w_.heap.size } _ hT)
                              · skip
                                intro s_ w_ hF
                                have hHeld := HCell.out _ hF.toOB
                                refine norm_ (a' := ?_) ?_ ?_
                                rotate_left
                                · simp only [putAll, Act.put, List.setIfInBounds_toArray, List.set_cons_zero, List.set_cons_succ]
                                  rfl
                                refine two_ (i := 6) (j := 15) (Ni := some 40) (Nj := some 8) #[true, true, true, true, true, true, true, false, false, true, true, true, true, false, false, false, false] #[true, true, true, true, true, true, false, false, false, true, true, true, true, false, false, true, false] rfl rfl rfl rfl (by kernel_rfl) (by decide) (by decide) (fun K hK => ?_) (fun K hK => ?_)
                                · skip
                                  refine value_ (w1 := ?_) (v := ?_) (by rfl) rfl ?_ ?_
                                  rotate_left 2
                                  · go_simp
                                    constructor
                                    · rfl
                                    · rfl
                                  have hT := OS.t40 hF
                                  refine hK.out _ _ ((HCell.out _ hT.toOB)) (fun hHeld => ?_)
                                  clear hK K
                                  refine norm_ (a' := ?_) ?_ ?_
                                  rotate_left
                                  · show Act.put _ (some 40) _ = _
                                    simp only [Act.put, List.setIfInBounds_toArray, List.set_cons_zero, List.set_cons_succ, i64_w, i32_w]
                                    rfl
                                  exact norm_ (by first | (simp only [putAll, Act.put, List.setIfInBounds_toArray, List.set_cons_zero, List.set_cons_succ]; done) | (simp only [putAll, Act.put, List.setIfInBounds_toArray, List.set_cons_zero, List.set_cons_succ]; rfl)) (hJ0_5_6 { s_ with b40 := w_.heap.size } _ hT)
                                · skip
                                  refine value_ (w1 := ?_) (v := ?_) (by rfl) rfl ?_ ?_
                                  rotate_left 2
                                  · go_simp
                                    constructor
                                    · rfl
                                    · rfl
                                  have hT := OS.t8 hF
                                  refine hK.out _ _ ((HCell.out _ hT.toOB)) (fun hHeld => ?_)
                                  clear hK K
                                  refine norm_ (a' := ?_) ?_ ?_
                                  rotate_left
                                  · show Act.put _ (some 8) _ = _
                                    simp only [Act.put, List.setIfInBounds_toArray, List.set_cons_zero, List.set_cons_succ, i64_w, i32_w]
                                    rfl
                                  exact norm_ (by first | (simp only [putAll, Act.put, List.setIfInBounds_toArray, List.set_cons_zero, List.set_cons_succ]; done) | (simp only [putAll, Act.put, List.setIfInBounds_toArray, List.set_cons_zero, List.set_cons_succ]; rfl)) (hJ0_5_15 { s_ with g8 := w_.heap.size } _ hT)
                            · skip
                              intro s_ w_ hF
                              have hHeld := HCell.out _ hF.toOB
                              refine norm_ (a' := ?_) ?_ ?_
                              rotate_left
                              · simp only [putAll, Act.put, List.setIfInBounds_toArray, List.set_cons_zero, List.set_cons_succ]
                                rfl
                              refine one_ (i := 0) (N := some 34) #[true, true, true, true, true, false, true, true, false, true, true, true, true, false, false, true, false] rfl rfl (by kernel_rfl) (by decide) (fun K hK => ?_)
                              refine Kd.N_lit_step dR _ 23 ?hg (N' := 34) ?hd (xs := ([] : List (List Int))) (inner := []) (ok := okG _ s_) (okp := fun _ => False) ?hr ?hp (fun _ hk => hk.elim) (hF.fresh _ (Nat.le_refl _)) (Below.refl _ _) (Nat.le_refl _) (by simp) ?_; (case hd => rfl); (case hg => rfl); (case hr => first | (go_simp; done) | (go_simp; rfl)); (case hp => exact (Reps.none _ _))
                              intro v1 w1 ho hb hg hnew
                              have hT := OS.t34 hF hb ho
                              refine hK.out _ _ ((HCell.out _ hT.toOB)) (fun hHeld => ?_)
                              clear hK K
                              refine norm_ (a' := ?_) ?_ ?_
                              rotate_left
                              · show Act.put _ (some 34) _ = _
                                simp only [Act.put, List.setIfInBounds_toArray, List.set_cons_zero, List.set_cons_succ, i64_w, i32_w]
                                rfl
                              exact norm_ (by first | (simp only [putAll, Act.put, List.setIfInBounds_toArray, List.set_cons_zero, List.set_cons_succ]; done) | (simp only [putAll, Act.put, List.setIfInBounds_toArray, List.set_cons_zero, List.set_cons_succ]; rfl)) (hJ0_6_7_15 { s_ with v34 := v1 } _ hT)
                          · skip
                            intro s_ w_ hF
                            have hHeld := HCell.out _ hF.toOB
                            refine norm_ (a' := ?_) ?_ ?_
                            rotate_left
                            · simp only [putAll, Act.put, List.setIfInBounds_toArray, List.set_cons_zero, List.set_cons_succ]
                              rfl
                            refine two_ (i := 5) (j := 7) (Ni := some 39) (Nj := some 41) #[true, true, true, true, true, true, true, false, false, true, true, true, true, false, false, true, false] #[true, true, true, true, true, false, true, true, false, true, true, true, true, false, false, true, false] rfl rfl rfl rfl (by kernel_rfl) (by decide) (by decide) (fun K hK => ?_) (fun K hK => ?_)
                            · skip
                              refine Kd.N_append_rows_step dR (w0 := W) W.heap.size (by rfl) (.tmp 34) (.tmp 38) 28 23 (.slice none 0 0) 24 rfl Try.underlying28 info23 rfl (by decide) (by omega) s_.v34 (rowsAt ds ts 1) ds _ _ _ (okG _ s_) (fun k => k < W.heap.size) rfl rfl (hF.row (by decide)) (old_F HCD.out hF.bel) (hF.okp (by decide)) hF.fresh hF.bel hF.bel.size (by simp only [rowsAt, List.length_append, List.length_nil, List.length_singleton]; omega) ?_
                              intro v1 w1 ho hb hg hat
                              have hT := OS.app hF (by decide) ho hb hg hat { s_ with v39 := v1 } rfl rfl rfl rfl
                              refine hK.out _ _ ((HCell.out _ hT.toOB)) (fun hHeld => ?_)
                              clear hK K
                              refine norm_ (a' := ?_) ?_ ?_
                              rotate_left
                              · show Act.put _ (some 39) _ = _
                                simp only [Act.put, List.setIfInBounds_toArray, List.set_cons_zero, List.set_cons_succ, i64_w, i32_w]
                                rfl
                              exact norm_ (by first | (simp only [putAll, Act.put, List.setIfInBounds_toArray, List.set_cons_zero, List.set_cons_succ]; done) | (simp only [putAll, Act.put, List.setIfInBounds_toArray, List.set_cons_zero, List.set_cons_succ]; rfl)) (hJ0_5_6_15 { s_ with v39 := v1 } _ hT)
                            · skip
                              refine Kd.N_lit_step dR _ 23 ?hg (N' := 41) ?hd (xs := ([[]] : List (List Int))) (inner := [.slice (some ⟨s_.b40, 0, none⟩) 0 0]) (ok := fun k => k = w_.heap.size) (okp := fun _ => False) ?hr ?hp (fun _ hk => hk.elim) rfl (Below.refl _ _) (Nat.le_refl _) (by simp) ?_; (case hd => rfl); (case hg => rfl); (case hr => first | (go_simp; done) | (go_simp; rfl)); (case hp => exact (Reps.one (fk_nil _ _) (Reps.none _ _)))
                              intro v1 w1 ho hb hg hnew
                              have hT := OS.t41 hF hb ho
                              refine hK.out _ _ ((HCell.out _ hT.toOB)) (fun hHeld => ?_)
                              clear hK K
                              refine norm_ (a' := ?_) ?_ ?_
                              rotate_left
                              · show Act.put _ (some 41) _ = _
                                simp only [Act.put, List.setIfInBounds_toArray, List.set_cons_zero, List.set_cons_succ, i64_w, i32_w]
                                rfl
                              exact norm_ (by first | (simp only [putAll, Act.put, List.setIfInBounds_toArray, List.set_cons_zero, List.set_cons_succ]; done) | (simp only [putAll, Act.put, List.setIfInBounds_toArray, List.set_cons_zero, List.set_cons_succ]; rfl)) (hJ0_6_7_15 { s_ with v41 := v1, b41 := w_.heap.size } _ hT)
                        · skip
                          intro s_ w_ hF
                          have hHeld := HCell.out _ hF.toOB
                          refine norm_ (a' := ?_) ?_ ?_
                          rotate_left
                          · simp only [putAll, Act.put, List.setIfInBounds_toArray, List.set_cons_zero, List.set_cons_succ]
                            rfl
                          refine two_ (i := 5) (j := 15) (Ni := some 39) (Nj := some 8) #[true, true, true, true, true, true, true, true, false, true, true, true, true, false, false, false, false] #[true, true, true, true, true, false, true, true, false, true, true, true, true, false, false, true, false] rfl rfl rfl rfl (by kernel_rfl) (by decide) (by decide) (fun K hK => ?_) (fun K hK => ?_)
                          · skip
                            refine Kd.N_append_rows_step dR (w0 := W) W.heap.size (by rfl) (.tmp 34) (.tmp 38) 28 23 (.slice none 0 0) 24 rfl Try.underlying28 info23 rfl (by decide) (by omega) s_.v34 (rowsAt ds ts 1) ds _ _ _ (okG _ s_) (fun k => k < W.heap.size) rfl rfl (hF.row (by decide)) (old_F HCD.out hF.bel) (hF.okp (by decide)) hF.fresh hF.bel hF.bel.size (by simp only [rowsAt, List.length_append, List.length_nil, List.length_singleton]; omega) ?_
                            intro v1 w1 ho hb hg hat
                            have hT := OS.app hF (by decide) ho hb hg hat { s_ with v39 := v1 } rfl rfl rfl rfl
                            refine hK.out _ _ ((HCell.out _ hT.toOB)) (fun hHeld => ?_)
                            clear hK K
                            refine norm_ (a' := ?_) ?_ ?_
                            rotate_left
                            · show Act.put _ (some 39) _ = _
                              simp only [Act.put, List.setIfInBounds_toArray, List.set_cons_zero, List.set_cons_succ, i64_w, i32_w]
                              rfl
                            exact norm_ (by first | (simp only [putAll, Act.put, List.setIfInBounds_toArray, List.set_cons_zero, List.set_cons_succ]; done) | (simp only [putAll, Act.put, List.setIfInBounds_toArray, List.set_cons_zero, List.set_cons_succ]; rfl)) (hJ0_5_6_7 { s_ with v39 := v1 } _ hT)
                          · skip
                            refine value_ (w1 := ?_) (v := ?_) (by rfl) rfl ?_ ?_
                            rotate_left 2
                            · go_simp
                              constructor
                              · rfl
                              · rfl
                            have hT := OS.t8 hF
                            refine hK.out _ _ ((HCell.out _ hT.toOB)) (fun hHeld => ?_)
                            clear hK K
                            refine norm_ (a' := ?_) ?_ ?_
                            rotate_left
                            · show Act.put _ (some 8) _ = _
                              simp only [Act.put, List.setIfInBounds_toArray, List.set_cons_zero, List.set_cons_succ, i64_w, i32_w]
                              rfl
                            exact norm_ (by first | (simp only [putAll, Act.put, List.setIfInBounds_toArray, List.set_cons_zero, List.set_cons_succ]; done) | (simp only [putAll, Act.put, List.setIfInBounds_toArray, List.set_cons_zero, List.set_cons_succ]; rfl)) (hJ0_6_7_15 { s_ with g8 := w_.heap.size } _ hT)
                      · skip
                        intro s_ w_ hF
                        have hHeld := HCell.out _ hF.toOB
                        refine norm_ (a' := ?_) ?_ ?_
                        rotate_left
                        · simp only [putAll, Act.put, List.setIfInBounds_toArray, List.set_cons_zero, List.set_cons_succ]
                          rfl
                        refine one_ (i := 6) (N := some 40) #[true, true, true, true, true, true, true, false, false, true, true, true, true, false, false, true, false] rfl rfl (by kernel_rfl) (by decide) (fun K hK => ?_)
                        refine value_ (w1 := ?_) (v := ?_) (by rfl) rfl ?_ ?_
                        rotate_left 2
                        · go_simp
                          constructor
                          · rfl
                          · rfl
                        have hT := OS.t40 hF
                        refine hK.out _ _ ((HCell.out _ hT.toOB)) (fun hHeld => ?_)
                        clear hK K
                        refine norm_ (a' := ?_) ?_ ?_
                        rotate_left
                        · show Act.put _ (some 40) _ = _
                          simp only [Act.put, List.setIfInBounds_toArray, List.set_cons_zero, List.set_cons_succ, i64_w, i32_w]
                          rfl
                        exact norm_ (by first | (simp only [putAll, Act.put, List.setIfInBounds_toArray, List.set_cons_zero, List.set_cons_succ]; done) | (simp only [putAll, Act.put, List.setIfInBounds_toArray, List.set_cons_zero, List.set_cons_succ]; rfl)) (hJ0_5_6_15 { s_ with b40 := w_.heap.size } _ hT)
                    · skip
                      intro s_ w_ hF
                      have hHeld := HCell.out _ hF.toOB
                      refine norm_ (a' := ?_) ?_ ?_
                      rotate_left
                      · simp only [putAll, Act.put, List.setIfInBounds_toArray, List.set_cons_zero, List.set_cons_succ]
                        rfl
                      refine two_ (i := 7) (j := 15) (Ni := some 41) (Nj := some 8) #[true, true, true, true, true, true, true, true, false, true, true, true, true, false, false, false, false] #[true, true, true, true, true, true, true, false, false, true, true, true, true, false, false, true, false] rfl rfl rfl rfl (by kernel_rfl) (by decide) (by decide) (fun K hK => ?_) (fun K hK => ?_)
                      · skip
                        refine Kd.N_lit_step dR _ 23 ?hg (N' := 41) ?hd (xs := ([[]] : List (List Int))) (inner := [.slice (some ⟨s_.b40, 0, none⟩) 0 0]) (ok := fun k => k = w_.heap.size) (okp := fun _ => False) ?hr ?hp (fun _ hk => hk.elim) rfl (Below.refl _ _) (Nat.le_refl _) (by simp) ?_; (case hd => rfl); (case hg => rfl); (case hr => first | (go_simp; done) | (go_simp; rfl)); (case hp => exact (Reps.one (fk_nil _ _) (Reps.none _ _)))
                        intro v1 w1 ho hb hg hnew
                        have hT := OS.t41 hF hb ho
                        refine hK.out _ _ ((HCell.out _ hT.toOB)) (fun hHeld => ?_)
                        clear hK K
                        refine norm_ (a' := ?_) ?_ ?_
                        rotate_left
                        · show Act.put _ (some 41) _ = _
                          simp only [Act.put, List.setIfInBounds_toArray, List.set_cons_zero, List.set_cons_succ, i64_w, i32_w]
                          rfl
                        exact norm_ (by first | (simp only [putAll, Act.put, List.setIfInBounds_toArray, List.set_cons_zero, List.set_cons_succ]; done) | (simp only [putAll, Act.put, List.setIfInBounds_toArray, List.set_cons_zero, List.set_cons_succ]; rfl)) (hJ0_5_6_7 { s_ with v41 := v1, b41 := w_.heap.size } _ hT)
                      · skip
                        refine value_ (w1 := ?_) (v := ?_) (by rfl) rfl ?_ ?_
                        rotate_left 2
                        · go_simp
                          constructor
                          · rfl
                          · rfl
                        have hT := OS.t8 hF
                        refine hK.out _ _ ((HCell.out _ hT.toOB)) (fun hHeld => ?_)
                        clear hK K
                        refine norm_ (a' := ?_) ?_ ?_
                        rotate_left
                        · show Act.put _ (some 8) _ = _
                          simp only [Act.put, List.setIfInBounds_toArray, List.set_cons_zero, List.set_cons_succ, i64_w, i32_w]
                          rfl
                        exact norm_ (by first | (simp only [putAll, Act.put, List.setIfInBounds_toArray, List.set_cons_zero, List.set_cons_succ]; done) | (simp only [putAll, Act.put, List.setIfInBounds_toArray, List.set_cons_zero, List.set_cons_succ]; rfl)) (hJ0_5_6_15 { s_ with g8 := w_.heap.size } _ hT)
                  · skip
                    intro s_ w_ hF
                    have hHeld := HCell.out _ hF.toOB
                    refine norm_ (a' := ?_) ?_ ?_
                    rotate_left
                    · simp only [putAll, Act.put, List.setIfInBounds_toArray, List.set_cons_zero, List.set_cons_succ]
                      rfl
                    refine one_ (i := 5) (N := some 39) #[true, true, true, true, true, true, true, true, false, true, true, true, true, false, false, true, false] rfl rfl (by kernel_rfl) (by decide) (fun K hK => ?_)
                    refine Kd.N_append_rows_step dR (w0 := W) W.heap.size (by rfl) (.tmp 34) (.tmp 38) 28 23 (.slice none 0 0) 24 rfl Try.underlying28 info23 rfl (by decide) (by omega) s_.v34 (rowsAt ds ts 1) ds _ _ _ (okG _ s_) (fun k => k < W.heap.size) rfl rfl (hF.row (by decide)) (old_F HCD.out hF.bel) (hF.okp (by decide)) hF.fresh hF.bel hF.bel.size (by simp only [rowsAt, List.length_append, List.length_nil, List.length_singleton]; omega) ?_
                    intro v1 w1 ho hb hg hat
                    have hT := OS.app hF (by decide) ho hb hg hat { s_ with v39 := v1 } rfl rfl rfl rfl
                    refine hK.out _ _ ((HCell.out _ hT.toOB)) (fun hHeld => ?_)
                    clear hK K
                    refine norm_ (a' := ?_) ?_ ?_
                    rotate_left
                    · show Act.put _ (some 39) _ = _
                      simp only [Act.put, List.setIfInBounds_toArray, List.set_cons_zero, List.set_cons_succ, i64_w, i32_w]
                      rfl
                    exact norm_ (by first | (simp only [putAll, Act.put, List.setIfInBounds_toArray, List.set_cons_zero, List.set_cons_succ]; done) | (simp only [putAll, Act.put, List.setIfInBounds_toArray, List.set_cons_zero, List.set_cons_succ]; rfl)) (hJ0_5_6_7_15 { s_ with v39 := v1 } _ hT)
                · skip
                  intro s_ w_ hF
                  have hHeld := HCell.out _ hF.toOB
                  refine norm_ (a' := ?_) ?_ ?_
                  rotate_left
                  · simp only [putAll, Act.put, List.setIfInBounds_toArray, List.set_cons_zero, List.set_cons_succ]
                    rfl
                  refine one_ (i := 7) (N := some 41) #[true, true, true, true, true, true, true, true, false, true, true, true, true, false, false, true, false] rfl rfl (by kernel_rfl) (by decide) (fun K hK => ?_)
                  refine Kd.N_lit_step dR _ 23 ?hg (N' := 41) ?hd (xs := ([[]] : List (List Int))) (inner := [.slice (some ⟨s_.b40, 0, none⟩) 0 0]) (ok := fun k => k = w_.heap.size) (okp := fun _ => False) ?hr ?hp (fun _ hk => hk.elim) rfl (Below.refl _ _) (Nat.le_refl _) (by simp) ?_; (case hd => rfl); (case hg => rfl); (case hr => first | (go_simp; done) | (go_simp; rfl)); (case hp => exact (Reps.one (fk_nil _ _) (Reps.none _ _)))
                  intro v1 w1 ho hb hg hnew
                  have hT := OS.t41 hF hb ho
                  refine hK.out _ _ ((HCell.out _ hT.toOB)) (fun hHeld => ?_)
                  clear hK K
                  refine norm_ (a' := ?_) ?_ ?_
                  rotate_left
                  · show Act.put _ (some 41) _ = _
                    simp only [Act.put, List.setIfInBounds_toArray, List.set_cons_zero, List.set_cons_succ, i64_w, i32_w]
                    rfl
                  exact norm_ (by first | (simp only [putAll, Act.put, List.setIfInBounds_toArray, List.set_cons_zero, List.set_cons_succ]; done) | (simp only [putAll, Act.put, List.setIfInBounds_toArray, List.set_cons_zero, List.set_cons_succ]; rfl)) (hJ0_5_6_7_15 { s_ with v41 := v1, b41 := w_.heap.size } _ hT)
              · skip
                intro s_ w_ hF
                have hHeld := HCell.out _ hF.toOB
                refine norm_ (a' := ?_) ?_ ?_
                rotate_left
                · simp only [putAll, Act.put, List.setIfInBounds_toArray, List.set_cons_zero, List.set_cons_succ]
                  rfl
                refine two_ (i := 8) (j := 15) (Ni := some 42) (Nj := some 8) #[true, true, true, true, true, true, true, true, true, true, true, true, true, false, false, false, false] #[true, true, true, true, true, true, true, true, false, true, true, true, true, false, false, true, false] rfl rfl rfl rfl (by kernel_rfl) (by decide) (by decide) (fun K hK => ?_) (fun K hK => ?_)
                · skip
                  obtain ⟨A41, c41, h41⟩ := Kd.N_slice (hF.one rfl).1
                  refine Kd.N_append_rows_step dR (w0 := W) W.heap.size (by rfl) (.tmp 39) (.tmp 41) 28 23 (.slice none 0 0) 24 rfl Try.underlying28 info23 rfl (by decide) (by omega) s_.v39 (rowsAt ds ts 2) [[]] _ _ _ (okG _ s_) (fun k => k = s_.b41) rfl h41 (hF.row (by decide)) (Kd.N_F (h41 ▸ (hF.one rfl).1)) (hF.ok1 (by decide)) hF.fresh hF.bel hF.bel.size (by simp only [rowsAt, List.length_append, List.length_nil, List.length_singleton]; omega) ?_
                  intro v1 w1 ho hb hg hat
                  have hT := OS.app hF (by decide) ho hb hg hat { s_ with v42 := v1 } rfl rfl rfl rfl
                  have hT := hT.used
                  refine hK.out _ _ ((HCell.out _ hT.toOB)) (fun hHeld => ?_)
                  clear hK K
                  refine norm_ (a' := ?_) ?_ ?_
                  rotate_left
                  · show Act.put _ (some 42) _ = _
                    simp only [Act.put, List.setIfInBounds_toArray, List.set_cons_zero, List.set_cons_succ, i64_w, i32_w]
                    rfl
                  exact norm_ (by first | (simp only [putAll, Act.put, List.setIfInBounds_toArray, List.set_cons_zero, List.set_cons_succ]; done) | (simp only [putAll, Act.put, List.setIfInBounds_toArray, List.set_cons_zero, List.set_cons_succ]; rfl)) (hJ0_5_6_7_8 { s_ with v42 := v1 } _ hT)
                · skip
                  refine value_ (w1 := ?_) (v := ?_) (by rfl) rfl ?_ ?_
                  rotate_left 2
                  · go_simp
                    constructor
                    · rfl
                    · rfl
                  have hT := OS.t8 hF
                  refine hK.out _ _ ((HCell.out _ hT.toOB)) (fun hHeld => ?_)
                  clear hK K
                  refine norm_ (a' := ?_) ?_ ?_
                  rotate_left
                  · show Act.put _ (some 8) _ = _
                    simp only [Act.put, List.setIfInBounds_toArray, List.set_cons_zero, List.set_cons_succ, i64_w, i32_w]
                    rfl
                  exact norm_ (by first | (simp only [putAll, Act.put, List.setIfInBounds_toArray, List.set_cons_zero, List.set_cons_succ]; done) | (simp only [putAll, Act.put, List.setIfInBounds_toArray, List.set_cons_zero, List.set_cons_succ]; rfl)) (hJ0_5_6_7_15 { s_ with g8 := w_.heap.size } _ hT)
            · skip
              intro s_ w_ hF
              have hHeld := HCell.out _ hF.toOB
              refine norm_ (a' := ?_) ?_ ?_
              rotate_left
              · simp only [putAll, Act.put, List.setIfInBounds_toArray, List.set_cons_zero, List.set_cons_succ]
                rfl
              refine one_ (i := 8) (N := some 42) #[true, true, true, true, true, true, true, true, true, true, true, true, true, false, false, true, false] rfl rfl (by kernel_rfl) (by decide) (fun K hK => ?_)
              obtain ⟨A41, c41, h41⟩ := Kd.N_slice (hF.one rfl).1
              refine Kd.N_append_rows_step dR (w0 := W) W.heap.size (by rfl) (.tmp 39) (.tmp 41) 28 23 (.slice none 0 0) 24 rfl Try.underlying28 info23 rfl (by decide) (by omega) s_.v39 (rowsAt ds ts 2) [[]] _ _ _ (okG _ s_) (fun k => k = s_.b41) rfl h41 (hF.row (by decide)) (Kd.N_F (h41 ▸ (hF.one rfl).1)) (hF.ok1 (by decide)) hF.fresh hF.bel hF.bel.size (by simp only [rowsAt, List.length_append, List.length_nil, List.length_singleton]; omega) ?_
              intro v1 w1 ho hb hg hat
              have hT := OS.app hF (by decide) ho hb hg hat { s_ with v42 := v1 } rfl rfl rfl rfl
              have hT := hT.used
              refine hK.out _ _ ((HCell.out _ hT.toOB)) (fun hHeld => ?_)
              clear hK K
              refine norm_ (a' := ?_) ?_ ?_
              rotate_left
              · show Act.put _ (some 42) _ = _
                simp only [Act.put, List.setIfInBounds_toArray, List.set_cons_zero, List.set_cons_succ, i64_w, i32_w]
                rfl
              exact norm_ (by first | (simp only [putAll, Act.put, List.setIfInBounds_toArray, List.set_cons_zero, List.set_cons_succ]; done) | (simp only [putAll, Act.put, List.setIfInBounds_toArray, List.set_cons_zero, List.set_cons_succ]; rfl)) (hJ0_5_6_7_8_15 { s_ with v42 := v1 } _ hT)
          · skip
            intro s_ w_ hF
            have hHeld := HCell.out _ hF.toOB
            refine norm_ (a' := ?_) ?_ ?_
            rotate_left
            · simp only [putAll, Act.put, List.setIfInBounds_toArray, List.set_cons_zero, List.set_cons_succ]
              rfl
            refine two_ (i := 13) (j := 15) (Ni := some 47) (Nj := some 8) #[true, true, true, true, true, true, true, true, true, true, true, true, true, true, false, false, false] #[true, true, true, true, true, true, true, true, true, true, true, true, true, false, false, true, false] rfl rfl rfl rfl (by kernel_rfl) (by decide) (by decide) (fun K hK => ?_) (fun K hK => ?_)
            · skip
              refine Kd.N_append_rows_step dR (w0 := W) W.heap.size (by rfl) (.tmp 42) (.tmp 46) 28 23 (.slice none 0 0) 24 rfl Try.underlying28 info23 rfl (by decide) (by omega) s_.v42 (rowsAt ds ts 3) ts _ _ _ (okG _ s_) (fun k => k < W.heap.size) rfl rfl (hF.row (by decide)) (old_F HCT.out hF.bel) (hF.okp (by decide)) hF.fresh hF.bel hF.bel.size (by simp only [rowsAt, List.length_append, List.length_nil, List.length_singleton]; omega) ?_
              intro v1 w1 ho hb hg hat
              obtain ⟨A47, c47, h47⟩ := Kd.N_slice (show Kd.N dR 23 w1 W.heap.size _ v1 (rowsAt ds ts 4) from ho)
              subst h47
              have hT := OS.app hF (by decide) ho hb hg hat { s_ with A47 := A47, n47 := (rowsAt ds ts 4).length, c47 := c47 } rfl rfl rfl rfl
              refine hK.out _ _ ((HCell.out _ hT.toOB)) (fun hHeld => ?_)
              clear hK K
              refine norm_ (a' := ?_) ?_ ?_
              rotate_left
              · show Act.put _ (some 47) _ = _
                simp only [Act.put, List.setIfInBounds_toArray, List.set_cons_zero, List.set_cons_succ, i64_w, i32_w]
                rfl
              refine pure_ (i := 14) (N := some 48) (v := ?_) (a' := ?_) #[true, true, true, true, true, true, true, true, true, true, true, true, true, true, true, false, false] rfl rfl (by kernel_rfl) (fun _ _ _ h => h) (Or.inl ⟨by rfl, ?_⟩) ?_ ?_
              rotate_left
              · intro w'
                go_simp
                with_reducible rfl
              rotate_left
              · simp only [Act.put, List.setIfInBounds_toArray, List.set_cons_zero, List.set_cons_succ, i64_w, i32_w]
                rfl
              exact norm_ (by first | (simp only [putAll, Act.put, List.setIfInBounds_toArray, List.set_cons_zero, List.set_cons_succ]; done) | (simp only [putAll, Act.put, List.setIfInBounds_toArray, List.set_cons_zero, List.set_cons_succ]; rfl)) (hJ0_5_6_7_8_13 { s_ with A47 := A47, n47 := (rowsAt ds ts 4).length, c47 := c47 } _ hT)
            · skip
              refine value_ (w1 := ?_) (v := ?_) (by rfl) rfl ?_ ?_
              rotate_left 2
              · go_simp
                constructor
                · rfl
                · rfl
              have hT := OS.t8 hF
              refine hK.out _ _ ((HCell.out _ hT.toOB)) (fun hHeld => ?_)
              clear hK K
              refine norm_ (a' := ?_) ?_ ?_
              rotate_left
              · show Act.put _ (some 8) _ = _
                simp only [Act.put, List.setIfInBounds_toArray, List.set_cons_zero, List.set_cons_succ, i64_w, i32_w]
                rfl
              exact norm_ (by first | (simp only [putAll, Act.put, List.setIfInBounds_toArray, List.set_cons_zero, List.set_cons_succ]; done) | (simp only [putAll, Act.put, List.setIfInBounds_toArray, List.set_cons_zero, List.set_cons_succ]; rfl)) (hJ0_5_6_7_8_15 { s_ with g8 := w_.heap.size } _ hT)
        · skip
          intro s_ w_ hF
          have hHeld := HCell.out _ hF.toOB
          refine norm_ (a' := ?_) ?_ ?_
          rotate_left
          · simp only [putAll, Act.put, List.setIfInBounds_toArray, List.set_cons_zero, List.set_cons_succ]
            rfl
          refine one_ (i := 13) (N := some 47) #[true, true, true, true, true, true, true, true, true, true, true, true, true, true, false, true, false] rfl rfl (by kernel_rfl) (by decide) (fun K hK => ?_)
          refine Kd.N_append_rows_step dR (w0 := W) W.heap.size (by rfl) (.tmp 42) (.tmp 46) 28 23 (.slice none 0 0) 24 rfl Try.underlying28 info23 rfl (by decide) (by omega) s_.v42 (rowsAt ds ts 3) ts _ _ _ (okG _ s_) (fun k => k < W.heap.size) rfl rfl (hF.row (by decide)) (old_F HCT.out hF.bel) (hF.okp (by decide)) hF.fresh hF.bel hF.bel.size (by simp only [rowsAt, List.length_append, List.length_nil, List.length_singleton]; omega) ?_
          intro v1 w1 ho hb hg hat
          obtain ⟨A47, c47, h47⟩ := Kd.N_slice (show Kd.N dR 23 w1 W.heap.size _ v1 (rowsAt ds ts 4) from ho)
          subst h47
          have hT := OS.app hF (by decide) ho hb hg hat { s_ with A47 := A47, n47 := (rowsAt ds ts 4).length, c47 := c47 } rfl rfl rfl rfl
          refine hK.out _ _ ((HCell.out _ hT.toOB)) (fun hHeld => ?_)
          clear hK K
          refine norm_ (a' := ?_) ?_ ?_
          rotate_left
          · show Act.put _ (some 47) _ = _
            simp only [Act.put, List.setIfInBounds_toArray, List.set_cons_zero, List.set_cons_succ, i64_w, i32_w]
            rfl
          refine pure_ (i := 14) (N := some 48) (v := ?_) (a' := ?_) #[true, true, true, true, true, true, true, true, true, true, true, true, true, true, true, true, false] rfl rfl (by kernel_rfl) (fun _ _ _ h => h) (Or.inl ⟨by rfl, ?_⟩) ?_ ?_
          rotate_left
          · intro w'
            go_simp
            with_reducible rfl
          rotate_left
          · simp only [Act.put, List.setIfInBounds_toArray, List.set_cons_zero, List.set_cons_succ, i64_w, i32_w]
            rfl
          exact norm_ (by first | (simp only [putAll, Act.put, List.setIfInBounds_toArray, List.set_cons_zero, List.set_cons_succ]; done) | (simp only [putAll, Act.put, List.setIfInBounds_toArray, List.set_cons_zero, List.set_cons_succ]; rfl)) (hJ0_5_6_7_8_13_15 { s_ with A47 := A47, n47 := (rowsAt ds ts 4).length, c47 := c47 } _ hT)
      · skip
        intro s_ w_ hF
        have hHeld := HCell.out _ hF.toOB
        refine norm_ (a' := ?_) ?_ ?_
        rotate_left
        · simp only [putAll, Act.put, List.setIfInBounds_toArray, List.set_cons_zero, List.set_cons_succ]
          rfl
        refine one_ (i := 15) (N := some 8) #[true, true, true, true, true, true, true, true, true, true, true, true, true, true, true, true, false] rfl rfl (by kernel_rfl) (by decide) (fun K hK => ?_)
        refine value_ (w1 := ?_) (v := ?_) (by rfl) rfl ?_ ?_
        rotate_left 2
        · go_simp
          constructor
          · rfl
          · rfl
        have hT := OS.t8 hF
        refine hK.out _ _ ((HCell.out _ hT.toOB)) (fun hHeld => ?_)
        clear hK K
        refine norm_ (a' := ?_) ?_ ?_
        rotate_left
        · show Act.put _ (some 8) _ = _
          simp only [Act.put, List.setIfInBounds_toArray, List.set_cons_zero, List.set_cons_succ, i64_w, i32_w]
          rfl
        exact norm_ (by first | (simp only [putAll, Act.put, List.setIfInBounds_toArray, List.set_cons_zero, List.set_cons_succ]; done) | (simp only [putAll, Act.put, List.setIfInBounds_toArray, List.set_cons_zero, List.set_cons_succ]; rfl)) (hJ0_5_6_7_8_13_15 { s_ with g8 := w_.heap.size } _ hT)
    intro s_ w_ hF
    have hHeld := HCell.out _ hF.toOB
    refine norm_ (a' := ?_) ?_ ?_
    rotate_left
    · simp only [putAll, Act.put, List.setIfInBounds_toArray, List.set_cons_zero, List.set_cons_succ]
      rfl
    refine one_ (i := 16) (N := none) #[true, true, true, true, true, true, true, true, true, true, true, true, true, true, true, true, true] rfl rfl (by kernel_rfl) (by decide) (fun K hK => ?_)
    have hs := (blk1_ (hF.eight rfl).1).1
    have hfz := (blk1_ (hF.eight rfl).1).2
    refine skip_ (w1 := ?_) (by rfl) rfl ?_ ?_
    rotate_left
    · go_simp
      rfl
    have hT := OS.store hF
    refine hK.out _ _ ((HCell.out _ hT.toOB)) (fun hHeld => ?_)
    clear hK K
    refine done_ (by kernel_rfl) ?_
    -- BEHIND
    have hT : OQ x W A rs.length cap s_.g8 (.slice s_.A47 s_.n47 s_.c47) qs (w_.setCell ⟨s_.g8, 0, none⟩ (.slice s_.A47 s_.n47 s_.c47)) := by rw [← HQs.out]; exact hT
    clear hs hfz hF hHeld hcutD hcutT HCD HCT
    generalize w_.setCell ⟨s_.g8, 0, none⟩ (.slice s_.A47 s_.n47 s_.c47) = w8 at hT ⊢
    obtain ⟨v34, v39, b40, v41, b41, v42, A47, n47, c47, g8⟩ := s_
    simp only at hT ⊢
    obtain ⟨k0, k1, k2, k3, k4, k5, k6, k7⟩ := hT.toOB.cells
    have kp := HCell.out _ hT.toOB
    have HT := Lib.hid hT
    clear hT
    go_wp2_with fail
    refine (HFp.out _ HT.out.bel).mono ?_
    rintro e w9 ⟨rfl, hb⟩
    have HQ0 := Lib.hid (HT.out.below hb)
    clear hb k0 k1 k2 k3 k4 k5 k6 k7 kp HT HFp
    go_upto_region 6 with (fail)
    have hQ0 : OQ x W A rs.length cap g8 (.slice A47 n47 c47) qs w9.drew := HQ0.out.below (below_drew1 (Below.refl _ _))
    have HFq := Lib.hid (fun W' => HFq.out g8 A47 n47 c47 W')
    have HKq := Lib.hid (fun W' => HKq.out g8 A47 n47 c47 W')
    have HS := Lib.hid (show ∀ w', OQ x W A rs.length cap g8 (.slice A47 n47 c47) qs w' → w'.cell? ⟨W.heap.size, 0, none⟩ = some (.string x.nm) ∧ w'.cell? ⟨W.heap.size, 1, none⟩ = some (.int .i64 x.kd) ∧ w'.cell? ⟨W.heap.size, 2, none⟩ = some (.int .i64 x.mt) ∧ w'.cell? ⟨W.heap.size, 3, none⟩ = some (.int .i64 x.sc) ∧ w'.cell? ⟨W.heap.size, 4, none⟩ = some (.int .i64 x.cp) ∧ w'.cell? ⟨W.heap.size, 5, none⟩ = some (.int .i64 x.fl) ∧ w'.cell? ⟨W.heap.size, 6, none⟩ = some (.slice x.A x.ns.length x.c) ∧ w'.cell? ⟨W.heap.size, 7, none⟩ = some (.slice x.B x.mx.length x.e) ∧ w'.cell? ⟨Bp, 0, none⟩ = some (.slice A rs.length cap) ∧ w'.cell? ⟨g8, 0, none⟩ = some (.slice A47 n47 c47) from fun w' h => by
      obtain ⟨z0, z1, z2, z3, z4, z5, z6, z7⟩ := h.toOB.cells
      exact ⟨z0, z1, z2, z3, z4, z5, z6, z7, HCell.out _ h.toOB, (blk1_ h.qb).1⟩)
    have bz : (z == z) = true := beq_self_eq_true z
    have bm : ((m : Int) == (m : Int)) = true := beq_self_eq_true _
    go_wp2_with fail
    -- REGION
    refine start_ (n := 25) (S := fun w' => w'.cell? ⟨W.heap.size, 0, none⟩ = some (.string x.nm) ∧ w'.cell? ⟨W.heap.size, 1, none⟩ = some (.int .i64 x.kd) ∧ w'.cell? ⟨W.heap.size, 2, none⟩ = some (.int .i64 x.mt) ∧ w'.cell? ⟨W.heap.size, 3, none⟩ = some (.int .i64 x.sc) ∧ w'.cell? ⟨W.heap.size, 4, none⟩ = some (.int .i64 x.cp) ∧ w'.cell? ⟨W.heap.size, 5, none⟩ = some (.int .i64 x.fl) ∧ w'.cell? ⟨W.heap.size, 6, none⟩ = some (.slice x.A x.ns.length x.c) ∧ w'.cell? ⟨W.heap.size, 7, none⟩ = some (.slice x.B x.mx.length x.e) ∧ w'.cell? ⟨Bp, 0, none⟩ = some (.slice A rs.length cap) ∧ w'.cell? ⟨g8, 0, none⟩ = some (.slice A47 n47 c47)) (ds := []) #[false, false, false, false, false, false, false, false, false, false, false, false, false, false, false, false, false, false, false, false, false, false, false, false, false] (by kernel_rfl) rfl rfl ((HS.out _ hQ0)) (fun hHeld => ?_)
    refine pure_ (i := 3) (N := some 55) (v := ?_) (a' := ?_) #[false, false, false, true, false, false, false, false, false, false, false, false, false, false, false, false, false, false, false, false, false, false, false, false, false] rfl rfl (by kernel_rfl) (fun _ _ _ h => h) (Or.inl ⟨by rfl, ?_⟩) ?_ ?_
    rotate_left
    · intro w'
      go_simp
      with_reducible rfl
    rotate_left
    · simp only [Act.put, List.setIfInBounds_toArray, List.set_cons_zero, List.set_cons_succ, i64_w, i32_w]
      rfl
    refine take_ (i := 0) (N := some 52) (v := ?_) (a' := ?_) #[true, false, false, true, false, false, false, false, false, false, false, false, false, false, false, false, false, false, false, false, false, false, false, false, false] rfl rfl (by kernel_rfl) (fun _ _ _ h => h) (Or.inl ⟨by rfl, ?_⟩) hHeld ?_ ?_
    rotate_left
    · rintro w' ⟨s0, s1, s2, s3, s4, s5, s6, s7, s8, s9⟩
      go_simp
      with_reducible rfl
    rotate_left
    · simp only [Act.put, List.setIfInBounds_toArray, List.set_cons_zero, List.set_cons_succ, i64_w, i32_w]
      rfl
    refine take_ (i := 1) (N := some 53) (v := ?_) (a' := ?_) #[true, true, false, true, false, false, false, false, false, false, false, false, false, false, false, false, false, false, false, false, false, false, false, false, false] rfl rfl (by kernel_rfl) (fun _ _ _ h => h) (Or.inl ⟨by rfl, ?_⟩) hHeld ?_ ?_
    rotate_left
    · rintro w' ⟨s0, s1, s2, s3, s4, s5, s6, s7, s8, s9⟩
      go_simp
      with_reducible rfl
    rotate_left
    · simp only [Act.put, List.setIfInBounds_toArray, List.set_cons_zero, List.set_cons_succ, i64_w, i32_w]
      rfl
    refine one_ (i := 2) (N := some 54) #[true, true, true, true, false, false, false, false, false, false, false, false, false, false, false, false, false, false, false, false, false, false, false, false, false] rfl rfl (by kernel_rfl) (by decide) (fun K hK => ?_)
    refine goes_ Try.func13 (by kernel_rfl) rfl #[.agg #[.string x.nm, .int .i64 x.kd, .int .i64 x.mt, .int .i64 x.sc, .int .i64 x.cp, .int .i64 x.fl, .slice x.A x.ns.length x.c, .slice x.B x.mx.length x.e], .agg #[.slice A47 n47 c47]] (by rfl) rfl rfl (by simp only [List.map_toArray, List.map_cons, List.map_nil]; rfl) ?_
    with_reducible refine (HFq.out _ hQ0).mono ?_
    rintro e w3 ⟨rfl, hb⟩
    refine ⟨_, rfl, ?_⟩
    have hQ1 := OQ.below hQ0 hb
    refine hK.out _ _ ((HS.out _ hQ1)) (fun hHeld => ?_)
    clear hK K
    refine norm_ (a' := ?_) ?_ ?_
    rotate_left
    · show Act.put _ (some 54) _ = _
      simp only [Act.put, List.setIfInBounds_toArray, List.set_cons_zero, List.set_cons_succ, i64_w, i32_w]
      rfl
    refine pure_ (i := 4) (N := some 56) (v := ?_) (a' := ?_) #[true, true, true, true, true, false, false, false, false, false, false, false, false, false, false, false, false, false, false, false, false, false, false, false, false] rfl rfl (by kernel_rfl) (fun _ _ _ h => h) (Or.inl ⟨by rfl, ?_⟩) ?_ ?_
    rotate_left
    · intro w'
      go_simp
      with_reducible rfl
    rotate_left
    · simp only [Act.put, List.setIfInBounds_toArray, List.set_cons_zero, List.set_cons_succ, i64_w, i32_w]
      rfl
    refine pure_ (i := 5) (N := some 57) (v := ?_) (a' := ?_) #[true, true, true, true, true, true, false, false, false, false, false, false, false, false, false, false, false, false, false, false, false, false, false, false, false] rfl rfl (by kernel_rfl) (fun _ _ _ h => h) (Or.inl ⟨by rfl, ?_⟩) ?_ ?_
    rotate_left
    · intro w'
      go_simp
      with_reducible rfl
    rotate_left
    · simp only [Act.put, List.setIfInBounds_toArray, List.set_cons_zero, List.set_cons_succ, i64_w, i32_w]
      rfl
    refine pure_ (i := 10) (N := some 62) (v := ?_) (a' := ?_) #[true, true, true, true, true, true, false, false, false, false, true, false, false, false, false, false, false, false, false, false, false, false, false, false, false] rfl rfl (by kernel_rfl) (fun _ _ _ h => h) (Or.inl ⟨by rfl, ?_⟩) ?_ ?_
    rotate_left
    · intro w'
      go_simp
      with_reducible rfl
    rotate_left
    · simp only [Act.put, List.setIfInBounds_toArray, List.set_cons_zero, List.set_cons_succ, i64_w, i32_w]
      rfl
    refine take_ (i := 6) (N := some 58) (v := ?_) (a' := ?_) #[true, true, true, true, true, true, true, false, false, false, true, false, false, false, false, false, false, false, false, false, false, false, false, false, false] rfl rfl (by kernel_rfl) (fun _ _ _ h => h) (Or.inl ⟨by rfl, ?_⟩) hHeld ?_ ?_
    rotate_left
    · rintro w' ⟨s0, s1, s2, s3, s4, s5, s6, s7, s8, s9⟩
      go_simp
      with_reducible rfl
    rotate_left
    · simp only [Act.put, List.setIfInBounds_toArray, List.set_cons_zero, List.set_cons_succ, i64_w, i32_w]
      rfl
    refine take_ (i := 7) (N := some 59) (v := ?_) (a' := ?_) #[true, true, true, true, true, true, true, true, false, false, true, false, false, false, false, false, false, false, false, false, false, false, false, false, false] rfl rfl (by kernel_rfl) (fun _ _ _ h => h) (Or.inl ⟨by rfl, ?_⟩) hHeld ?_ ?_
    rotate_left
    · rintro w' ⟨s0, s1, s2, s3, s4, s5, s6, s7, s8, s9⟩
      go_simp
      with_reducible rfl
    rotate_left
    · simp only [Act.put, List.setIfInBounds_toArray, List.set_cons_zero, List.set_cons_succ, i64_w, i32_w]
      rfl
    refine one_ (i := 8) (N := some 60) #[true, true, true, true, true, true, true, true, true, false, true, false, false, false, false, false, false, false, false, false, false, false, false, false, false] rfl rfl (by kernel_rfl) (by decide) (fun K hK => ?_)
    refine goes_ Try.func27 (by kernel_rfl) rfl #[.agg #[.slice A rs.length cap]] (by rfl) rfl rfl (by simp only [List.map_toArray, List.map_cons, List.map_nil]; rfl) ?_
    with_reducible refine (HNm.out _ hQ1.bel).mono ?_
    rintro e w4 ⟨A60, c60, rfl, HC60, hb⟩
    refine ⟨_, rfl, ?_⟩
    have hQ2 := OQ.below hQ1 hb
    refine hK.out _ _ ((HS.out _ hQ2)) (fun hHeld => ?_)
    clear hK K
    refine norm_ (a' := ?_) ?_ ?_
    rotate_left
    · show Act.put _ (some 60) _ = _
      simp only [Act.put, List.setIfInBounds_toArray, List.set_cons_zero, List.set_cons_succ, i64_w, i32_w]
      rfl
    refine one_ (i := 9) (N := some 61) #[true, true, true, true, true, true, true, true, true, true, true, false, false, false, false, false, false, false, false, false, false, false, false, false, false] rfl rfl (by kernel_rfl) (by decide) (fun K hK => ?_)
    refine goes_ Try.func13 (by kernel_rfl) rfl #[.agg #[.string x.nm, .int .i64 x.kd, .int .i64 x.mt, .int .i64 x.sc, .int .i64 x.cp, .int .i64 x.fl, .slice x.A x.ns.length x.c, .slice x.B x.mx.length x.e], .agg #[.slice A60 (filled rs).length c60]] (by rfl) rfl rfl (by simp only [List.map_toArray, List.map_cons, List.map_nil]; rfl) ?_
    with_reducible refine (HFn.out A60 c60 _ hQ2.bel HC60).mono ?_
    rintro e w5 ⟨rfl, hb⟩
    refine ⟨_, rfl, ?_⟩
    have hQ3 := OQ.below hQ2 hb
    refine hK.out _ _ ((HS.out _ hQ3)) (fun hHeld => ?_)
    clear hK K
    refine norm_ (a' := ?_) ?_ ?_
    rotate_left
    · show Act.put _ (some 61) _ = _
      simp only [Act.put, List.setIfInBounds_toArray, List.set_cons_zero, List.set_cons_succ, i64_w, i32_w]
      rfl
    refine pure_ (i := 11) (N := some 63) (v := ?_) (a' := ?_) #[true, true, true, true, true, true, true, true, true, true, true, true, false, false, false, false, false, false, false, false, false, false, false, false, false] rfl rfl (by kernel_rfl) (fun _ _ _ h => h) (Or.inl ⟨by rfl, ?_⟩) ?_ ?_
    rotate_left
    · intro w'
      go_simp
      with_reducible rfl
    rotate_left
    · simp only [Act.put, List.setIfInBounds_toArray, List.set_cons_zero, List.set_cons_succ, i64_w, i32_w]
      rfl
    refine pure_ (i := 12) (N := some 64) (v := ?_) (a' := ?_) #[true, true, true, true, true, true, true, true, true, true, true, true, true, false, false, false, false, false, false, false, false, false, false, false, false] rfl rfl (by kernel_rfl) (fun _ _ _ h => h) (Or.inl ⟨by rfl, ?_⟩) ?_ ?_
    rotate_left
    · intro w'
      go_simp
      with_reducible rfl
    rotate_left
    · simp only [Act.put, List.setIfInBounds_toArray, List.set_cons_zero, List.set_cons_succ, i64_w, i32_w]
      rfl
    refine pure_ (i := 13) (N := some 65) (v := ?_) (a' := ?_) #[true, true, true, true, true, true, true, true, true, true, true, true, true, true, false, false, false, false, false, false, false, false, false, false, false] rfl rfl (by kernel_rfl) (fun _ _ _ h => h) (Or.inl ⟨by rfl, ?_⟩) ?_ ?_
    rotate_left
    · intro w'
      go_simp
      with_reducible rfl
    rotate_left
    · simp only [Act.put, List.setIfInBounds_toArray, List.set_cons_zero, List.set_cons_succ, i64_w, i32_w]
      rfl
    refine take_ (i := 14) (N := some 66) (v := ?_) (a' := ?_) #[true, true, true, true, true, true, true, true, true, true, true, true, true, true, true, false, false, false, false, false, false, false, false, false, false] rfl rfl (by kernel_rfl) (fun _ _ _ h => h) (Or.inl ⟨by rfl, ?_⟩) hHeld ?_ ?_
    rotate_left
    · rintro w' ⟨s0, s1, s2, s3, s4, s5, s6, s7, s8, s9⟩
      go_simp
      with_reducible rfl
    rotate_left
    · simp only [Act.put, List.setIfInBounds_toArray, List.set_cons_zero, List.set_cons_succ, i64_w, i32_w]
      rfl
    refine take_ (i := 15) (N := some 67) (v := ?_) (a' := ?_) #[true, true, true, true, true, true, true, true, true, true, true, true, true, true, true, true, false, false, false, false, false, false, false, false, false] rfl rfl (by kernel_rfl) (fun _ _ _ h => h) (Or.inl ⟨by rfl, ?_⟩) hHeld ?_ ?_
    rotate_left
    · rintro w' ⟨s0, s1, s2, s3, s4, s5, s6, s7, s8, s9⟩
      go_simp
      with_reducible rfl
    rotate_left
    · simp only [Act.put, List.setIfInBounds_toArray, List.set_cons_zero, List.set_cons_succ, i64_w, i32_w]
      rfl
    refine take_ (i := 18) (N := some 70) (v := ?_) (a' := ?_) #[true, true, true, true, true, true, true, true, true, true, true, true, true, true, true, true, false, false, true, false, false, false, false, false, false] rfl rfl (by kernel_rfl) (fun _ _ _ h => h) (Or.inl ⟨by rfl, ?_⟩) hHeld ?_ ?_
    rotate_left
    · rintro w' ⟨s0, s1, s2, s3, s4, s5, s6, s7, s8, s9⟩
      go_simp
      with_reducible rfl
    rotate_left
    · simp only [Act.put, List.setIfInBounds_toArray, List.set_cons_zero, List.set_cons_succ, i64_w, i32_w]
      rfl
    refine take_ (i := 19) (N := some 71) (v := ?_) (a' := ?_) #[true, true, true, true, true, true, true, true, true, true, true, true, true, true, true, true, false, false, true, true, false, false, false, false, false] rfl rfl (by kernel_rfl) (fun _ _ _ h => h) (Or.inl ⟨by rfl, ?_⟩) hHeld ?_ ?_
    rotate_left
    · rintro w' ⟨s0, s1, s2, s3, s4, s5, s6, s7, s8, s9⟩
      go_simp
      with_reducible rfl
    rotate_left
    · simp only [Act.put, List.setIfInBounds_toArray, List.set_cons_zero, List.set_cons_succ, i64_w, i32_w]
      rfl
    refine one_ (i := 16) (N := some 68) #[true, true, true, true, true, true, true, true, true, true, true, true, true, true, true, true, true, false, true, true, false, false, false, false, false] rfl rfl (by kernel_rfl) (by decide) (fun K hK => ?_)
    refine goes_ Try.func14 (by kernel_rfl) rfl #[.agg #[.string x.nm, .int .i64 x.kd, .int .i64 x.mt, .int .i64 x.sc, .int .i64 x.cp, .int .i64 x.fl, .slice x.A x.ns.length x.c, .slice x.B x.mx.length x.e], .agg #[.slice A47 n47 c47]] (by rfl) rfl rfl (by simp only [List.map_toArray, List.map_cons, List.map_nil]; rfl) ?_
    with_reducible refine (HKq.out _ hQ3).mono ?_
    rintro e w6 ⟨A68, c68, rfl, hb⟩
    refine ⟨_, rfl, ?_⟩
    have hQ4 := OQ.below hQ3 hb
    refine hK.out _ _ ((HS.out _ hQ4)) (fun hHeld => ?_)
    clear hK K
    refine norm_ (a' := ?_) ?_ ?_
    rotate_left
    · show Act.put _ (some 68) _ = _
      simp only [Act.put, List.setIfInBounds_toArray, List.set_cons_zero, List.set_cons_succ, i64_w, i32_w]
      rfl
    refine pure_ (i := 17) (N := some 69) (v := ?_) (a' := ?_) #[true, true, true, true, true, true, true, true, true, true, true, true, true, true, true, true, true, true, true, true, false, false, false, false, false] rfl rfl (by kernel_rfl) (fun _ _ _ h => h) (Or.inl ⟨by rfl, ?_⟩) ?_ ?_
    rotate_left
    · intro w'
      go_simp
      with_reducible rfl
    rotate_left
    · simp only [Act.put, List.setIfInBounds_toArray, List.set_cons_zero, List.set_cons_succ, i64_w, i32_w]
      rfl
    refine one_ (i := 20) (N := some 72) #[true, true, true, true, true, true, true, true, true, true, true, true, true, true, true, true, true, true, true, true, true, false, false, false, false] rfl rfl (by kernel_rfl) (by decide) (fun K hK => ?_)
    refine goes_ Try.func14 (by kernel_rfl) rfl #[.agg #[.string x.nm, .int .i64 x.kd, .int .i64 x.mt, .int .i64 x.sc, .int .i64 x.cp, .int .i64 x.fl, .slice x.A x.ns.length x.c, .slice x.B x.mx.length x.e], .agg #[.slice A rs.length cap]] (by rfl) rfl rfl (by simp only [List.map_toArray, List.map_cons, List.map_nil]; rfl) ?_
    with_reducible refine (HKp.out _ hQ4.bel).mono ?_
    rintro e w7 ⟨A72, c72, rfl, hb⟩
    refine ⟨_, rfl, ?_⟩
    have hQ5 := OQ.below hQ4 hb
    refine hK.out _ _ ((HS.out _ hQ5)) (fun hHeld => ?_)
    clear hK K
    refine norm_ (a' := ?_) ?_ ?_
    rotate_left
    · show Act.put _ (some 72) _ = _
      simp only [Act.put, List.setIfInBounds_toArray, List.set_cons_zero, List.set_cons_succ, i64_w, i32_w]
      rfl
    refine pure_ (i := 21) (N := some 73) (v := ?_) (a' := ?_) #[true, true, true, true, true, true, true, true, true, true, true, true, true, true, true, true, true, true, true, true, true, true, false, false, false] rfl rfl (by kernel_rfl) (fun _ _ _ h => h) (Or.inl ⟨by rfl, ?_⟩) ?_ ?_
    rotate_left
    · intro w'
      go_simp
      with_reducible rfl
    rotate_left
    · simp only [Act.put, List.setIfInBounds_toArray, List.set_cons_zero, List.set_cons_succ, i64_w, i32_w]
      rfl
    refine pure_ (i := 22) (N := some 74) (v := ?_) (a' := ?_) #[true, true, true, true, true, true, true, true, true, true, true, true, true, true, true, true, true, true, true, true, true, true, true, false, false] rfl rfl (by kernel_rfl) (fun _ _ _ h => h) (Or.inl ⟨by rfl, ?_⟩) ?_ ?_
    rotate_left
    · intro w'
      go_simp
      with_reducible rfl
    rotate_left
    · simp only [Act.put, List.setIfInBounds_toArray, List.set_cons_zero, List.set_cons_succ, i64_w, i32_w]
      rfl
    refine pure_ (i := 23) (N := some 75) (v := ?_) (a' := ?_) #[true, true, true, true, true, true, true, true, true, true, true, true, true, true, true, true, true, true, true, true, true, true, true, true, false] rfl rfl (by kernel_rfl) (fun _ _ _ h => h) (Or.inl ⟨by rfl, ?_⟩) ?_ ?_
    rotate_left
    · intro w'
      go_simp
      with_reducible rfl
    rotate_left
    · simp only [Act.put, List.setIfInBounds_toArray, List.set_cons_zero, List.set_cons_succ, i64_w, i32_w]
      rfl
    refine pure_ (i := 24) (N := some 6) (v := ?_) (a' := ?_) #[true, true, true, true, true, true, true, true, true, true, true, true, true, true, true, true, true, true, true, true, true, true, true, true, true] rfl rfl (by kernel_rfl) (fun _ _ _ h => h) (Or.inl ⟨by rfl, ?_⟩) ?_ ?_
    rotate_left
    · intro w'
      go_simp
      with_reducible rfl
    rotate_left
    · simp only [Act.put, List.setIfInBounds_toArray, List.set_cons_zero, List.set_cons_succ, i64_w, i32_w]
      rfl
    refine done_ (by kernel_rfl) ?_
    -- BEHIND
    have HE5 := Lib.hid hQ5.bel
    clear hQ0 hQ1 hQ2 hQ3 hQ4 hQ5 hHeld HS
    go_wp2
    go_ret
    exact ⟨rfl, HE5.out⟩
end FeasO
end Go.Proofs.Ytlncbckpcmojpaa
