/- What the reference of layer 8 asks of an instance: its walks, question by question. -/
import Derived.Test.YtlncbckpcmojpaaMka
import Derived.Lib.Hide
set_option linter.unusedVariables false
set_option linter.unusedSimpArgs false
namespace Go.Proofs.Ytlncbckpcmojpaa
open Go.RowKit Go.Proofs.YtlncbckpcmojpaaW.PrintWords Go.Proofs.YtlncbckpcmojpaaW.PrintLast Go.Proofs.YtlncbckpcmojpaaW.PrintMore P
namespace Ref08
theorem ret_b {a b : Bool} (h : a = b) : Ending.returned (.bool a) = .returned (.bool b) := by rw [h]
theorem num_some (n : Int) : entrepotref08_number.f n = some (numB n) := by
  unfold entrepotref08_number.f numB
  by_cases h : n ≥ 0
  · rw [if_pos h]; congr 1; rw [decide_eq_decide]; omega
  · rw [if_neg h, decide_eq_false (by omega)]
theorem sig_some (n : Int) : entrepotref08_signed.f n = some (sigB n) := by
  unfold entrepotref08_signed.f sigB
  by_cases h : n ≥ -100000000
  · rw [if_pos h]; congr 1; rw [decide_eq_decide]; omega
  · rw [if_neg h, decide_eq_false (by omega)]
theorem known_some (n : Int) : entrepotref06_Known.f n = some (knownB n) := by
  unfold entrepotref06_Known.f knownB
  by_cases h : n ≥ 0
  · rw [if_pos h]; congr 1; rw [decide_eq_decide]; omega
  · rw [if_neg h, decide_eq_false (by omega)]
theorem known_c (m : Int) (W : World) : Calls Try.prog 64 #[.int .i64 m] W fun e w' => e = .returned (.bool (knownB m)) ∧ Below W.heap.size W w' :=
  (P.entrepotref06_Known.calls m _ W (known_some m)).mono (fun _ _ ⟨h, ⟨n, e⟩⟩ => ⟨h, by rw [e]; exact pw_below_drewN (Below.refl _ _) n⟩)
theorem num_c (m : Int) (W : World) : Calls Try.prog 88 #[.int .i64 m] W fun e w' => e = .returned (.bool (numB m)) ∧ Below W.heap.size W w' :=
  (P.entrepotref08_number.calls m _ W (num_some m)).mono (fun _ _ ⟨h, ⟨n, e⟩⟩ => ⟨h, by rw [e]; exact pw_below_drewN (Below.refl _ _) n⟩)
theorem sig_c (m : Int) (W : World) : Calls Try.prog 89 #[.int .i64 m] W fun e w' => e = .returned (.bool (sigB m)) ∧ Below W.heap.size W w' :=
  (P.entrepotref08_signed.calls m _ W (sig_some m)).mono (fun _ _ ⟨h, ⟨n, e⟩⟩ => ⟨h, by rw [e]; exact pw_below_drewN (Below.refl _ _) n⟩)
/-- An instance of the reference, and where its rows lie. -/
structure In where
  nm : ByteArray
  kd : Int
  mt : Int
  sc : Int
  cp : Int
  fl : Int
  A : Option Addr
  c : Nat
  ns : List Node
  B : Option Addr
  e : Nat
  mx : List Int
def In.val (x : In) : Value := .agg #[.string x.nm, .int .i64 x.kd, .int .i64 x.mt, .int .i64 x.sc, .int .i64 x.cp, .int .i64 x.fl, .slice x.A x.ns.length x.c, .slice x.B x.mx.length x.e]
structure In.rows (x : In) (W : World) : Prop where
  a : Kd.C k77 W x.A x.ns.length x.ns
  b : x.ns.length ≤ x.c
  c : Kd.C (Kd.int .i64) W x.B x.mx.length x.mx
  d : x.mx.length ≤ x.e
theorem In.rows_below {x : In} {W W' : World} (h : x.rows W) (hb : Below W.heap.size W W') : x.rows W' := ⟨Kd.C_below h.a hb, h.b, Kd.C_below h.c hb, h.d⟩
theorem old_cell {W w' : World} {a : Addr} {v : Value} (hb : Below W.heap.size W w') (h : W.cell? a = some v) : w'.cell? a = some v := (hb.cell (World.block_lt_of_cell? _ _ h)).trans h
/-- A node of an instance that has just been copied. -/
theorem node_at (x : In) (i : Nat) (W : World) (h : x.rows W) (hi : i < x.ns.length) : ∃ (ad : Addr) (W1 : World), x.A = some ad ∧ W.alloc (.cells #[.string x.nm, .int .i64 x.kd, .int .i64 x.mt, .int .i64 x.sc, .int .i64 x.cp, .int .i64 x.fl, .slice (some ad) x.ns.length x.c, .slice x.B x.mx.length x.e] 46) = W1 ∧ Below W.heap.size W W1 ∧
    W1.cell? ⟨W.heap.size, 1, none⟩ = some (.int .i64 x.kd) ∧ W1.cell? ⟨W.heap.size, 2, none⟩ = some (.int .i64 x.mt) ∧ W1.cell? ⟨W.heap.size, 6, none⟩ = some (.slice (some ad) x.ns.length x.c) ∧
    (∀ j : Nat, j < x.ns.length → W1.cell? (ad.add (j * 7)) = some (.int .i64 (rdN x.ns (j : Int)).f0) ∧ W1.cell? ⟨(ad.add (j * 7)).block, (ad.add (j * 7)).off + 1, none⟩ = some (.int .i64 (rdN x.ns (j : Int)).f1) ∧ W1.cell? ⟨(ad.add (j * 7)).block, (ad.add (j * 7)).off + 2, none⟩ = some (.int .i64 (rdN x.ns (j : Int)).f2) ∧
      W1.cell? ⟨(ad.add (j * 7)).block, (ad.add (j * 7)).off + 3, none⟩ = some (.int .i64 (rdN x.ns (j : Int)).f3) ∧ W1.cell? ⟨(ad.add (j * 7)).block, (ad.add (j * 7)).off + 4, none⟩ = some (.int .i64 (rdN x.ns (j : Int)).f4) ∧ W1.cell? ⟨(ad.add (j * 7)).block, (ad.add (j * 7)).off + 5, none⟩ = some (.int .i64 (rdN x.ns (j : Int)).f5) ∧
      W1.cell? ⟨(ad.add (j * 7)).block, (ad.add (j * 7)).off + 6, none⟩ = some (.int .i64 (rdN x.ns (j : Int)).f6)) := by
  have bK := heap_alloc_new W (.cells #[.string x.nm, .int .i64 x.kd, .int .i64 x.mt, .int .i64 x.sc, .int .i64 x.cp, .int .i64 x.fl, .slice x.A x.ns.length x.c, .slice x.B x.mx.length x.e] 46)
  have hr1 := Kd.C_alloc h.a (.cells #[.string x.nm, .int .i64 x.kd, .int .i64 x.mt, .int .i64 x.sc, .int .i64 x.cp, .int .i64 x.fl, .slice x.A x.ns.length x.c, .slice x.B x.mx.length x.e] 46)
  obtain ⟨k0, k1, k2, k3, k4, k5, k6, k7, -⟩ := blk8_ bK
  obtain ⟨ad, e1, -⟩ := at_T77 hr1 (i : Int) (by omega) (by omega)
  refine ⟨ad, W.alloc (.cells #[.string x.nm, .int .i64 x.kd, .int .i64 x.mt, .int .i64 x.sc, .int .i64 x.cp, .int .i64 x.fl, .slice x.A x.ns.length x.c, .slice x.B x.mx.length x.e] 46), e1, by rw [e1], (Below.refl _ W).alloc (Nat.le_refl _) _, k1, k2, by rw [← e1]; exact k6, fun j hj => ?_⟩
  obtain ⟨ad2, e2, c⟩ := at_T77 hr1 (j : Int) (by omega) (by omega)
  rw [e1] at e2
  cases e2
  rw [Int.toNat_natCast] at c
  exact c
set_option maxHeartbeats 4000000 in
set_option maxRecDepth 100000 in
theorem service_c (x : In) (i : Nat) (W : World) (h : x.rows W) (hi : i < x.ns.length) : Calls Try.prog 69 #[x.val, .int .i64 (i : Int)] W fun e w' => e = .returned (.bool (serviceB x.kd (rdN x.ns (i : Int)))) ∧ Below W.heap.size W w' := by
  obtain ⟨ad, W1, e1, hW, hB, k1, k2, k6, hc⟩ := node_at x i W h hi
  obtain ⟨d0, d1, d2, d3, d4, d5, d6⟩ := hc i hi
  unfold In.val
  have HW := Lib.hid hW
  have HB := Lib.hid hB
  have HC := Lib.hid hc
  have p1 : (0 : Int) ≤ (i : Int) ∧ (i : Int) < (x.ns.length : Int) := by omega
  clear hW hB hc h k2 d0 d1 d2 d3 d4 d6
  have HS := Lib.hid (show serviceB x.kd (rdN x.ns (i : Int)) = if x.kd = 1 ∨ x.kd = 2 then decide ((rdN x.ns (i : Int)).f5 = 0) else numB (rdN x.ns (i : Int)).f5 from rfl)
  generalize serviceB x.kd (rdN x.ns (i : Int)) = R at *
  generalize (rdN x.ns (i : Int)).f5 = a at *
  go_enter Try.func69, Try.ntmps69
  go_upto_region 1 with (fail)
  rw [HW.out]
  by_cases h1 : x.kd = 1
  · have b1 : (x.kd == 1) = true := beq_iff_eq.2 h1
    have HN := Lib.hid (HS.out.trans (if_pos (.inl h1)))
    clear h1
    go_wp2
    go_ret
    exact ⟨ret_b HN.out.symm, HB.out⟩
  · have b1 : (x.kd == 1) = false := beq_eq_false_iff_ne.2 h1
    by_cases h2 : x.kd = 2
    · have b2 : (x.kd == 2) = true := beq_iff_eq.2 h2
      have HN := Lib.hid (HS.out.trans (if_pos (.inr h2)))
      clear h1 h2
      go_wp2
      go_ret
      exact ⟨ret_b HN.out.symm, HB.out⟩
    · have b2 : (x.kd == 2) = false := beq_eq_false_iff_ne.2 h2
      have HN := Lib.hid (HS.out.trans (if_neg (fun e => e.elim h1 h2)))
      clear h1 h2
      go_wp2_with fail
      refine (num_c a _).mono ?_
      rintro e w2 ⟨rfl, hb⟩
      have HE := Lib.hid (below_step HB.out hb)
      clear hb
      go_wp2
      go_ret
      exact ⟨ret_b HN.out.symm, HE.out⟩
set_option maxHeartbeats 4000000 in
set_option maxRecDepth 100000 in
theorem demand_c (x : In) (i : Nat) (W : World) (h : x.rows W) (hi : i < x.ns.length) : Calls Try.prog 67 #[x.val, .int .i64 (i : Int)] W fun e w' => e = .returned (.bool (demandB x.kd i (rdN x.ns (i : Int)))) ∧ Below W.heap.size W w' := by
  obtain ⟨ad, W1, e1, hW, hB, k1, k2, k6, hc⟩ := node_at x i W h hi
  obtain ⟨d0, d1, d2, d3, d4, d5, d6⟩ := hc i hi
  unfold In.val
  have HW := Lib.hid hW
  have HB := Lib.hid hB
  have HC := Lib.hid hc
  have p1 : (0 : Int) ≤ (i : Int) ∧ (i : Int) < (x.ns.length : Int) := by omega
  clear hW hB hc h k2 d0 d1 d3 d4 d5 d6
  have HS := Lib.hid (show demandB x.kd i (rdN x.ns (i : Int)) = if x.kd = 1 ∨ i = 0 then decide ((rdN x.ns (i : Int)).f2 = 0) else numB (rdN x.ns (i : Int)).f2 || (decide (x.kd = 4) && sigB (rdN x.ns (i : Int)).f2) from rfl)
  generalize demandB x.kd i (rdN x.ns (i : Int)) = R at *
  generalize (rdN x.ns (i : Int)).f2 = a at *
  go_enter Try.func67, Try.ntmps67
  go_upto_region 1 with (fail)
  rw [HW.out]
  by_cases h1 : x.kd = 1
  · have b1 : (x.kd == 1) = true := beq_iff_eq.2 h1
    have HN := Lib.hid (HS.out.trans (if_pos (.inl h1)))
    clear h1
    go_wp2
    go_ret
    exact ⟨ret_b HN.out.symm, HB.out⟩
  · have b1 : (x.kd == 1) = false := beq_eq_false_iff_ne.2 h1
    by_cases h2 : i = 0
    · have b2 : ((i : Int) == 0) = true := beq_iff_eq.2 (by omega)
      have HN := Lib.hid (HS.out.trans (if_pos (.inr h2)))
      clear h1 h2
      go_wp2
      go_ret
      exact ⟨ret_b HN.out.symm, HB.out⟩
    · have b2 : ((i : Int) == 0) = false := beq_eq_false_iff_ne.2 (by omega)
      have HN := Lib.hid (HS.out.trans (if_neg (fun e => e.elim h1 h2)))
      clear h1 h2
      go_wp2_with fail
      refine (num_c a _).mono ?_
      rintro e w2 ⟨rfl, hb⟩
      have k12 := old_cell hb k1
      have HE := Lib.hid (below_step HB.out hb)
      clear hb
      cases hn : numB a with
      | true =>
        have HN := Lib.hid (HN.out.trans (by rw [hn]; rfl : _ = true))
        clear hn
        go_wp2
        go_ret
        exact ⟨ret_b HN.out.symm, HE.out⟩
      | false =>
        have HN := Lib.hid (HN.out.trans (by rw [hn]; rfl : _ = (decide (x.kd = 4) && sigB a)))
        clear hn
        by_cases h4 : x.kd = 4
        · have b4 : (x.kd == 4) = true := beq_iff_eq.2 h4
          have HN := Lib.hid (HN.out.trans (by rw [decide_eq_true h4]; rfl : _ = sigB a))
          clear h4
          go_wp2_with fail
          refine (sig_c a _).mono ?_
          rintro e w3 ⟨rfl, hb⟩
          have HE3 := Lib.hid (below_step HE.out hb)
          clear hb
          go_wp2
          go_ret
          exact ⟨ret_b HN.out.symm, HE3.out⟩
        · have b4 : (x.kd == 4) = false := beq_eq_false_iff_ne.2 h4
          have HN := Lib.hid (HN.out.trans (by rw [decide_eq_false h4]; rfl : _ = false))
          clear h4
          go_wp2
          go_ret
          exact ⟨ret_b HN.out.symm, HE.out⟩
set_option maxHeartbeats 4000000 in
set_option maxRecDepth 100000 in
theorem window_c (x : In) (i : Nat) (W : World) (h : x.rows W) (hi : i < x.ns.length) : Calls Try.prog 68 #[x.val, .int .i64 (i : Int)] W fun e w' => e = .returned (.bool (windowB x.kd (rdN x.ns (i : Int)))) ∧ Below W.heap.size W w' := by
  obtain ⟨ad, W1, e1, hW, hB, k1, k2, k6, hc⟩ := node_at x i W h hi
  obtain ⟨d0, d1, d2, d3, d4, d5, d6⟩ := hc i hi
  unfold In.val
  have HW := Lib.hid hW
  have HB := Lib.hid hB
  have HC := Lib.hid hc
  have p1 : (0 : Int) ≤ (i : Int) ∧ (i : Int) < (x.ns.length : Int) := by omega
  clear hW hB hc h 
  generalize hd : rdN x.ns (i : Int) = d at *
  clear hd
  have bD := heap_alloc_new W1 (.cells #[.int .i64 d.f0, .int .i64 d.f1, .int .i64 d.f2, .int .i64 d.f3, .int .i64 d.f4, .int .i64 d.f5, .int .i64 d.f6] 77)
  have hB2 : Below W1.heap.size W1 (W1.alloc (.cells #[.int .i64 d.f0, .int .i64 d.f1, .int .i64 d.f2, .int .i64 d.f3, .int .i64 d.f4, .int .i64 d.f5, .int .i64 d.f6] 77)) := (Below.refl _ W1).alloc (Nat.le_refl _) _
  generalize hW2 : W1.alloc (.cells #[.int .i64 d.f0, .int .i64 d.f1, .int .i64 d.f2, .int .i64 d.f3, .int .i64 d.f4, .int .i64 d.f5, .int .i64 d.f6] 77) = W2 at *
  have q1 := old_cell hB2 k1
  have q2 := old_cell hB2 k2
  have HB2 := Lib.hid (below_step HB.out hB2)
  obtain ⟨z0, z1, z2, z3, z4, z5, z6, -⟩ := blk7_ bD
  obtain ⟨Kd, hKd⟩ : ∃ Kd, W1.heap.size = Kd := ⟨_, rfl⟩
  rw [hKd] at z0 z1 z2 z3 z4 z5 z6
  have HW2 := Lib.hid hW2
  have HKd := Lib.hid hKd
  clear bD hB2 hW2 hKd
  go_enter Try.func68, Try.ntmps68
  go_upto_region 1 with (fail)
  rw [HW.out]
  go_upto_region 2 with (fail)
  rw [HW2.out, HKd.out]
  clear d0 d1 d2 d3 d4 d5 d6 k1 k2 k6
  have HS := Lib.hid (show windowB x.kd d = if x.kd = 1 ∨ x.kd = 2 then decide (d.f3 = 0 ∧ d.f4 = 0) else numB d.f3 && numB d.f4 && decide (d.f3 ≤ d.f4) from rfl)
  by_cases h1 : x.kd = 1
  · have bh1 : (x.kd == 1) = true := beq_iff_eq.2 h1
    by_cases h3 : d.f3 = 0
    · have bh3 : (d.f3 == 0) = true := beq_iff_eq.2 h3
      have HN := Lib.hid (HS.out.trans ((if_pos (.inl h1)).trans (by rw [Bool.eq_iff_iff, decide_eq_true_eq, beq_iff_eq]; exact ⟨fun e => e.2, fun e => ⟨h3, e⟩⟩ : _ = (d.f4 == 0))))
      clear h1 h3
      go_wp2
      go_ret
      exact ⟨ret_b HN.out.symm, HB2.out⟩
    · have bh3 : (d.f3 == 0) = false := beq_eq_false_iff_ne.2 h3
      have HN := Lib.hid (HS.out.trans ((if_pos (.inl h1)).trans (decide_eq_false (fun e => h3 e.1))))
      clear h1 h3
      go_wp2
      go_ret
      exact ⟨ret_b HN.out.symm, HB2.out⟩
  · have bh1 : (x.kd == 1) = false := beq_eq_false_iff_ne.2 h1
    by_cases h2 : x.kd = 2
    · have bh2 : (x.kd == 2) = true := beq_iff_eq.2 h2
      by_cases h3 : d.f3 = 0
      · have bh3 : (d.f3 == 0) = true := beq_iff_eq.2 h3
        have HN := Lib.hid (HS.out.trans ((if_pos (.inr h2)).trans (by rw [Bool.eq_iff_iff, decide_eq_true_eq, beq_iff_eq]; exact ⟨fun e => e.2, fun e => ⟨h3, e⟩⟩ : _ = (d.f4 == 0))))
        clear h1 h2 h3
        go_wp2
        go_ret
        exact ⟨ret_b HN.out.symm, HB2.out⟩
      · have bh3 : (d.f3 == 0) = false := beq_eq_false_iff_ne.2 h3
        have HN := Lib.hid (HS.out.trans ((if_pos (.inr h2)).trans (decide_eq_false (fun e => h3 e.1))))
        clear h1 h2 h3
        go_wp2
        go_ret
        exact ⟨ret_b HN.out.symm, HB2.out⟩
    · have bh2 : (x.kd == 2) = false := beq_eq_false_iff_ne.2 h2
      go_wp2_with fail
      refine (num_c d.f3 _).mono ?_
      rintro e wb ⟨rfl, hb⟩
      have q1 := old_cell hb q1
      have z3 := old_cell hb z3
      have z4 := old_cell hb z4
      have HB3 := Lib.hid (below_step HB2.out hb)
      clear hb
      have HS := Lib.hid (HS.out.trans (if_neg (fun e => e.elim h1 h2)))
      clear h1 h2
      cases hv : numB d.f3 with
      | true =>
        have HS := Lib.hid (HS.out.trans (by rw [hv]; rfl : _ = (numB d.f4 && decide (d.f3 ≤ d.f4))))
        clear hv
        go_wp2_with fail
        refine (num_c d.f4 _).mono ?_
        rintro e wb ⟨rfl, hb⟩
        have q1 := old_cell hb q1
        have z3 := old_cell hb z3
        have z4 := old_cell hb z4
        have HB4 := Lib.hid (below_step HB3.out hb)
        clear hb
        cases hv : numB d.f4 with
        | true =>
          have HS := Lib.hid (HS.out.trans (by rw [hv]; rfl : _ = decide (d.f3 ≤ d.f4)))
          clear hv
          have HN := Lib.hid (HS.out.trans (rfl))
          go_wp2
          go_ret
          exact ⟨ret_b HN.out.symm, HB4.out⟩
        | false =>
          have HN := Lib.hid (HS.out.trans (by rw [hv]; rfl : _ = false))
          clear hv
          go_wp2
          go_ret
          exact ⟨ret_b HN.out.symm, HB4.out⟩
      | false =>
        have HN := Lib.hid (HS.out.trans (by rw [hv]; rfl : _ = false))
        clear hv
        go_wp2
        go_ret
        exact ⟨ret_b HN.out.symm, HB3.out⟩
set_option maxHeartbeats 4000000 in
set_option maxRecDepth 100000 in
theorem coord_c (x : In) (i : Nat) (W : World) (h : x.rows W) (hi : i < x.ns.length) : Calls Try.prog 66 #[x.val, .int .i64 (i : Int)] W fun e w' => e = .returned (.bool (coordB x.mt (rdN x.ns (i : Int)))) ∧ Below W.heap.size W w' := by
  obtain ⟨ad, W1, e1, hW, hB, k1, k2, k6, hc⟩ := node_at x i W h hi
  obtain ⟨d0, d1, d2, d3, d4, d5, d6⟩ := hc i hi
  unfold In.val
  have HW := Lib.hid hW
  have HB := Lib.hid hB
  have HC := Lib.hid hc
  have p1 : (0 : Int) ≤ (i : Int) ∧ (i : Int) < (x.ns.length : Int) := by omega
  clear hW hB hc h 
  generalize hd : rdN x.ns (i : Int) = d at *
  clear hd
  have bD := heap_alloc_new W1 (.cells #[.int .i64 d.f0, .int .i64 d.f1, .int .i64 d.f2, .int .i64 d.f3, .int .i64 d.f4, .int .i64 d.f5, .int .i64 d.f6] 77)
  have hB2 : Below W1.heap.size W1 (W1.alloc (.cells #[.int .i64 d.f0, .int .i64 d.f1, .int .i64 d.f2, .int .i64 d.f3, .int .i64 d.f4, .int .i64 d.f5, .int .i64 d.f6] 77)) := (Below.refl _ W1).alloc (Nat.le_refl _) _
  generalize hW2 : W1.alloc (.cells #[.int .i64 d.f0, .int .i64 d.f1, .int .i64 d.f2, .int .i64 d.f3, .int .i64 d.f4, .int .i64 d.f5, .int .i64 d.f6] 77) = W2 at *
  have q1 := old_cell hB2 k1
  have q2 := old_cell hB2 k2
  have HB2 := Lib.hid (below_step HB.out hB2)
  obtain ⟨z0, z1, z2, z3, z4, z5, z6, -⟩ := blk7_ bD
  obtain ⟨Kd, hKd⟩ : ∃ Kd, W1.heap.size = Kd := ⟨_, rfl⟩
  rw [hKd] at z0 z1 z2 z3 z4 z5 z6
  have HW2 := Lib.hid hW2
  have HKd := Lib.hid hKd
  clear bD hB2 hW2 hKd
  go_enter Try.func66, Try.ntmps66
  go_upto_region 1 with (fail)
  rw [HW.out]
  go_upto_region 2 with (fail)
  rw [HW2.out, HKd.out]
  clear d0 d1 d2 d3 d4 d5 d6 k1 k2 k6
  have HS := Lib.hid (show coordB x.mt d = (sigB d.f0 && sigB d.f1 && (decide (x.mt ≠ 0) || decide (d.f0 = 0 ∧ d.f1 = 0))) from rfl)
  go_wp2_with fail
  refine (sig_c d.f0 _).mono ?_
  rintro e wb ⟨rfl, hb⟩
  have q2 := old_cell hb q2
  have z0 := old_cell hb z0
  have z1 := old_cell hb z1
  have HB3 := Lib.hid (below_step HB2.out hb)
  clear hb
  cases hv : sigB d.f0 with
  | true =>
    have HS := Lib.hid (HS.out.trans (by rw [hv, Bool.true_and] : _ = (sigB d.f1 && (decide (x.mt ≠ 0) || decide (d.f0 = 0 ∧ d.f1 = 0)))))
    clear hv
    go_wp2_with fail
    refine (sig_c d.f1 _).mono ?_
    rintro e wb ⟨rfl, hb⟩
    have q2 := old_cell hb q2
    have z0 := old_cell hb z0
    have z1 := old_cell hb z1
    have HB4 := Lib.hid (below_step HB3.out hb)
    clear hb
    cases hv : sigB d.f1 with
    | true =>
      have HS := Lib.hid (HS.out.trans (by rw [hv, Bool.true_and] : _ = (decide (x.mt ≠ 0) || decide (d.f0 = 0 ∧ d.f1 = 0))))
      clear hv
      by_cases h0 : x.mt = 0
      · have bh0 : (x.mt == 0) = true := beq_iff_eq.2 h0
        have nh0 : (x.mt != 0) = false := bne_eq_false_iff_eq.2 h0
        by_cases h3 : d.f0 = 0
        · have bh3 : (d.f0 == 0) = true := beq_iff_eq.2 h3
          have HN := Lib.hid (HS.out.trans (by rw [decide_eq_false (fun e => e h0), Bool.false_or, Bool.eq_iff_iff, decide_eq_true_eq, beq_iff_eq]; exact ⟨fun e => e.2, fun e => ⟨h3, e⟩⟩ : _ = (d.f1 == 0)))
          clear h0 h3
          go_wp2
          go_ret
          exact ⟨ret_b HN.out.symm, HB4.out⟩
        · have bh3 : (d.f0 == 0) = false := beq_eq_false_iff_ne.2 h3
          have HN := Lib.hid (HS.out.trans (by rw [decide_eq_false (fun e => e h0), Bool.false_or, decide_eq_false (fun e => h3 e.1)] : _ = false))
          clear h0 h3
          go_wp2
          go_ret
          exact ⟨ret_b HN.out.symm, HB4.out⟩
      · have bh0 : (x.mt == 0) = false := beq_eq_false_iff_ne.2 h0
        have nh0 : (x.mt != 0) = true := bne_iff_ne.2 h0
        have HN := Lib.hid (HS.out.trans (by rw [decide_eq_true h0]; rfl : _ = true))
        clear h0
        go_wp2
        go_ret
        exact ⟨ret_b HN.out.symm, HB4.out⟩
    | false =>
      have HN := Lib.hid (HS.out.trans (by rw [hv]; rfl : _ = false))
      clear hv
      go_wp2
      go_ret
      exact ⟨ret_b HN.out.symm, HB4.out⟩
  | false =>
    have HN := Lib.hid (HS.out.trans (by rw [hv]; rfl : _ = false))
    clear hv
    go_wp2
    go_ret
    exact ⟨ret_b HN.out.symm, HB3.out⟩
set_option maxHeartbeats 4000000 in
set_option maxRecDepth 100000 in
theorem mate_c (x : In) (i : Nat) (W : World) (h : x.rows W) (hi : i < x.ns.length) : Calls Try.prog 70 #[x.val, .int .i64 (i : Int)] W fun e w' => e = .returned (.bool (mateB x.kd x.ns i)) ∧ Below W.heap.size W w' := by
  obtain ⟨ad, W1, e1, hW, hB, k1, k2, k6, hc⟩ := node_at x i W h hi
  obtain ⟨d0, d1, d2, d3, d4, d5, d6⟩ := hc i hi
  unfold In.val
  have HW := Lib.hid hW
  have HB := Lib.hid hB
  have HC := Lib.hid hc
  have p1 : (0 : Int) ≤ (i : Int) ∧ (i : Int) < (x.ns.length : Int) := by omega
  clear hW hB hc h k2 d0 d1 d3 d4 d5
  have HS := Lib.hid (show mateB x.kd x.ns i = if x.kd = 4 ∧ i ≠ 0 then decide (1 ≤ (rdN x.ns (i : Int)).f6 ∧ (rdN x.ns (i : Int)).f6 < (x.ns.length : Int) ∧ (rdN x.ns (i : Int)).f6 ≠ (i : Int) ∧ (rdN x.ns (rdN x.ns (i : Int)).f6).f6 = (i : Int) ∧ (rdN x.ns (i : Int)).f2 ≠ 0 ∧ (rdN x.ns (rdN x.ns (i : Int)).f6).f2 = wrap64 (-(rdN x.ns (i : Int)).f2)) else decide ((rdN x.ns (i : Int)).f6 = 0) from rfl)
  generalize mateB x.kd x.ns i = R at *
  generalize (rdN x.ns (i : Int)).f6 = m at *
  generalize (rdN x.ns (i : Int)).f2 = a at *
  go_enter Try.func70, Try.ntmps70
  go_upto_region 1 with (fail)
  rw [HW.out]
  by_cases h1 : x.kd = 4
  · have bh1 : (x.kd == 4) = true := beq_iff_eq.2 h1
    have nh1 : (x.kd != 4) = false := bne_eq_false_iff_eq.2 h1
    by_cases h2 : i = 0
    · have bh2 : ((i : Int) == 0) = true := beq_iff_eq.2 (by omega)
      have HN := Lib.hid (HS.out.trans (if_neg (fun e => e.2 h2)))
      clear h1 h2
      go_wp2
      go_ret
      exact ⟨ret_b HN.out.symm, HB.out⟩
    · have bh2 : ((i : Int) == 0) = false := beq_eq_false_iff_ne.2 (by omega)
      by_cases h3 : m < 1
      · have bh3 : decide (m < 1) = true := decide_eq_true h3
        have HN := Lib.hid (HS.out.trans ((if_pos ⟨h1, h2⟩).trans (decide_eq_false (fun e => by omega))))
        clear h1 h2 h3
        go_wp2
        go_ret
        exact ⟨ret_b HN.out.symm, HB.out⟩
      · have bh3 : decide (m < 1) = false := decide_eq_false h3
        by_cases h4 : m ≥ (x.ns.length : Int)
        · have bh4 : decide (m ≥ (x.ns.length : Int)) = true := decide_eq_true h4
          have HN := Lib.hid (HS.out.trans ((if_pos ⟨h1, h2⟩).trans (decide_eq_false (fun e => by omega))))
          clear h1 h2 h3 h4
          go_wp2
          go_ret
          exact ⟨ret_b HN.out.symm, HB.out⟩
        · have bh4 : decide (m ≥ (x.ns.length : Int)) = false := decide_eq_false h4
          by_cases h5 : m = (i : Int)
          · have bh5 : (m == (i : Int)) = true := beq_iff_eq.2 h5
            have HN := Lib.hid (HS.out.trans ((if_pos ⟨h1, h2⟩).trans (decide_eq_false (fun e => e.2.2.1 h5))))
            clear h1 h2 h3 h4 h5
            go_wp2
            go_ret
            exact ⟨ret_b HN.out.symm, HB.out⟩
          · have bh5 : (m == (i : Int)) = false := beq_eq_false_iff_ne.2 h5
            obtain ⟨j, rfl⟩ : ∃ j : Nat, m = (j : Int) := ⟨m.toNat, by omega⟩
            obtain ⟨-, -, y2, -, -, -, y6⟩ := HC.out j (by omega)
            have p2 : (0 : Int) ≤ (j : Int) ∧ (j : Int) < (x.ns.length : Int) := by omega
            generalize (rdN x.ns (j : Int)).f6 = mm at *
            generalize (rdN x.ns (j : Int)).f2 = aa at *
            by_cases h6 : mm = (i : Int)
            · have bh6 : (mm == (i : Int)) = true := beq_iff_eq.2 h6
              have nh6 : (mm != (i : Int)) = false := bne_eq_false_iff_eq.2 h6
              by_cases h7 : a = 0
              · have bh7 : (a == 0) = true := beq_iff_eq.2 h7
                have nh7 : (a != 0) = false := bne_eq_false_iff_eq.2 h7
                have HN := Lib.hid (HS.out.trans ((if_pos ⟨h1, h2⟩).trans (decide_eq_false (fun e => e.2.2.2.2.1 h7))))
                clear h1 h2 h3 h4 h5 h6 h7
                go_wp2
                go_region
                go_wp2
                go_ret
                exact ⟨ret_b HN.out.symm, below_drew1 HB.out⟩
              · have bh7 : (a == 0) = false := beq_eq_false_iff_ne.2 h7
                have nh7 : (a != 0) = true := bne_iff_ne.2 h7
                obtain ⟨q, hq⟩ : ∃ q, wrap64 (-a) = q := ⟨_, rfl⟩
                have HQ := (i64_w _).trans hq
                have HN := Lib.hid (HS.out.trans ((if_pos ⟨h1, h2⟩).trans (by rw [hq, Bool.eq_iff_iff, decide_eq_true_eq, beq_iff_eq]; exact ⟨fun e => e.2.2.2.2.2, fun e => ⟨by omega, by omega, h5, h6, h7, e⟩⟩ : _ = (aa == q))))
                clear h1 h2 h3 h4 h5 h6 h7 hq
                go_wp2
                go_region
                go_wp2
                go_ret
                exact ⟨ret_b HN.out.symm, below_drew1 HB.out⟩
            · have bh6 : (mm == (i : Int)) = false := beq_eq_false_iff_ne.2 h6
              have nh6 : (mm != (i : Int)) = true := bne_iff_ne.2 h6
              have HN := Lib.hid (HS.out.trans ((if_pos ⟨h1, h2⟩).trans (decide_eq_false (fun e => h6 e.2.2.2.1))))
              clear h1 h2 h3 h4 h5 h6
              go_wp2
              go_ret
              exact ⟨ret_b HN.out.symm, HB.out⟩
  · have bh1 : (x.kd == 4) = false := beq_eq_false_iff_ne.2 h1
    have nh1 : (x.kd != 4) = true := bne_iff_ne.2 h1
    have HN := Lib.hid (HS.out.trans (if_neg (fun e => h1 e.1)))
    clear h1
    go_wp2
    go_ret
    exact ⟨ret_b HN.out.symm, HB.out⟩
set_option maxHeartbeats 4000000 in
set_option maxRecDepth 100000 in
theorem matrix_c (x : In) (W : World) (h : x.rows W) (hn : x.ns.length ≤ 400) : Calls Try.prog 65 #[x.val] W fun e w' => e = .returned (.bool (matrixB x.mt x.ns.length x.mx)) ∧ Below W.heap.size W w' := by
  obtain ⟨nm, kd, mt, sc, cp, fl, A, c, ns, B, e0, mx⟩ := x
  obtain ⟨-, -, hmr, -⟩ := h
  unfold In.val
  simp only at hmr hn ⊢
  have bK := heap_alloc_new W (.cells #[.string nm, .int .i64 kd, .int .i64 mt, .int .i64 sc, .int .i64 cp, .int .i64 fl, .slice A ns.length c, .slice B mx.length e0] 46)
  have hm1 := Kd.C_alloc hmr (.cells #[.string nm, .int .i64 kd, .int .i64 mt, .int .i64 sc, .int .i64 cp, .int .i64 fl, .slice A ns.length c, .slice B mx.length e0] 46)
  have hW0 : Below W.heap.size W (W.alloc (.cells #[.string nm, .int .i64 kd, .int .i64 mt, .int .i64 sc, .int .i64 cp, .int .i64 fl, .slice A ns.length c, .slice B mx.length e0] 46)) := (Below.refl _ W).alloc (Nat.le_refl _) _
  generalize hW1 : W.alloc (.cells #[.string nm, .int .i64 kd, .int .i64 mt, .int .i64 sc, .int .i64 cp, .int .i64 fl, .slice A ns.length c, .slice B mx.length e0] 46) = W1 at *
  have HW := Lib.hid hW1
  have HB := Lib.hid hW0
  have HM := Lib.hid hm1
  obtain ⟨k0, k1, k2, k3, k4, k5, k6, k7, -⟩ := blk8_ bK
  have HS := Lib.hid (show matrixB mt ns.length mx = if mt = 0 then decide (mx.length = ns.length * ns.length) && (List.range (ns.length * ns.length)).all (cellB ns.length mx) else decide (mx.length = 0) from rfl)
  generalize matrixB mt ns.length mx = R at *
  have hsq : ns.length * ns.length ≤ 400 * 400 := Nat.mul_le_mul hn hn
  obtain ⟨n, hnn⟩ : ∃ n, ns.length = n := ⟨_, rfl⟩
  rw [hnn] at HS hn hsq k6 ⊢ 
  obtain ⟨N, hN⟩ : ∃ N, n * n = N := ⟨_, rfl⟩
  rw [hN] at HS hsq
  have hw : IntKind.i64.wrap ((n : Int) * (n : Int)) = (N : Int) := by rw [i64_w, ← Int.natCast_mul, hN]; unfold wrap64; omega
  have hw1 : IntKind.i64.wrap ((n : Int) + 1) = ((n + 1 : Nat) : Int) := by rw [i64_w]; unfold wrap64; omega
  have HNN := Lib.hid hnn
  clear hW1 hW0 hm1 bK hmr k0 k1 k3 k4 k5 hN hnn
  go_enter Try.func65, Try.ntmps65
  go_upto_region 1 with (fail)
  rw [← HNN.out, HW.out]
  by_cases h0 : mt = 0
  · have b0 : (mt == 0) = true := beq_iff_eq.2 h0
    have n0 : (mt != 0) = false := bne_eq_false_iff_eq.2 h0
    have HS := Lib.hid (HS.out.trans (if_pos h0))
    clear h0
    by_cases hm : mx.length = N
    · have bm : ((mx.length : Int) != (N : Int)) = false := bne_eq_false_iff_eq.2 (by omega)
      have HS := Lib.hid (HS.out.trans (by rw [decide_eq_true hm, Bool.true_and] : _ = (List.range N).all (cellB n mx)))
      have HI0 : Aside0 ((∀ j, j < 0 → cellB n mx j = true) ∧ Below W1.heap.size W1 W1) := ⟨fun j hj => by omega, Below.refl _ _⟩
      go_wp2
      have HMm := Lib.hid hm
      clear hm
      go_loopw [4] (fun v4 wr => ∃ k : Nat, v4 = .int .i64 k ∧ k ≤ N ∧ Aside0 ((∀ j, j < k → cellB n mx j = true) ∧ Below W1.heap.size W1 wr)) (fun v4 wr => N - (intOf v4).toNat)
      case atStart => exact ⟨0, rfl, Nat.zero_le _, HI0⟩
      case round =>
        obtain ⟨k, rfl, hk, HK⟩ := hrel
        clear HI0
        have hmm := HMm.out
        by_cases hlt : k < N
        · have bt : decide ((k : Int) < (N : Int)) = true := decide_eq_true (by omega)
          obtain ⟨al, e1, cl⟩ := Kd.at_int (Kd.C_below HM.out HK.out.2) (k : Int) (by omega) (by omega)
          cases e1
          rw [Int.toNat_natCast] at cl
          have q7 := old_cell HK.out.2 k7
          have p2 : (0 : Int) ≤ (k : Int) ∧ (k : Int) < (mx.length : Int) := by omega
          clear hmm
          have HC := Lib.hid (show cellB n mx k = (numB (rd mx (k : Int)) && (decide (k % (n + 1) ≠ 0) || decide (rd mx (k : Int) = 0))) from rfl)
          obtain ⟨cb, hcb⟩ : ∃ cb, cellB n mx k = cb := ⟨_, rfl⟩
          rw [hcb] at HC
          have HC0 := Lib.hid hcb
          clear hcb
          generalize rd mx (k : Int) = a at *
          go_wp2_with fail
          refine (num_c a _).mono ?_
          rintro e wb ⟨rfl, hb⟩
          have cl2 := old_cell hb cl
          have q72 := old_cell hb q7
          have HK2 := Lib.hid (below_step HK.out.2 hb)
          clear hb cl q7
          cases hv : numB a with
          | false =>
            have HN := Lib.hid (show R = false from by
              rw [HS.out, List.all_eq_false]
              exact ⟨k, List.mem_range.2 hlt, by rw [HC0.out, HC.out, hv]; exact Bool.false_ne_true⟩)
            clear hv
            go_wp2
            go_ret
            exact ⟨ret_b HN.out.symm, below_step HB.out HK2.out⟩
          | true =>
            have HC := Lib.hid (HC.out.trans (by rw [hv, Bool.true_and] : _ = (decide (k % (n + 1) ≠ 0) || decide (a = 0))))
            clear hv
            have em : (k : Int) % ((n : Int) + 1) = ((k % (n + 1) : Nat) : Int) := by rw [Int.natCast_emod]; rfl
            have next : cb = true → ((∀ j, j < k + 1 → cellB n mx j = true) ∧ Below W1.heap.size W1 wb) := fun hc => ⟨fun j hj => by
              by_cases e : j = k
              · rw [e, HC0.out]; exact hc
              · exact HK.out.1 j (by omega), HK2.out⟩
            by_cases hr : k % (n + 1) = 0
            · have br : ((k : Int) % ((n : Int) + 1) == 0) = true := beq_iff_eq.2 (by rw [em]; omega)
              by_cases ha : a = 0
              · have ba : (a != 0) = false := bne_eq_false_iff_eq.2 ha
                have HJ := Lib.hid (next (by rw [HC.out, decide_eq_true ha, Bool.or_true]))
                clear hr ha next em
                go_wp2
                go_roundw
                case rel => exact ⟨k + 1, by go_num, by omega, ⟨HJ.out⟩⟩
                case measure => simp [intOf]; omega
              · have ba : (a != 0) = true := bne_iff_ne.2 ha
                have HN := Lib.hid (show R = false from by
                  rw [HS.out, List.all_eq_false]
                  exact ⟨k, List.mem_range.2 hlt, by rw [HC0.out, HC.out, decide_eq_false (fun e => e hr), decide_eq_false ha]; exact Bool.false_ne_true⟩)
                clear hr ha next em
                go_wp2
                go_ret
                exact ⟨ret_b HN.out.symm, below_step HB.out HK2.out⟩
            · have br : ((k : Int) % ((n : Int) + 1) == 0) = false := beq_eq_false_iff_ne.2 (by rw [em]; omega)
              have HJ := Lib.hid (next (by rw [HC.out, decide_eq_true hr, Bool.true_or]))
              clear hr next em
              go_wp2
              go_roundw
              case rel => exact ⟨k + 1, by go_num, by omega, ⟨HJ.out⟩⟩
              case measure => simp [intOf]; omega
        · have bt : decide ((k : Int) < (N : Int)) = false := decide_eq_false (by omega)
          obtain rfl : k = N := by omega
          clear hmm
          have HN := Lib.hid (show R = true from by rw [HS.out, List.all_eq_true]; exact fun j hj => HK.out.1 j (List.mem_range.1 hj))
          have HE := Lib.hid (below_step HB.out HK.out.2)
          clear HK
          go_wp2
          go_ret
          exact ⟨ret_b HN.out.symm, HE.out⟩
    · have bm : ((mx.length : Int) != (N : Int)) = true := bne_iff_ne.2 (by omega)
      have HN := Lib.hid (HS.out.trans (by rw [decide_eq_false hm, Bool.false_and] : _ = false))
      clear hm
      go_wp2
      go_ret
      exact ⟨ret_b HN.out.symm, HB.out⟩
  · have b0 : (mt == 0) = false := beq_eq_false_iff_ne.2 h0
    have n0 : (mt != 0) = true := bne_iff_ne.2 h0
    have HN := Lib.hid ((HS.out.trans (if_neg h0)).trans (by rw [Bool.eq_iff_iff, decide_eq_true_eq, beq_iff_eq]; omega : _ = ((mx.length : Int) == 0)))
    clear h0
    go_wp2
    go_ret
    exact ⟨ret_b HN.out.symm, HB.out⟩
theorem bt_nat {s : ByteArray} {pos : Nat} (h : pos < s.size) : bt s (pos : Int) = ((s[pos]'h).toNat : Int) := by
  unfold bt; rw [Int.toNat_natCast, dif_pos h]
theorem name_no {s : ByteArray} {k : Nat} (h : k < s.size) (hn : ¬ okP (bt s (k : Int))) : nameB s = false := by
  unfold nameB
  rw [show (List.range s.size).all (fun i : Nat => decide (okP (bt s (i : Int)))) = false from List.all_eq_false.2 ⟨k, List.mem_range.2 h, by simpa using hn⟩]; rfl
theorem name_yes {s : ByteArray} (h : ∀ j, j < s.size → okP (bt s (j : Int))) : nameB s = decide (1 ≤ s.size ∧ s.size ≤ 40) := by
  unfold nameB
  rw [show (List.range s.size).all (fun i : Nat => decide (okP (bt s (i : Int)))) = true from List.all_eq_true.2 fun j hj => decide_eq_true (h j (List.mem_range.1 hj))]; rfl
set_option maxHeartbeats 4000000 in
set_option maxRecDepth 100000 in
theorem name_c (s : ByteArray) (W : World) (hs : s.size ≤ 4611686018427387904) : Calls Try.prog 63 #[.string s] W fun e w' => e = .returned (.bool (nameB s)) ∧ Below W.heap.size W w' := by
  have HNo := Lib.hid (fun k => name_no (s := s) (k := k))
  have HYes := Lib.hid (name_yes (s := s))
  generalize nameB s = R at *
  have HI0 : Aside0 ((∀ j, j < 0 → okP (bt s ((j : Nat) : Int))) ∧ Below W.heap.size W W) := ⟨fun j hj => by omega, Below.refl _ _⟩
  go_enter Try.func63, Try.ntmps63
  go_wp2
  go_loopw [3] (fun v3 wr => ∃ k : Nat, v3 = .int .i64 k ∧ k ≤ s.size ∧ Aside0 ((∀ j, j < k → okP (bt s (j : Int))) ∧ Below W.heap.size W wr)) (fun v3 wr => s.size - (intOf v3).toNat)
  case atStart => exact ⟨0, rfl, Nat.zero_le _, HI0⟩
  case round =>
    obtain ⟨k, rfl, hk, HK⟩ := hrel
    clear HI0
    by_cases hlt : k < s.size
    · have bt0 : decide ((k : Int) < (s.size : Int)) = true := decide_eq_true (by omega)
      have p4 : (0 : Int) ≤ (k : Int) ∧ (k : Int) < (s.size : Int) := by omega
      have HOk := Lib.hid (HNo.out k hlt)
      have HNx := Lib.hid (show okP (bt s (k : Int)) → ((∀ j, j < k + 1 → okP (bt s (j : Int))) ∧ Below W.heap.size W wr) from fun hc => ⟨fun j hj => by
        by_cases e : j = k
        · rw [e]; exact hc
        · exact HK.out.1 j (by omega), HK.out.2⟩)
      rw [bt_nat hlt] at HOk HNx
      go_upto_region 5 with (fail)
      generalize ((s[k]'hlt).toNat : Int) = c at *
      obtain ⟨bb, hbb⟩ : ∃ bb, (!decide (okP c)) = bb := ⟨_, rfl⟩
      have HBB := Lib.hid hbb
      clear hbb
      go_cut [47] (fun vb wc => vb = .bool bb ∧ wc = wr)
      case first =>
        by_cases h1 : c < 65
        · by_cases h3 : c < 48
          · by_cases h4 : c = 46
            · have ho : (!decide (okP c)) = false := by rw [decide_eq_true (show okP c from by unfold okP; omega)]; rfl
              have f1 : decide (c < 65) = true := decide_eq_true (by omega)
              have f2 : decide (c < 97) = true := decide_eq_true (by omega)
              have f3 : decide (c < 48) = true := decide_eq_true (by omega)
              have f4 : (c != 46) = false := bne_eq_false_iff_eq.2 (by omega)
              have HO := Lib.hid ho
              clear ho h1 h3 h4
              go_wp2
              go_meet
              exact ⟨by rw [← HBB.out, HO.out], rfl⟩
            · by_cases h5 : c = 45
              · have ho : (!decide (okP c)) = false := by rw [decide_eq_true (show okP c from by unfold okP; omega)]; rfl
                have f1 : decide (c < 65) = true := decide_eq_true (by omega)
                have f2 : decide (c < 97) = true := decide_eq_true (by omega)
                have f3 : decide (c < 48) = true := decide_eq_true (by omega)
                have f4 : (c != 46) = true := bne_iff_ne.2 (by omega)
                have f5 : (c != 95) = true := bne_iff_ne.2 (by omega)
                have f6 : (c != 45) = false := bne_eq_false_iff_eq.2 (by omega)
                have HO := Lib.hid ho
                clear ho h1 h3 h4 h5
                go_wp2
                go_meet
                exact ⟨by rw [← HBB.out, HO.out], rfl⟩
              · have ho : (!decide (okP c)) = true := by rw [decide_eq_false (show ¬ okP c from by unfold okP; omega)]; rfl
                have f1 : decide (c < 65) = true := decide_eq_true (by omega)
                have f2 : decide (c < 97) = true := decide_eq_true (by omega)
                have f3 : decide (c < 48) = true := decide_eq_true (by omega)
                have f4 : (c != 46) = true := bne_iff_ne.2 (by omega)
                have f5 : (c != 95) = true := bne_iff_ne.2 (by omega)
                have f6 : (c != 45) = true := bne_iff_ne.2 (by omega)
                have HO := Lib.hid ho
                clear ho h1 h3 h4 h5
                go_wp2
                go_meet
                exact ⟨by rw [← HBB.out, HO.out], rfl⟩
          · by_cases h4 : c ≤ 57
            · have ho : (!decide (okP c)) = false := by rw [decide_eq_true (show okP c from by unfold okP; omega)]; rfl
              have f1 : decide (c < 65) = true := decide_eq_true (by omega)
              have f2 : decide (c < 97) = true := decide_eq_true (by omega)
              have f3 : decide (c < 48) = false := decide_eq_false (by omega)
              have f4 : decide (57 < c) = false := decide_eq_false (by omega)
              have HO := Lib.hid ho
              clear ho h1 h3 h4
              go_wp2
              go_meet
              exact ⟨by rw [← HBB.out, HO.out], rfl⟩
            · have ho : (!decide (okP c)) = true := by rw [decide_eq_false (show ¬ okP c from by unfold okP; omega)]; rfl
              have f1 : decide (c < 65) = true := decide_eq_true (by omega)
              have f2 : decide (c < 97) = true := decide_eq_true (by omega)
              have f3 : decide (c < 48) = false := decide_eq_false (by omega)
              have f4 : decide (57 < c) = true := decide_eq_true (by omega)
              have f5 : (c != 46) = true := bne_iff_ne.2 (by omega)
              have f6 : (c != 95) = true := bne_iff_ne.2 (by omega)
              have f7 : (c != 45) = true := bne_iff_ne.2 (by omega)
              have HO := Lib.hid ho
              clear ho h1 h3 h4
              go_wp2
              go_meet
              exact ⟨by rw [← HBB.out, HO.out], rfl⟩
        · by_cases h2 : c ≤ 90
          · have ho : (!decide (okP c)) = false := by rw [decide_eq_true (show okP c from by unfold okP; omega)]; rfl
            have f1 : decide (c < 65) = false := decide_eq_false (by omega)
            have f2 : decide (90 < c) = false := decide_eq_false (by omega)
            have HO := Lib.hid ho
            clear ho h1 h2
            go_wp2
            go_meet
            exact ⟨by rw [← HBB.out, HO.out], rfl⟩
          · by_cases h3 : c < 97
            · by_cases h4 : c = 95
              · have ho : (!decide (okP c)) = false := by rw [decide_eq_true (show okP c from by unfold okP; omega)]; rfl
                have f1 : decide (c < 65) = false := decide_eq_false (by omega)
                have f2 : decide (90 < c) = true := decide_eq_true (by omega)
                have f3 : decide (c < 97) = true := decide_eq_true (by omega)
                have f4 : decide (c < 48) = false := decide_eq_false (by omega)
                have f5 : decide (57 < c) = true := decide_eq_true (by omega)
                have f6 : (c != 46) = true := bne_iff_ne.2 (by omega)
                have f7 : (c != 95) = false := bne_eq_false_iff_eq.2 (by omega)
                have HO := Lib.hid ho
                clear ho h1 h2 h3 h4
                go_wp2
                go_meet
                exact ⟨by rw [← HBB.out, HO.out], rfl⟩
              · have ho : (!decide (okP c)) = true := by rw [decide_eq_false (show ¬ okP c from by unfold okP; omega)]; rfl
                have f1 : decide (c < 65) = false := decide_eq_false (by omega)
                have f2 : decide (90 < c) = true := decide_eq_true (by omega)
                have f3 : decide (c < 97) = true := decide_eq_true (by omega)
                have f4 : decide (c < 48) = false := decide_eq_false (by omega)
                have f5 : decide (57 < c) = true := decide_eq_true (by omega)
                have f6 : (c != 46) = true := bne_iff_ne.2 (by omega)
                have f7 : (c != 95) = true := bne_iff_ne.2 (by omega)
                have f8 : (c != 45) = true := bne_iff_ne.2 (by omega)
                have HO := Lib.hid ho
                clear ho h1 h2 h3 h4
                go_wp2
                go_meet
                exact ⟨by rw [← HBB.out, HO.out], rfl⟩
            · by_cases h4 : c ≤ 122
              · have ho : (!decide (okP c)) = false := by rw [decide_eq_true (show okP c from by unfold okP; omega)]; rfl
                have f1 : decide (c < 65) = false := decide_eq_false (by omega)
                have f2 : decide (90 < c) = true := decide_eq_true (by omega)
                have f3 : decide (c < 97) = false := decide_eq_false (by omega)
                have f4 : decide (122 < c) = false := decide_eq_false (by omega)
                have HO := Lib.hid ho
                clear ho h1 h2 h3 h4
                go_wp2
                go_meet
                exact ⟨by rw [← HBB.out, HO.out], rfl⟩
              · have ho : (!decide (okP c)) = true := by rw [decide_eq_false (show ¬ okP c from by unfold okP; omega)]; rfl
                have f1 : decide (c < 65) = false := decide_eq_false (by omega)
                have f2 : decide (90 < c) = true := decide_eq_true (by omega)
                have f3 : decide (c < 97) = false := decide_eq_false (by omega)
                have f4 : decide (122 < c) = true := decide_eq_true (by omega)
                have f5 : decide (c < 48) = false := decide_eq_false (by omega)
                have f6 : decide (57 < c) = true := decide_eq_true (by omega)
                have f7 : (c != 46) = true := bne_iff_ne.2 (by omega)
                have f8 : (c != 95) = true := bne_iff_ne.2 (by omega)
                have f9 : (c != 45) = true := bne_iff_ne.2 (by omega)
                have HO := Lib.hid ho
                clear ho h1 h2 h3 h4
                go_wp2
                go_meet
                exact ⟨by rw [← HBB.out, HO.out], rfl⟩
      rename_i wc
      obtain ⟨rfl, hwc⟩ := hcut
      subst hwc
      cases bb with
      | false =>
        have HJ := Lib.hid (HNx.out (by have h := HBB.out; simpa using h))
        go_wp2
        go_roundw
        case rel => exact ⟨k + 1, by go_num, by omega, ⟨HJ.out⟩⟩
        case measure => simp [intOf]; omega
      | true =>
        have HN := Lib.hid (And.intro (HOk.out (by have h := HBB.out; simpa using h)) HK.out.2)
        go_wp2
        go_ret
        exact ⟨ret_b HN.out.1.symm, HN.out.2⟩
    · have bt0 : decide ((k : Int) < (s.size : Int)) = false := decide_eq_false (by omega)
      obtain rfl : k = s.size := by omega
      have HN := Lib.hid (And.intro (HYes.out HK.out.1) HK.out.2)
      clear HK
      by_cases h1 : (s.size : Int) ≥ 1
      · have b1 : decide ((s.size : Int) ≥ 1) = true := decide_eq_true h1
        have HV := Lib.hid (HN.out.1.trans (show decide (1 ≤ s.size ∧ s.size ≤ 40) = decide ((s.size : Int) ≤ 40) from by rw [decide_eq_decide]; omega))
        clear h1
        go_wp2
        go_ret
        exact ⟨ret_b HV.out.symm, HN.out.2⟩
      · have b1 : decide ((s.size : Int) ≥ 1) = false := decide_eq_false h1
        have HV := Lib.hid (HN.out.1.trans (show decide (1 ≤ s.size ∧ s.size ≤ 40) = false from decide_eq_false (by omega)))
        clear h1
        go_wp2
        go_ret
        exact ⟨ret_b HV.out.symm, HN.out.2⟩
end Ref08
end Go.Proofs.Ytlncbckpcmojpaa
