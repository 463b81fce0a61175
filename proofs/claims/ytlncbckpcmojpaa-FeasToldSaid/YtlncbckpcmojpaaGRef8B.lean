/- What the reference of layer 8 asks of an instance: its walks, question by question. -/
import Derived.Test.YtlncbckpcmojpaaMka
import Derived.Test.YtlncbckpcmojpaaMkh
namespace Go.Proofs.Ytlncbckpcmojpaa
open Go.RowKit Go.Proofs.YtlncbckpcmojpaaW.PrintWords P
namespace Ref08
theorem name_from (s : ByteArray) (hs : s.size ≤ 4611686018427387904) (d : Nat) : ∀ i : Nat, i + d = s.size → Ev (fun k => entrepotref03_Name.l0 k s (i : Int)) ((List.range' i d).all (fun i : Nat => decide (okP (bt s (i : Int)))) && decide (1 ≤ s.size ∧ s.size ≤ 40)) := by
  induction d with
  | zero =>
    intro i hi
    refine Ev.step (fun _ => entrepotref03_Name.l0.eq_2 ..) (Ev.neg (by omega) ?_)
    by_cases h : (s.size : Int) ≥ 1
    · refine Ev.pos h (Ev.this ?_)
      rw [List.range'_zero, List.all_nil, Bool.true_and]
      congr 1; rw [decide_eq_decide]; omega
    · refine Ev.neg h (Ev.this ?_)
      rw [decide_eq_false (by omega), Bool.and_false]
  | succ d ih =>
    intro i hi
    have next := ih (i + 1) (by omega)
    refine Ev.step (fun _ => entrepotref03_Name.l0.eq_2 ..) (Ev.pos (by omega) (Ev.pos (by omega) ?_))
    rw [w64s (by omega), List.range'_succ, List.all_cons]
    generalize bt s (i : Int) = c at *
    refine Ev.congr (f := fun k => if okP c then entrepotref03_Name.l0 k s ((i + 1 : Nat) : Int) else some false) (fun k => ?_) ?_
    · by_cases h : okP c
      · rw [if_pos h]
        unfold okP at h
        repeat' split
        all_goals first | rfl | (exfalso; omega)
      · rw [if_neg h]
        unfold okP at h
        repeat' split
        all_goals first | rfl | (exfalso; omega)
    · by_cases h : okP c
      · refine Ev.pos h ?_
        rw [decide_eq_true h, Bool.true_and]; exact next
      · refine Ev.neg h (Ev.this ?_)
        rw [decide_eq_false h, Bool.false_and, Bool.false_and]
theorem name_ev (s : ByteArray) (hs : s.size ≤ 4611686018427387904) : Ev (fun k => entrepotref03_Name.f k s) (nameB s) := by
  have h := name_from s hs s.size 0 (by omega)
  rw [← List.range_eq_range'] at h
  exact h

theorem num_some (n : Int) : entrepotref08_number.f n = some (numB n) := by
  unfold entrepotref08_number.f numB
  by_cases h : n ≥ 0
  · rw [if_pos h]; congr 1; rw [decide_eq_decide]; omega
  · rw [if_neg h, decide_eq_false (by omega)]
theorem sig_some (n : Int) : entrepotref08_signed.f n = some (sigB n) := by
  unfold entrepotref08_signed.f sigB
  by_cases h : n ≥ -100000000
  · rw [if_pos h]; congr 1; rw [decide_eq_decide]; omega
  · rw [if_neg h, decide_eq_false (by omega)]
theorem known_some (n : Int) : entrepotref06_Known.f n = some (knownB n) := by
  unfold entrepotref06_Known.f knownB
  by_cases h : n ≥ 0
  · rw [if_pos h]; congr 1; rw [decide_eq_decide]; omega
  · rw [if_neg h, decide_eq_false (by omega)]

variable (nm : ByteArray) (kd mt sc cp fl : Int) (ns : List Node) (mx : List Int)
theorem matrix_from (hn : ns.length ≤ 400) (hm : mx.length = ns.length * ns.length) (d : Nat) : ∀ i : Nat, i + d = ns.length * ns.length →
    Ev (fun k => entrepotref08_matrix.l0 k (ns.length : Int) (i : Int) nm kd mt sc cp fl ns mx) ((List.range' i d).all (cellB ns.length mx)) := by
  have hsq : ns.length * ns.length ≤ 400 * 400 := Nat.mul_le_mul hn hn
  have hw : wrap64 ((ns.length : Int) * (ns.length : Int)) = ((ns.length * ns.length : Nat) : Int) := by rw [← Int.natCast_mul]; exact w64 (by omega) (by omega)
  induction d with
  | zero =>
    intro i hi
    refine Ev.step (fun _ => entrepotref08_matrix.l0.eq_2 ..) (Ev.neg (by rw [hw]; omega) (Ev.now _))
  | succ d ih =>
    intro i hi
    have next := ih (i + 1) (by omega)
    refine Ev.step (fun _ => entrepotref08_matrix.l0.eq_2 ..) (Ev.pos (by rw [hw]; omega) (Ev.pos (by omega) (Ev.pos (by omega) (Ev.bs (num_some _) ?_))))
    rw [w64s (i := i) (by omega), w64s (i := ns.length) (by omega), List.range'_succ, List.all_cons, show Int.tmod (i : Int) ((ns.length + 1 : Nat) : Int) = ((i % (ns.length + 1) : Nat) : Int) from rfl]
    unfold cellB at next ⊢
    by_cases h : numB (rd mx (i : Int)) = true
    · refine Ev.pos h (Ev.neg (by omega) ?_)
      rw [h, Bool.true_and]
      by_cases h2 : i % (ns.length + 1) = 0
      · refine Ev.pos (by omega) ?_
        rw [decide_eq_false (by omega), Bool.false_or]
        by_cases h3 : rd mx (i : Int) = 0
        · refine Ev.pos h3 ?_
          rw [decide_eq_true h3, Bool.true_and]; exact next
        · refine Ev.neg h3 (Ev.this ?_)
          rw [decide_eq_false h3, Bool.false_and]
      · refine Ev.neg (by omega) ?_
        rw [decide_eq_true (by omega), Bool.true_or, Bool.true_and]; exact next
    · refine Ev.neg h (Ev.this ?_)
      rw [Bool.eq_false_iff.2 h, Bool.false_and, Bool.false_and]
theorem matrix_ev (hn : ns.length ≤ 400) : Ev (fun k => entrepotref08_matrix.f k nm kd mt sc cp fl ns mx) (matrixB mt ns.length mx) := by
  have hsq : ns.length * ns.length ≤ 400 * 400 := Nat.mul_le_mul hn hn
  have hw : wrap64 ((ns.length : Int) * (ns.length : Int)) = ((ns.length * ns.length : Nat) : Int) := by rw [← Int.natCast_mul]; exact w64 (by omega) (by omega)
  unfold entrepotref08_matrix.f matrixB
  by_cases h : mt = 0
  · refine Ev.pos h ?_
    rw [if_pos h]
    by_cases h2 : mx.length = ns.length * ns.length
    · refine Ev.pos (by rw [hw]; omega) ?_
      rw [decide_eq_true h2, Bool.true_and, List.range_eq_range']
      exact matrix_from nm kd mt sc cp fl ns mx hn h2 _ 0 (by omega)
    · refine Ev.neg (by rw [hw]; omega) (Ev.this ?_)
      rw [decide_eq_false h2, Bool.false_and]
  · refine Ev.neg h (Ev.this ?_)
    rw [if_neg h]
    congr 1
    by_cases h2 : mx.length = 0
    · rw [decide_eq_true h2, h2]; rfl
    · rw [decide_eq_false h2, beq_eq_false_iff_ne.2 (by omega)]

theorem coord_some {i : Nat} (hi : i < ns.length) : entrepotref08_coord.f nm kd mt sc cp fl ns mx (i : Int) = some (coordB mt (rdN ns (i : Int))) := by
  unfold entrepotref08_coord.f coordB rdN
  rw [if_pos (by omega), if_pos (by omega), sig_some, sig_some]
  generalize rd_T77 ns (i : Int) = d
  rw [Option.bind_some]
  cases h0 : sigB d.f0
  · rfl
  · rw [if_pos rfl, Option.bind_some]
    cases h1 : sigB d.f1
    · rfl
    · rw [if_pos rfl]
      by_cases h : mt = 0
      · rw [if_pos h, decide_eq_false (by omega)]
        by_cases h2 : d.f0 = 0
        · rw [if_pos h2]; congr 1; simp [h2]; rfl
        · rw [if_neg h2]; simp [h2]
      · rw [if_neg h, decide_eq_true h]; rfl
theorem demand_ev {i : Nat} (hi : i < ns.length) : Ev (fun k => entrepotref08_demand.f k nm kd mt sc cp fl ns mx (i : Int)) (demandB kd i (rdN ns (i : Int))) := by
  unfold entrepotref08_demand.f demandB
  show Ev (fun k => if 0 ≤ (i : Int) then (if (i : Int) < (ns.length : Int) then (if kd = 1 then (entrepotref08_demand.j0 k ((rdN ns (i : Int)).f2) true nm kd mt sc cp fl ns mx) else (entrepotref08_demand.j0 k ((rdN ns (i : Int)).f2) ((i : Int) == 0) nm kd mt sc cp fl ns mx)) else none) else none) _
  generalize rdN ns (i : Int) = d
  refine Ev.pos (by omega) (Ev.pos (by omega) ?_)
  have yes : Ev (fun k => entrepotref08_demand.j0 k d.f2 true nm kd mt sc cp fl ns mx) (decide (d.f2 = 0)) :=
    Ev.step (fun _ => entrepotref08_demand.j0.eq_2 ..) (Ev.pos rfl (Ev.this rfl))
  by_cases h : kd = 1
  · refine Ev.pos h ?_
    rw [if_pos (.inl h)]; exact yes
  · refine Ev.neg h ?_
    by_cases h2 : i = 0
    · rw [if_pos (.inr h2), beq_iff_eq.2 (show (i : Int) = 0 by omega)]; exact yes
    · rw [if_neg (fun e => e.elim h h2), beq_eq_false_iff_ne.2 (show (i : Int) ≠ 0 by omega)]
      refine Ev.step (fun _ => entrepotref08_demand.j0.eq_2 ..) (Ev.neg (by simp) (Ev.bs (num_some _) ?_))
      cases hb : numB d.f2
      · refine Ev.neg (by simp) ?_
        by_cases h4 : kd = 4
        · refine Ev.pos h4 (Ev.bs (sig_some _) (Ev.this ?_))
          rw [decide_eq_true h4]; simp
        · refine Ev.neg h4 (Ev.this ?_)
          rw [decide_eq_false h4]; rfl
      · exact Ev.pos rfl (Ev.now _)
theorem window_ev {i : Nat} (hi : i < ns.length) : Ev (fun k => entrepotref08_window.f k nm kd mt sc cp fl ns mx (i : Int)) (windowB kd (rdN ns (i : Int))) := by
  unfold entrepotref08_window.f windowB
  show Ev (fun k => if 0 ≤ (i : Int) then (if (i : Int) < (ns.length : Int) then (if kd = 1 then (entrepotref08_window.j0 k true (rdN ns (i : Int)).f0 (rdN ns (i : Int)).f1 (rdN ns (i : Int)).f2 (rdN ns (i : Int)).f3 (rdN ns (i : Int)).f4 (rdN ns (i : Int)).f5 (rdN ns (i : Int)).f6) else (entrepotref08_window.j0 k (kd == 2) (rdN ns (i : Int)).f0 (rdN ns (i : Int)).f1 (rdN ns (i : Int)).f2 (rdN ns (i : Int)).f3 (rdN ns (i : Int)).f4 (rdN ns (i : Int)).f5 (rdN ns (i : Int)).f6)) else none) else none) _
  generalize rdN ns (i : Int) = d
  refine Ev.pos (by omega) (Ev.pos (by omega) ?_)
  have yes : Ev (fun k => entrepotref08_window.j0 k true d.f0 d.f1 d.f2 d.f3 d.f4 d.f5 d.f6) (decide (d.f3 = 0 ∧ d.f4 = 0)) := by
    refine Ev.step (fun _ => entrepotref08_window.j0.eq_2 ..) (Ev.pos rfl ?_)
    by_cases h : d.f3 = 0
    · refine Ev.pos h (Ev.this ?_)
      congr 1; simp [h]; rfl
    · refine Ev.neg h (Ev.this ?_)
      rw [decide_eq_false (fun e => h e.1)]
  by_cases h : kd = 1
  · refine Ev.pos h ?_
    rw [if_pos (.inl h)]; exact yes
  · refine Ev.neg h ?_
    by_cases h2 : kd = 2
    · rw [if_pos (.inr h2), beq_iff_eq.2 h2]; exact yes
    · rw [if_neg (fun e => e.elim h h2), beq_eq_false_iff_ne.2 h2]
      refine Ev.step (fun _ => entrepotref08_window.j0.eq_2 ..) (Ev.neg (by simp) (Ev.bs (num_some _) ?_))
      cases hb : numB d.f3
      · exact Ev.neg (by simp) (Ev.now _)
      · refine Ev.pos rfl (Ev.bs (num_some _) ?_)
        cases hc : numB d.f4
        · exact Ev.neg (by simp) (Ev.now _)
        · exact Ev.pos rfl (Ev.this (by simp))
theorem service_some {i : Nat} (hi : i < ns.length) : entrepotref08_service.f nm kd mt sc cp fl ns mx (i : Int) = some (serviceB kd (rdN ns (i : Int))) := by
  unfold entrepotref08_service.f serviceB
  rw [if_pos (by omega), if_pos (by omega), num_some]
  by_cases h : kd = 1
  · rw [if_pos h, if_pos (.inl h)]; rfl
  · rw [if_neg h]
    by_cases h2 : kd = 2
    · rw [if_pos h2, if_pos (.inr h2)]; rfl
    · rw [if_neg h2, if_neg (fun e => e.elim h h2)]; rfl
theorem mate_ev {i : Nat} (hi : i < ns.length) : Ev (fun k => entrepotref08_mate.f k nm kd mt sc cp fl ns mx (i : Int)) (mateB kd ns i) := by
  unfold entrepotref08_mate.f mateB
  refine Ev.pos (by omega) (Ev.pos (by omega) ?_)
  have yes : Ev (fun k => entrepotref08_mate.j0 k (i : Int) (rdN ns (i : Int)).f6 true nm kd mt sc cp fl ns mx) (decide ((rdN ns (i : Int)).f6 = 0)) :=
    Ev.step (fun _ => entrepotref08_mate.j0.eq_2 ..) (Ev.pos rfl (Ev.this rfl))
  by_cases h : kd = 4
  · refine Ev.pos h ?_
    by_cases h2 : i = 0
    · rw [if_neg (fun e => e.2 h2), beq_iff_eq.2 (show (i : Int) = 0 by omega)]; exact yes
    · rw [if_pos ⟨h, h2⟩, beq_eq_false_iff_ne.2 (show (i : Int) ≠ 0 by omega)]
      refine Ev.step (fun _ => entrepotref08_mate.j0.eq_2 ..) (Ev.neg (by simp) ?_)
      show Ev (fun _ => if (rdN ns (i : Int)).f6 < 1 then _ else _) _
      generalize hm : (rdN ns (i : Int)).f6 = m at *
      by_cases c1 : m < 1
      · exact Ev.pos c1 (Ev.this (by rw [decide_eq_false (fun e => by omega)]))
      · refine Ev.neg c1 ?_
        by_cases c2 : m ≥ (ns.length : Int)
        · exact Ev.pos c2 (Ev.this (by rw [decide_eq_false (fun e => by omega)]))
        · refine Ev.neg c2 ?_
          by_cases c3 : m = (i : Int)
          · exact Ev.pos c3 (Ev.this (by rw [decide_eq_false (fun e => e.2.2.1 c3)]))
          · refine Ev.neg c3 (Ev.pos (by omega) (Ev.pos (by omega) ?_))
            by_cases c4 : (rdN ns m).f6 = (i : Int)
            · refine Ev.pos c4 (Ev.pos (by omega) (Ev.pos (by omega) ?_))
              by_cases c5 : (rdN ns (i : Int)).f2 = 0
              · exact Ev.pos c5 (Ev.this (by rw [decide_eq_false (fun e => e.2.2.2.2.1 c5)]))
              · refine Ev.neg c5 (Ev.this ?_)
                congr 1
                by_cases c6 : (rdN ns m).f2 = wrap64 (-(rdN ns (i : Int)).f2)
                · rw [decide_eq_true ⟨by omega, by omega, c3, c4, c5, c6⟩]; exact beq_iff_eq.2 c6
                · rw [decide_eq_false (fun e => c6 e.2.2.2.2.2)]; exact beq_eq_false_iff_ne.2 c6
            · exact Ev.neg c4 (Ev.this (by rw [decide_eq_false (fun e => c4 e.2.2.2.1)]))
  · refine Ev.neg h ?_
    rw [if_neg (fun e => h e.1)]; exact yes

/-- An instance of the reference, and where its rows lie. -/
structure In where
  nm : ByteArray
  kd : Int
  mt : Int
  sc : Int
  cp : Int
  fl : Int
  A : Option Addr
  c : Nat
  ns : List Node
  B : Option Addr
  e : Nat
  mx : List Int
def In.val (x : In) : Value := .agg #[.string x.nm, .int .i64 x.kd, .int .i64 x.mt, .int .i64 x.sc, .int .i64 x.cp, .int .i64 x.fl, .slice x.A x.ns.length x.c, .slice x.B x.mx.length x.e]
structure In.rows (x : In) (W : World) : Prop where
  a : Kd.C k77 W x.A x.ns.length x.ns
  b : x.ns.length ≤ x.c
  c : Kd.C (Kd.int .i64) W x.B x.mx.length x.mx
  d : x.mx.length ≤ x.e
theorem In.rows_below {x : In} {W W' : World} (h : x.rows W) (hb : Below W.heap.size W W') : x.rows W' := ⟨Kd.C_below h.a hb, h.b, Kd.C_below h.c hb, h.d⟩
theorem name_c (nm : ByteArray) (W : World) (hs : nm.size ≤ 4611686018427387904) : Calls Try.prog 63 #[.string nm] W fun e w' => e = .returned (.bool (nameB nm)) ∧ Below W.heap.size W w' := by
  obtain ⟨k, hk⟩ := (name_ev nm hs).rounds
  exact (P.entrepotref03_Name.calls k nm _ W hk).mono (fun _ _ ⟨h, ⟨n, e⟩⟩ => ⟨h, by rw [e]; exact pw_below_drewN (Below.refl _ _) n⟩)
theorem known_c (m : Int) (W : World) : Calls Try.prog 64 #[.int .i64 m] W fun e w' => e = .returned (.bool (knownB m)) ∧ Below W.heap.size W w' :=
  (P.entrepotref06_Known.calls m _ W (known_some m)).mono (fun _ _ ⟨h, ⟨n, e⟩⟩ => ⟨h, by rw [e]; exact pw_below_drewN (Below.refl _ _) n⟩)
theorem matrix_c (x : In) (W : World) (h : x.rows W) (hn : x.ns.length ≤ 400) : Calls Try.prog 65 #[x.val] W fun e w' => e = .returned (.bool (matrixB x.mt x.ns.length x.mx)) ∧ Below W.heap.size W w' := by
  obtain ⟨k, hk⟩ := (matrix_ev x.nm x.kd x.mt x.sc x.cp x.fl x.ns x.mx hn).rounds
  exact P.entrepotref08_matrix.calls k _ _ _ _ _ _ _ _ _ _ _ _ _ W h.a h.b h.c h.d hk
theorem coord_c (x : In) (i : Nat) (W : World) (h : x.rows W) (hi : i < x.ns.length) : Calls Try.prog 66 #[x.val, .int .i64 (i : Int)] W fun e w' => e = .returned (.bool (coordB x.mt (rdN x.ns (i : Int)))) ∧ Below W.heap.size W w' := by
  exact P.entrepotref08_coord.calls _ _ _ _ _ _ _ _ _ _ _ _ _ _ W h.a h.b h.c h.d (coord_some x.nm x.kd x.mt x.sc x.cp x.fl x.ns x.mx hi)
theorem demand_c (x : In) (i : Nat) (W : World) (h : x.rows W) (hi : i < x.ns.length) : Calls Try.prog 67 #[x.val, .int .i64 (i : Int)] W fun e w' => e = .returned (.bool (demandB x.kd i (rdN x.ns (i : Int)))) ∧ Below W.heap.size W w' := by
  obtain ⟨k, hk⟩ := (demand_ev x.nm x.kd x.mt x.sc x.cp x.fl x.ns x.mx hi).rounds
  exact P.entrepotref08_demand.calls k _ _ _ _ _ _ _ _ _ _ _ _ _ _ W h.a h.b h.c h.d hk
theorem window_c (x : In) (i : Nat) (W : World) (h : x.rows W) (hi : i < x.ns.length) : Calls Try.prog 68 #[x.val, .int .i64 (i : Int)] W fun e w' => e = .returned (.bool (windowB x.kd (rdN x.ns (i : Int)))) ∧ Below W.heap.size W w' := by
  obtain ⟨k, hk⟩ := (window_ev x.nm x.kd x.mt x.sc x.cp x.fl x.ns x.mx hi).rounds
  exact P.entrepotref08_window.calls k _ _ _ _ _ _ _ _ _ _ _ _ _ _ W h.a h.b h.c h.d hk
theorem service_c (x : In) (i : Nat) (W : World) (h : x.rows W) (hi : i < x.ns.length) : Calls Try.prog 69 #[x.val, .int .i64 (i : Int)] W fun e w' => e = .returned (.bool (serviceB x.kd (rdN x.ns (i : Int)))) ∧ Below W.heap.size W w' := by
  exact P.entrepotref08_service.calls _ _ _ _ _ _ _ _ _ _ _ _ _ _ W h.a h.b h.c h.d (service_some x.nm x.kd x.mt x.sc x.cp x.fl x.ns x.mx hi)
theorem mate_c (x : In) (i : Nat) (W : World) (h : x.rows W) (hi : i < x.ns.length) : Calls Try.prog 70 #[x.val, .int .i64 (i : Int)] W fun e w' => e = .returned (.bool (mateB x.kd x.ns i)) ∧ Below W.heap.size W w' := by
  obtain ⟨k, hk⟩ := (mate_ev x.nm x.kd x.mt x.sc x.cp x.fl x.ns x.mx hi).rounds
  exact P.entrepotref08_mate.calls k _ _ _ _ _ _ _ _ _ _ _ _ _ _ W h.a h.b h.c h.d hk
end Ref08
end Go.Proofs.Ytlncbckpcmojpaa
