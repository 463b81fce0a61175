/- What the reference of layer 8 computes: which faults an instance has, whether it is well-formed. Plain lemmas on lists and numbers. -/
import Derived.Test.YtmapllahhpdedaaGEv
import Derived.Test.YtmapllahhpdedaaPxEntrepotref08Well
namespace Go.Proofs.Ytmapllahhpdedaa
open Go.RowKit Go.Proofs.YtmapllahhpdedaaW.PrintWords P
namespace Ref08
abbrev Node := S49
abbrev Fault := S57
abbrev rdN (l : List Node) (i : Int) : Node := rd_T49 l i
theorem w64 {a : Int} (h0 : -9223372036854775808 ≤ a) (h1 : a ≤ 9223372036854775807) : wrap64 a = a := by unfold wrap64; omega
theorem w64s {i : Nat} (h : (i : Int) ≤ 4611686018427387904) : wrap64 ((i : Int) + 1) = ((i + 1 : Nat) : Int) := by unfold wrap64; omega

def okP (c : Int) : Prop := (65 ≤ c ∧ c ≤ 90) ∨ (97 ≤ c ∧ c ≤ 122) ∨ (48 ≤ c ∧ c ≤ 57) ∨ c = 46 ∨ c = 95 ∨ c = 45
instance (c : Int) : Decidable (okP c) := by unfold okP; infer_instance
def nameB (s : ByteArray) : Bool := (List.range s.size).all (fun i : Nat => decide (okP (bt s (i : Int)))) && decide (1 ≤ s.size ∧ s.size ≤ 40)
theorem name_from (s : ByteArray) (hs : s.size ≤ 4611686018427387904) (d : Nat) : ∀ i : Nat, i + d = s.size → Ev (fun k => entrepotref03_Name.l0 k s (i : Int)) ((List.range' i d).all (fun i : Nat => decide (okP (bt s (i : Int)))) && decide (1 ≤ s.size ∧ s.size ≤ 40)) := by
  induction d with
  | zero =>
    intro i hi
    refine Ev.step (fun _ => entrepotref03_Name.l0.eq_2 ..) (Ev.neg (by omega) ?_)
    by_cases h : (s.size : Int) ≥ 1
    · refine Ev.pos h (Ev.this ?_)
      rw [List.range'_zero, List.all_nil, Bool.true_and]
      congr 1; rw [decide_eq_decide]; omega
    · refine Ev.neg h (Ev.this ?_)
      rw [decide_eq_false (by omega), Bool.and_false]
  | succ d ih =>
    intro i hi
    have next := ih (i + 1) (by omega)
    refine Ev.step (fun _ => entrepotref03_Name.l0.eq_2 ..) (Ev.pos (by omega) (Ev.pos (by omega) ?_))
    rw [w64s (by omega), List.range'_succ, List.all_cons]
    generalize bt s (i : Int) = c at *
    refine Ev.congr (f := fun k => if okP c then entrepotref03_Name.l0 k s ((i + 1 : Nat) : Int) else some false) (fun k => ?_) ?_
    · by_cases h : okP c
      · rw [if_pos h]
        unfold okP at h
        repeat' split
        all_goals first | rfl | (exfalso; omega)
      · rw [if_neg h]
        unfold okP at h
        repeat' split
        all_goals first | rfl | (exfalso; omega)
    · by_cases h : okP c
      · refine Ev.pos h ?_
        rw [decide_eq_true h, Bool.true_and]; exact next
      · refine Ev.neg h (Ev.this ?_)
        rw [decide_eq_false h, Bool.false_and, Bool.false_and]
theorem name_ev (s : ByteArray) (hs : s.size ≤ 4611686018427387904) : Ev (fun k => entrepotref03_Name.f k s) (nameB s) := by
  have h := name_from s hs s.size 0 (by omega)
  rw [← List.range_eq_range'] at h
  exact h

def numB (n : Int) : Bool := decide (0 ≤ n ∧ n ≤ 100000000)
def sigB (n : Int) : Bool := decide (-100000000 ≤ n ∧ n ≤ 100000000)
def knownB (m : Int) : Bool := decide (0 ≤ m ∧ m ≤ 6)
theorem num_some (n : Int) : entrepotref08_number.f n = some (numB n) := by
  unfold entrepotref08_number.f numB
  by_cases h : n ≥ 0
  · rw [if_pos h]; congr 1; rw [decide_eq_decide]; omega
  · rw [if_neg h, decide_eq_false (by omega)]
theorem sig_some (n : Int) : entrepotref08_signed.f n = some (sigB n) := by
  unfold entrepotref08_signed.f sigB
  by_cases h : n ≥ -100000000
  · rw [if_pos h]; congr 1; rw [decide_eq_decide]; omega
  · rw [if_neg h, decide_eq_false (by omega)]
theorem known_some (n : Int) : entrepotref06_Known.f n = some (knownB n) := by
  unfold entrepotref06_Known.f knownB
  by_cases h : n ≥ 0
  · rw [if_pos h]; congr 1; rw [decide_eq_decide]; omega
  · rw [if_neg h, decide_eq_false (by omega)]

variable (nm : ByteArray) (kd mt sc cp fl : Int) (ns : List Node) (mx : List Int)
def cellB (n : Nat) (mx : List Int) (i : Nat) : Bool := numB (rd mx (i : Int)) && (decide (i % (n + 1) ≠ 0) || decide (rd mx (i : Int) = 0))
def matrixB (mt : Int) (n : Nat) (mx : List Int) : Bool := if mt = 0 then decide (mx.length = n * n) && (List.range (n * n)).all (cellB n mx) else decide (mx.length = 0)
theorem matrix_from (hn : ns.length ≤ 400) (hm : mx.length = ns.length * ns.length) (d : Nat) : ∀ i : Nat, i + d = ns.length * ns.length →
    Ev (fun k => entrepotref08_matrix.l0 k (ns.length : Int) (i : Int) nm kd mt sc cp fl ns mx) ((List.range' i d).all (cellB ns.length mx)) := by
  have hsq : ns.length * ns.length ≤ 400 * 400 := Nat.mul_le_mul hn hn
  have hw : wrap64 ((ns.length : Int) * (ns.length : Int)) = ((ns.length * ns.length : Nat) : Int) := by rw [← Int.natCast_mul]; exact w64 (by omega) (by omega)
  induction d with
  | zero =>
    intro i hi
    refine Ev.step (fun _ => entrepotref08_matrix.l0.eq_2 ..) (Ev.neg (by rw [hw]; omega) (Ev.now _))
  | succ d ih =>
    intro i hi
    have next := ih (i + 1) (by omega)
    refine Ev.step (fun _ => entrepotref08_matrix.l0.eq_2 ..) (Ev.pos (by rw [hw]; omega) (Ev.pos (by omega) (Ev.pos (by omega) (Ev.bs (num_some _) ?_))))
    rw [w64s (i := i) (by omega), w64s (i := ns.length) (by omega), List.range'_succ, List.all_cons, show Int.tmod (i : Int) ((ns.length + 1 : Nat) : Int) = ((i % (ns.length + 1) : Nat) : Int) from rfl]
    unfold cellB at next ⊢
    by_cases h : numB (rd mx (i : Int)) = true
    · refine Ev.pos h (Ev.neg (by omega) ?_)
      rw [h, Bool.true_and]
      by_cases h2 : i % (ns.length + 1) = 0
      · refine Ev.pos (by omega) ?_
        rw [decide_eq_false (by omega), Bool.false_or]
        by_cases h3 : rd mx (i : Int) = 0
        · refine Ev.pos h3 ?_
          rw [decide_eq_true h3, Bool.true_and]; exact next
        · refine Ev.neg h3 (Ev.this ?_)
          rw [decide_eq_false h3, Bool.false_and]
      · refine Ev.neg (by omega) ?_
        rw [decide_eq_true (by omega), Bool.true_or, Bool.true_and]; exact next
    · refine Ev.neg h (Ev.this ?_)
      rw [Bool.eq_false_iff.2 h, Bool.false_and, Bool.false_and]
theorem matrix_ev (hn : ns.length ≤ 400) : Ev (fun k => entrepotref08_matrix.f k nm kd mt sc cp fl ns mx) (matrixB mt ns.length mx) := by
  have hsq : ns.length * ns.length ≤ 400 * 400 := Nat.mul_le_mul hn hn
  have hw : wrap64 ((ns.length : Int) * (ns.length : Int)) = ((ns.length * ns.length : Nat) : Int) := by rw [← Int.natCast_mul]; exact w64 (by omega) (by omega)
  unfold entrepotref08_matrix.f matrixB
  by_cases h : mt = 0
  · refine Ev.pos h ?_
    rw [if_pos h]
    by_cases h2 : mx.length = ns.length * ns.length
    · refine Ev.pos (by rw [hw]; omega) ?_
      rw [decide_eq_true h2, Bool.true_and, List.range_eq_range']
      exact matrix_from nm kd mt sc cp fl ns mx hn h2 _ 0 (by omega)
    · refine Ev.neg (by rw [hw]; omega) (Ev.this ?_)
      rw [decide_eq_false h2, Bool.false_and]
  · refine Ev.neg h (Ev.this ?_)
    rw [if_neg h]
    congr 1
    by_cases h2 : mx.length = 0
    · rw [decide_eq_true h2, h2]; rfl
    · rw [decide_eq_false h2, beq_eq_false_iff_ne.2 (by omega)]

def coordB (mt : Int) (d : Node) : Bool := sigB d.f0 && sigB d.f1 && (decide (mt ≠ 0) || decide (d.f0 = 0 ∧ d.f1 = 0))
theorem coord_some {i : Nat} (hi : i < ns.length) : entrepotref08_coord.f nm kd mt sc cp fl ns mx (i : Int) = some (coordB mt (rdN ns (i : Int))) := by
  unfold entrepotref08_coord.f coordB rdN
  rw [if_pos (by omega), if_pos (by omega), sig_some, sig_some]
  generalize rd_T49 ns (i : Int) = d
  rw [Option.bind_some]
  cases h0 : sigB d.f0
  · rfl
  · rw [if_pos rfl, Option.bind_some]
    cases h1 : sigB d.f1
    · rfl
    · rw [if_pos rfl]
      by_cases h : mt = 0
      · rw [if_pos h, decide_eq_false (by omega)]
        by_cases h2 : d.f0 = 0
        · rw [if_pos h2]; congr 1; simp [h2]; rfl
        · rw [if_neg h2]; simp [h2]
      · rw [if_neg h, decide_eq_true h]; rfl
def demandB (kd : Int) (i : Nat) (d : Node) : Bool := if kd = 1 ∨ i = 0 then decide (d.f2 = 0) else numB d.f2 || (decide (kd = 4) && sigB d.f2)
theorem demand_ev {i : Nat} (hi : i < ns.length) : Ev (fun k => entrepotref08_demand.f k nm kd mt sc cp fl ns mx (i : Int)) (demandB kd i (rdN ns (i : Int))) := by
  unfold entrepotref08_demand.f demandB
  show Ev (fun k => if 0 ≤ (i : Int) then (if (i : Int) < (ns.length : Int) then (if kd = 1 then (entrepotref08_demand.j0 k ((rdN ns (i : Int)).f2) true nm kd mt sc cp fl ns mx) else (entrepotref08_demand.j0 k ((rdN ns (i : Int)).f2) ((i : Int) == 0) nm kd mt sc cp fl ns mx)) else none) else none) _
  generalize rdN ns (i : Int) = d
  refine Ev.pos (by omega) (Ev.pos (by omega) ?_)
  have yes : Ev (fun k => entrepotref08_demand.j0 k d.f2 true nm kd mt sc cp fl ns mx) (decide (d.f2 = 0)) :=
    Ev.step (fun _ => entrepotref08_demand.j0.eq_2 ..) (Ev.pos rfl (Ev.this rfl))
  by_cases h : kd = 1
  · refine Ev.pos h ?_
    rw [if_pos (.inl h)]; exact yes
  · refine Ev.neg h ?_
    by_cases h2 : i = 0
    · rw [if_pos (.inr h2), beq_iff_eq.2 (show (i : Int) = 0 by omega)]; exact yes
    · rw [if_neg (fun e => e.elim h h2), beq_eq_false_iff_ne.2 (show (i : Int) ≠ 0 by omega)]
      refine Ev.step (fun _ => entrepotref08_demand.j0.eq_2 ..) (Ev.neg (by simp) (Ev.bs (num_some _) ?_))
      cases hb : numB d.f2
      · refine Ev.neg (by simp) ?_
        by_cases h4 : kd = 4
        · refine Ev.pos h4 (Ev.bs (sig_some _) (Ev.this ?_))
          rw [decide_eq_true h4]; simp
        · refine Ev.neg h4 (Ev.this ?_)
          rw [decide_eq_false h4]; rfl
      · exact Ev.pos rfl (Ev.now _)
def windowB (kd : Int) (d : Node) : Bool := if kd = 1 ∨ kd = 2 then decide (d.f3 = 0 ∧ d.f4 = 0) else numB d.f3 && numB d.f4 && decide (d.f3 ≤ d.f4)
theorem window_ev {i : Nat} (hi : i < ns.length) : Ev (fun k => entrepotref08_window.f k nm kd mt sc cp fl ns mx (i : Int)) (windowB kd (rdN ns (i : Int))) := by
  unfold entrepotref08_window.f windowB
  show Ev (fun k => if 0 ≤ (i : Int) then (if (i : Int) < (ns.length : Int) then (if kd = 1 then (entrepotref08_window.j0 k true (rdN ns (i : Int)).f0 (rdN ns (i : Int)).f1 (rdN ns (i : Int)).f2 (rdN ns (i : Int)).f3 (rdN ns (i : Int)).f4 (rdN ns (i : Int)).f5 (rdN ns (i : Int)).f6) else (entrepotref08_window.j0 k (kd == 2) (rdN ns (i : Int)).f0 (rdN ns (i : Int)).f1 (rdN ns (i : Int)).f2 (rdN ns (i : Int)).f3 (rdN ns (i : Int)).f4 (rdN ns (i : Int)).f5 (rdN ns (i : Int)).f6)) else none) else none) _
  generalize rdN ns (i : Int) = d
  refine Ev.pos (by omega) (Ev.pos (by omega) ?_)
  have yes : Ev (fun k => entrepotref08_window.j0 k true d.f0 d.f1 d.f2 d.f3 d.f4 d.f5 d.f6) (decide (d.f3 = 0 ∧ d.f4 = 0)) := by
    refine Ev.step (fun _ => entrepotref08_window.j0.eq_2 ..) (Ev.pos rfl ?_)
    by_cases h : d.f3 = 0
    · refine Ev.pos h (Ev.this ?_)
      congr 1; simp [h]; rfl
    · refine Ev.neg h (Ev.this ?_)
      rw [decide_eq_false (fun e => h e.1)]
  by_cases h : kd = 1
  · refine Ev.pos h ?_
    rw [if_pos (.inl h)]; exact yes
  · refine Ev.neg h ?_
    by_cases h2 : kd = 2
    · rw [if_pos (.inr h2), beq_iff_eq.2 h2]; exact yes
    · rw [if_neg (fun e => e.elim h h2), beq_eq_false_iff_ne.2 h2]
      refine Ev.step (fun _ => entrepotref08_window.j0.eq_2 ..) (Ev.neg (by simp) (Ev.bs (num_some _) ?_))
      cases hb : numB d.f3
      · exact Ev.neg (by simp) (Ev.now _)
      · refine Ev.pos rfl (Ev.bs (num_some _) ?_)
        cases hc : numB d.f4
        · exact Ev.neg (by simp) (Ev.now _)
        · exact Ev.pos rfl (Ev.this (by simp))
def serviceB (kd : Int) (d : Node) : Bool := if kd = 1 ∨ kd = 2 then decide (d.f5 = 0) else numB d.f5
theorem service_some {i : Nat} (hi : i < ns.length) : entrepotref08_service.f nm kd mt sc cp fl ns mx (i : Int) = some (serviceB kd (rdN ns (i : Int))) := by
  unfold entrepotref08_service.f serviceB
  rw [if_pos (by omega), if_pos (by omega), num_some]
  by_cases h : kd = 1
  · rw [if_pos h, if_pos (.inl h)]; rfl
  · rw [if_neg h]
    by_cases h2 : kd = 2
    · rw [if_pos h2, if_pos (.inr h2)]; rfl
    · rw [if_neg h2, if_neg (fun e => e.elim h h2)]; rfl
def mateB (kd : Int) (ns : List Node) (i : Nat) : Bool :=
  if kd = 4 ∧ i ≠ 0 then decide (1 ≤ (rdN ns (i : Int)).f6 ∧ (rdN ns (i : Int)).f6 < (ns.length : Int) ∧ (rdN ns (i : Int)).f6 ≠ (i : Int) ∧ (rdN ns (rdN ns (i : Int)).f6).f6 = (i : Int) ∧ (rdN ns (i : Int)).f2 ≠ 0 ∧ (rdN ns (rdN ns (i : Int)).f6).f2 = wrap64 (-(rdN ns (i : Int)).f2)) else decide ((rdN ns (i : Int)).f6 = 0)
theorem mate_ev {i : Nat} (hi : i < ns.length) : Ev (fun k => entrepotref08_mate.f k nm kd mt sc cp fl ns mx (i : Int)) (mateB kd ns i) := by
  unfold entrepotref08_mate.f mateB
  refine Ev.pos (by omega) (Ev.pos (by omega) ?_)
  have yes : Ev (fun k => entrepotref08_mate.j0 k (i : Int) (rdN ns (i : Int)).f6 true nm kd mt sc cp fl ns mx) (decide ((rdN ns (i : Int)).f6 = 0)) :=
    Ev.step (fun _ => entrepotref08_mate.j0.eq_2 ..) (Ev.pos rfl (Ev.this rfl))
  by_cases h : kd = 4
  · refine Ev.pos h ?_
    by_cases h2 : i = 0
    · rw [if_neg (fun e => e.2 h2), beq_iff_eq.2 (show (i : Int) = 0 by omega)]; exact yes
    · rw [if_pos ⟨h, h2⟩, beq_eq_false_iff_ne.2 (show (i : Int) ≠ 0 by omega)]
      refine Ev.step (fun _ => entrepotref08_mate.j0.eq_2 ..) (Ev.neg (by simp) ?_)
      show Ev (fun _ => if (rdN ns (i : Int)).f6 < 1 then _ else _) _
      generalize hm : (rdN ns (i : Int)).f6 = m at *
      by_cases c1 : m < 1
      · exact Ev.pos c1 (Ev.this (by rw [decide_eq_false (fun e => by omega)]))
      · refine Ev.neg c1 ?_
        by_cases c2 : m ≥ (ns.length : Int)
        · exact Ev.pos c2 (Ev.this (by rw [decide_eq_false (fun e => by omega)]))
        · refine Ev.neg c2 ?_
          by_cases c3 : m = (i : Int)
          · exact Ev.pos c3 (Ev.this (by rw [decide_eq_false (fun e => e.2.2.1 c3)]))
          · refine Ev.neg c3 (Ev.pos (by omega) (Ev.pos (by omega) ?_))
            by_cases c4 : (rdN ns m).f6 = (i : Int)
            · refine Ev.pos c4 (Ev.pos (by omega) (Ev.pos (by omega) ?_))
              by_cases c5 : (rdN ns (i : Int)).f2 = 0
              · exact Ev.pos c5 (Ev.this (by rw [decide_eq_false (fun e => e.2.2.2.2.1 c5)]))
              · refine Ev.neg c5 (Ev.this ?_)
                congr 1
                by_cases c6 : (rdN ns m).f2 = wrap64 (-(rdN ns (i : Int)).f2)
                · rw [decide_eq_true ⟨by omega, by omega, c3, c4, c5, c6⟩]; exact beq_iff_eq.2 c6
                · rw [decide_eq_false (fun e => c6 e.2.2.2.2.2)]; exact beq_eq_false_iff_ne.2 c6
            · exact Ev.neg c4 (Ev.this (by rw [decide_eq_false (fun e => c4 e.2.2.2.1)]))
  · refine Ev.neg h ?_
    rw [if_neg (fun e => h e.1)]; exact yes

/-- A fault where something is not so. -/
def opt (b : Bool) (f : Fault) : List Fault := if b = true then [] else [f]
theorem opt_le (b : Bool) (f : Fault) : (opt b f).length ≤ 1 := by unfold opt; split <;> simp
theorem ev_opt {β : Type} (A : Nat → List Fault → Option β) {acc : List Fault} {b : Bool} {f : Fault} {N : Nat} {r : β} (hl : acc.length < N) (h : Ev (fun k => A k (acc ++ opt b f)) r) : Ev (fun k => if b = true then A k acc else if acc.length < N then A k (acc ++ [f]) else none) r := by
  cases b with
  | true => refine Ev.pos rfl ?_; simpa [Ref08.opt] using h
  | false => exact Ev.neg (by simp) (Ev.pos hl h)
theorem ev_optn {β : Type} (A : Nat → List Fault → Option β) {acc : List Fault} {b : Bool} {f : Fault} {N : Nat} {r : β} (hl : acc.length < N) (h : Ev (fun k => A k (acc ++ opt (!b) f)) r) : Ev (fun k => if b = true then (if acc.length < N then A k (acc ++ [f]) else none) else A k acc) r := by
  cases b with
  | true => exact Ev.pos rfl (Ev.pos hl h)
  | false => refine Ev.neg (by simp) ?_; simpa [Ref08.opt] using h
def kindB (kd : Int) : Bool := decide (1 ≤ kd ∧ kd ≤ 4)
def scaleB (mt sc : Int) : Bool := decide (0 ≤ sc ∧ sc ≤ 6 ∧ (mt = 0 → sc = 0))
def capB (kd cp : Int) : Bool := if kd = 1 then decide (cp = 0) else decide (1 ≤ cp ∧ cp ≤ 100000000)
def fleetB (kd fl : Int) : Bool := if kd = 1 then decide (fl = 0) else decide (0 ≤ fl ∧ fl ≤ 400)
def headOf : List Fault := opt (nameB nm) ⟨1, 0⟩ ++ opt (kindB kd) ⟨2, 0⟩ ++ opt (knownB mt) ⟨3, 0⟩ ++ opt (scaleB mt sc) ⟨4, 0⟩ ++ opt (capB kd cp) ⟨5, 0⟩ ++ opt (fleetB kd fl) ⟨6, 0⟩
def nodeOf (kd mt : Int) (ns : List Node) (i : Nat) : List Fault :=
  opt (coordB mt (rdN ns (i : Int))) ⟨9, i⟩ ++ opt (demandB kd i (rdN ns (i : Int))) ⟨10, i⟩ ++ opt (windowB kd (rdN ns (i : Int))) ⟨11, i⟩ ++ opt (serviceB kd (rdN ns (i : Int))) ⟨12, i⟩ ++ opt (mateB kd ns i) ⟨13, i⟩
/-- The faults of an instance. -/
def faultsOf : List Fault :=
  if ns.length < 1 ∨ 400 < ns.length then headOf nm kd mt sc cp fl ++ [⟨7, 0⟩] else headOf nm kd mt sc cp fl ++ opt (matrixB mt ns.length mx) ⟨8, 0⟩ ++ (List.range ns.length).flatMap (nodeOf kd mt ns)
theorem nodeOf_le (i : Nat) : (nodeOf kd mt ns i).length ≤ 5 := by
  unfold nodeOf
  simp only [List.length_append]
  have h1 := opt_le (coordB mt (rdN ns (i : Int))) ⟨9, i⟩
  have h2 := opt_le (demandB kd i (rdN ns (i : Int))) ⟨10, i⟩
  have h3 := opt_le (windowB kd (rdN ns (i : Int))) ⟨11, i⟩
  have h4 := opt_le (serviceB kd (rdN ns (i : Int))) ⟨12, i⟩
  have h5 := opt_le (mateB kd ns i) ⟨13, i⟩
  omega
theorem headOf_le : (headOf nm kd mt sc cp fl).length ≤ 6 := by
  unfold headOf
  simp only [List.length_append]
  have h1 := opt_le (nameB nm) ⟨1, 0⟩
  have h2 := opt_le (kindB kd) ⟨2, 0⟩
  have h3 := opt_le (knownB mt) ⟨3, 0⟩
  have h4 := opt_le (scaleB mt sc) ⟨4, 0⟩
  have h5 := opt_le (capB kd cp) ⟨5, 0⟩
  have h6 := opt_le (fleetB kd fl) ⟨6, 0⟩
  omega
theorem nodes_from (hn : ns.length ≤ 400) (d : Nat) : ∀ (i : Nat) (acc : List Fault), i + d = ns.length → acc.length ≤ 5 * i + 10 →
    Ev (fun k => entrepotref08_Check.l0 k acc (ns.length : Int) (i : Int) nm kd mt sc cp fl ns mx) (acc ++ (List.range' i d).flatMap (nodeOf kd mt ns)) := by
  induction d with
  | zero =>
    intro i acc hi ha
    refine Ev.step (fun _ => entrepotref08_Check.l0.eq_2 ..) (Ev.neg (by omega) (Ev.this ?_))
    simp
  | succ d ih =>
    intro i acc hi ha
    have hlt : i < ns.length := by omega
    have h5 := nodeOf_le kd mt ns i
    have next := ih (i + 1) (acc ++ nodeOf kd mt ns i) (by omega) (by rw [List.length_append]; omega)
    rw [List.range'_succ, List.flatMap_cons, ← List.append_assoc]
    unfold nodeOf at next h5 ⊢
    rw [← List.append_assoc, ← List.append_assoc, ← List.append_assoc, ← List.append_assoc] at next ⊢
    simp only [List.length_append] at h5
    refine Ev.step (fun _ => entrepotref08_Check.l0.eq_2 ..) (Ev.pos (by omega) (Ev.bs (coord_some nm kd mt sc cp fl ns mx hlt) ?_))
    refine ev_opt (fun k a => entrepotref08_Check.j13 k a (ns.length : Int) (i : Int) nm kd mt sc cp fl ns mx) (by omega) ?_
    refine Ev.step (fun _ => entrepotref08_Check.j13.eq_2 ..) (Ev.bind (demand_ev nm kd mt sc cp fl ns mx hlt) ?_)
    refine ev_opt (fun k a => entrepotref08_Check.j14 k a (ns.length : Int) (i : Int) nm kd mt sc cp fl ns mx) (by rw [List.length_append]; omega) ?_
    refine Ev.step (fun _ => entrepotref08_Check.j14.eq_2 ..) (Ev.bind (window_ev nm kd mt sc cp fl ns mx hlt) ?_)
    refine ev_opt (fun k a => entrepotref08_Check.j15 k a (ns.length : Int) (i : Int) nm kd mt sc cp fl ns mx) (by simp only [List.length_append]; omega) ?_
    refine Ev.step (fun _ => entrepotref08_Check.j15.eq_2 ..) (Ev.bs (service_some nm kd mt sc cp fl ns mx hlt) ?_)
    rw [w64s (by omega)]
    have last : ∀ {acc : List Fault} {r : List Fault}, acc.length ≤ 5 * i + 20 → Ev (fun k => entrepotref08_Check.l0 k (acc ++ opt (mateB kd ns i) ⟨13, i⟩) (ns.length : Int) ((i + 1 : Nat) : Int) nm kd mt sc cp fl ns mx) r →
        Ev (fun k => (entrepotref08_mate.f k nm kd mt sc cp fl ns mx (i : Int)).bind fun t => if t = true then entrepotref08_Check.l0 k acc (ns.length : Int) ((i + 1 : Nat) : Int) nm kd mt sc cp fl ns mx else if acc.length < 8796093022208 then entrepotref08_Check.l0 k (acc ++ [⟨13, (i : Int)⟩]) (ns.length : Int) ((i + 1 : Nat) : Int) nm kd mt sc cp fl ns mx else none) r := fun hl h =>
      Ev.bind (mate_ev nm kd mt sc cp fl ns mx hlt) (ev_opt (fun k a => entrepotref08_Check.l0 k a (ns.length : Int) ((i + 1 : Nat) : Int) nm kd mt sc cp fl ns mx) (by omega) h)
    cases hsv : serviceB kd (rdN ns (i : Int)) with
    | true =>
      rw [hsv] at next
      refine Ev.pos rfl (last (by simp only [List.length_append]; omega) ?_)
      simpa [opt] using next
    | false =>
      rw [hsv] at next
      refine Ev.neg (by simp) (Ev.pos (by simp only [List.length_append]; omega) (Ev.bs rfl (last (by simp only [List.length_append, List.length_cons, List.length_nil]; omega) ?_)))
      exact next
theorem check_ev (hs : nm.size ≤ 4611686018427387904) : Ev (fun k => entrepotref08_Check.f k nm kd mt sc cp fl ns mx) (faultsOf nm kd mt sc cp fl ns mx) := by
  have hh := headOf_le nm kd mt sc cp fl
  unfold entrepotref08_Check.f faultsOf
  unfold headOf at hh ⊢
  simp only [List.length_append] at hh
  refine Ev.bs rfl (Ev.bind (name_ev nm hs) ?_)
  refine ev_opt (fun k a => entrepotref08_Check.j0 k a nm kd mt sc cp fl ns mx) (by simp) ?_
  rw [List.nil_append]
  refine Ev.step (fun _ => entrepotref08_Check.j0.eq_2 ..) ?_
  have j1 : ∀ {acc : List Fault} {b : Bool} {r : List Fault}, acc.length ≤ 6 → Ev (fun k => entrepotref08_Check.j2 k (acc ++ opt (!b) ⟨2, 0⟩) nm kd mt sc cp fl ns mx) r → Ev (fun k => entrepotref08_Check.j1 k acc b nm kd mt sc cp fl ns mx) r := fun hl h =>
    Ev.step (fun _ => entrepotref08_Check.j1.eq_2 ..) (ev_optn (fun k a => entrepotref08_Check.j2 k a nm kd mt sc cp fl ns mx) (by omega) h)
  have j4 : ∀ {acc : List Fault} {b : Bool} {r : List Fault}, acc.length ≤ 6 → Ev (fun k => entrepotref08_Check.j5 k (acc ++ opt (!b) ⟨4, 0⟩) nm kd mt sc cp fl ns mx) r → Ev (fun k => entrepotref08_Check.j4 k acc b nm kd mt sc cp fl ns mx) r := fun hl h =>
    Ev.step (fun _ => entrepotref08_Check.j4.eq_2 ..) (ev_optn (fun k a => entrepotref08_Check.j5 k a nm kd mt sc cp fl ns mx) (by omega) h)
  have j6 : ∀ {acc : List Fault} {b : Bool} {r : List Fault}, acc.length ≤ 6 → Ev (fun k => entrepotref08_Check.j7 k (acc ++ opt (!b) ⟨5, 0⟩) nm kd mt sc cp fl ns mx) r → Ev (fun k => entrepotref08_Check.j6 k acc b nm kd mt sc cp fl ns mx) r := fun hl h =>
    Ev.step (fun _ => entrepotref08_Check.j6.eq_2 ..) (ev_optn (fun k a => entrepotref08_Check.j7 k a nm kd mt sc cp fl ns mx) (by omega) h)
  have j8 : ∀ {acc : List Fault} {b : Bool} {r : List Fault}, acc.length ≤ 6 → Ev (fun k => entrepotref08_Check.j9 k (acc ++ opt (!b) ⟨6, 0⟩) nm kd mt sc cp fl ns mx) r → Ev (fun k => entrepotref08_Check.j8 k acc b nm kd mt sc cp fl ns mx) r := fun hl h =>
    Ev.step (fun _ => entrepotref08_Check.j8.eq_2 ..) (ev_optn (fun k a => entrepotref08_Check.j9 k a nm kd mt sc cp fl ns mx) (by omega) h)
  have k1 : ∀ {r : List Fault}, Ev (fun k => entrepotref08_Check.j2 k (opt (nameB nm) ⟨1, 0⟩ ++ opt (kindB kd) ⟨2, 0⟩) nm kd mt sc cp fl ns mx) r → Ev (fun k => if kd < 1 then (entrepotref08_Check.j1 k (opt (nameB nm) ⟨1, 0⟩) true nm kd mt sc cp fl ns mx) else (entrepotref08_Check.j1 k (opt (nameB nm) ⟨1, 0⟩) (decide (kd > 4)) nm kd mt sc cp fl ns mx)) r := fun h => by
    by_cases c : kd < 1
    · refine Ev.pos c (j1 (by omega) ?_)
      rwa [show kindB kd = !true by unfold kindB; rw [decide_eq_false (by omega)]; rfl] at h
    · refine Ev.neg c (j1 (by omega) ?_)
      rwa [show kindB kd = !decide (kd > 4) by unfold kindB; rw [← decide_not, decide_eq_decide]; omega] at h
  refine k1 (Ev.step (fun _ => entrepotref08_Check.j2.eq_2 ..) (Ev.bs (known_some mt) ?_))
  refine ev_opt (fun k a => entrepotref08_Check.j3 k a nm kd mt sc cp fl ns mx) (by simp only [List.length_append]; omega) (Ev.step (fun _ => entrepotref08_Check.j3.eq_2 ..) ?_)
  have k4 : ∀ {acc r : List Fault}, acc.length ≤ 6 → Ev (fun k => entrepotref08_Check.j5 k (acc ++ opt (scaleB mt sc) ⟨4, 0⟩) nm kd mt sc cp fl ns mx) r → Ev (fun k => if sc < 0 then (entrepotref08_Check.j4 k acc true nm kd mt sc cp fl ns mx) else (if sc > 6 then (entrepotref08_Check.j4 k acc true nm kd mt sc cp fl ns mx) else (if mt = 0 then (entrepotref08_Check.j4 k acc (sc != 0) nm kd mt sc cp fl ns mx) else (entrepotref08_Check.j4 k acc false nm kd mt sc cp fl ns mx)))) r := fun hl h => by
    by_cases c : sc < 0
    · refine Ev.pos c (j4 hl ?_)
      rwa [show scaleB mt sc = !true by unfold scaleB; rw [decide_eq_false (by omega)]; rfl] at h
    · refine Ev.neg c ?_
      by_cases c2 : sc > 6
      · refine Ev.pos c2 (j4 hl ?_)
        rwa [show scaleB mt sc = !true by unfold scaleB; rw [decide_eq_false (by omega)]; rfl] at h
      · refine Ev.neg c2 ?_
        by_cases c3 : mt = 0
        · refine Ev.pos c3 (j4 hl ?_)
          rwa [show scaleB mt sc = !(sc != 0) by
            unfold scaleB
            by_cases c4 : sc = 0
            · rw [decide_eq_true ⟨by omega, by omega, fun _ => c4⟩, bne_eq_false_iff_eq.2 c4]; rfl
            · rw [decide_eq_false (fun e => c4 (e.2.2 c3)), bne_iff_ne.2 c4]; rfl] at h
        · refine Ev.neg c3 (j4 hl ?_)
          rwa [show scaleB mt sc = !false by unfold scaleB; rw [decide_eq_true ⟨by omega, by omega, fun e => absurd e c3⟩]; rfl] at h
  refine k4 (by simp only [List.length_append]; omega) (Ev.step (fun _ => entrepotref08_Check.j5.eq_2 ..) ?_)
  have k6 : ∀ {acc r : List Fault}, acc.length ≤ 6 → Ev (fun k => entrepotref08_Check.j7 k (acc ++ opt (capB kd cp) ⟨5, 0⟩) nm kd mt sc cp fl ns mx) r → Ev (fun k => if kd = 1 then (if cp = 0 then (entrepotref08_Check.j6 k acc false nm kd mt sc cp fl ns mx) else (entrepotref08_Check.j6 k acc true nm kd mt sc cp fl ns mx)) else (if cp < 1 then (entrepotref08_Check.j6 k acc true nm kd mt sc cp fl ns mx) else (entrepotref08_Check.j6 k acc (decide (cp > 100000000)) nm kd mt sc cp fl ns mx))) r := fun hl h => by
    unfold capB at h
    by_cases c : kd = 1
    · rw [if_pos c] at h
      refine Ev.pos c ?_
      by_cases c2 : cp = 0
      · refine Ev.pos c2 (j6 hl ?_)
        rwa [decide_eq_true c2] at h
      · refine Ev.neg c2 (j6 hl ?_)
        rwa [decide_eq_false c2] at h
    · rw [if_neg c] at h
      refine Ev.neg c ?_
      by_cases c2 : cp < 1
      · refine Ev.pos c2 (j6 hl ?_)
        rwa [decide_eq_false (by omega)] at h
      · refine Ev.neg c2 (j6 hl ?_)
        rwa [show decide (1 ≤ cp ∧ cp ≤ 100000000) = !decide (cp > 100000000) by rw [← decide_not, decide_eq_decide]; omega] at h
  refine k6 (by simp only [List.length_append]; omega) (Ev.step (fun _ => entrepotref08_Check.j7.eq_2 ..) ?_)
  have k8 : ∀ {acc r : List Fault}, acc.length ≤ 6 → Ev (fun k => entrepotref08_Check.j9 k (acc ++ opt (fleetB kd fl) ⟨6, 0⟩) nm kd mt sc cp fl ns mx) r → Ev (fun k => if kd = 1 then (if fl = 0 then (entrepotref08_Check.j8 k acc false nm kd mt sc cp fl ns mx) else (entrepotref08_Check.j8 k acc true nm kd mt sc cp fl ns mx)) else (if fl < 0 then (entrepotref08_Check.j8 k acc true nm kd mt sc cp fl ns mx) else (entrepotref08_Check.j8 k acc (decide (fl > 400)) nm kd mt sc cp fl ns mx))) r := fun hl h => by
    unfold fleetB at h
    by_cases c : kd = 1
    · rw [if_pos c] at h
      refine Ev.pos c ?_
      by_cases c2 : fl = 0
      · refine Ev.pos c2 (j8 hl ?_)
        rwa [decide_eq_true c2] at h
      · refine Ev.neg c2 (j8 hl ?_)
        rwa [decide_eq_false c2] at h
    · rw [if_neg c] at h
      refine Ev.neg c ?_
      by_cases c2 : fl < 0
      · refine Ev.pos c2 (j8 hl ?_)
        rwa [decide_eq_false (by omega)] at h
      · refine Ev.neg c2 (j8 hl ?_)
        rwa [show decide (0 ≤ fl ∧ fl ≤ 400) = !decide (fl > 400) by rw [← decide_not, decide_eq_decide]; omega] at h
  refine k8 (by simp only [List.length_append]; omega) (Ev.step (fun _ => entrepotref08_Check.j9.eq_2 ..) ?_)
  have hl : (opt (nameB nm) ⟨1, 0⟩ ++ opt (kindB kd) ⟨2, 0⟩ ++ opt (knownB mt) ⟨3, 0⟩ ++ opt (scaleB mt sc) ⟨4, 0⟩ ++ opt (capB kd cp) ⟨5, 0⟩ ++ opt (fleetB kd fl) ⟨6, 0⟩ : List Fault).length ≤ 6 := by simp only [List.length_append]; omega
  clear k1 k4 k6 k8 j1 j4 j6 j8 hh
  generalize (opt (nameB nm) ⟨1, 0⟩ ++ opt (kindB kd) ⟨2, 0⟩ ++ opt (knownB mt) ⟨3, 0⟩ ++ opt (scaleB mt sc) ⟨4, 0⟩ ++ opt (capB kd cp) ⟨5, 0⟩ ++ opt (fleetB kd fl) ⟨6, 0⟩ : List Fault) = acc at *
  by_cases c : (ns.length : Int) < 1
  · exact Ev.eq (Ev.pos c (Ev.step (fun _ => entrepotref08_Check.j10.eq_2 ..) (Ev.pos rfl (Ev.pos (by omega) (Ev.now _))))) (if_pos (by omega)).symm
  · refine Ev.neg c (Ev.step (fun _ => entrepotref08_Check.j10.eq_2 ..) ?_)
    by_cases c2 : (ns.length : Int) > 400
    · exact Ev.eq (Ev.pos (decide_eq_true c2) (Ev.pos (by omega) (Ev.now _))) (if_pos (by omega)).symm
    · refine Ev.eq (Ev.neg (by simpa using c2) (Ev.bind (matrix_ev nm kd mt sc cp fl ns mx (by omega)) ?_)) (if_neg (by omega)).symm
      have hm := opt_le (matrixB mt ns.length mx) ⟨8, 0⟩
      refine ev_opt (fun k a => entrepotref08_Check.j11 k a (ns.length : Int) nm kd mt sc cp fl ns mx) (by omega) (Ev.step (fun _ => entrepotref08_Check.j11.eq_2 ..) ?_)
      have := nodes_from nm kd mt sc cp fl ns mx (by omega) ns.length 0 (acc ++ opt (matrixB mt ns.length mx) ⟨8, 0⟩) (by omega) (by rw [List.length_append]; omega)
      rwa [← List.range_eq_range'] at this
def wellB : Bool := decide (faultsOf nm kd mt sc cp fl ns mx = [])
theorem well_ev (hs : nm.size ≤ 4611686018427387904) : Ev (fun k => entrepotref08_Well.f k nm kd mt sc cp fl ns mx) (wellB nm kd mt sc cp fl ns mx) := by
  unfold entrepotref08_Well.f wellB
  refine Ev.bind (check_ev nm kd mt sc cp fl ns mx hs) (Ev.this ?_)
  congr 1
  generalize faultsOf nm kd mt sc cp fl ns mx = l
  cases l with
  | nil => rfl
  | cons a t => rw [decide_eq_false (by simp), beq_eq_false_iff_ne.2 (by simp; omega)]
end Ref08
end Go.Proofs.Ytmapllahhpdedaa
