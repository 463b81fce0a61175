/- Texts of this session in one: What the reference of layer 8 computes: which faults an instance has, whether it is well-formed. Plain lemmas on lists a; The faults of an instance, as the program and as the reference tell them, are the same. Plain lemmas on lists and number -/
import Derived.Test.YtfnnngoandpgkaaMga
import Derived.Test.YtfnnngoandpgkaaMgd
import Derived.Test.YtfnnngoandpgkaaMgb
import Derived.Test.YtfnnngoandpgkaaGIts8
import Derived.Test.YtfnnngoandpgkaaMge
namespace Go.Proofs.Ytfnnngoandpgkaa
open Go.RowKit Go.Proofs.YtfnnngoandpgkaaW.PrintWords P
namespace Ref08
abbrev Node := S60
abbrev Fault := S58
abbrev rdN (l : List Node) (i : Int) : Node := rd_T60 l i
theorem w64 {a : Int} (h0 : -9223372036854775808 ≤ a) (h1 : a ≤ 9223372036854775807) : wrap64 a = a := by unfold wrap64; omega
theorem w64s {i : Nat} (h : (i : Int) ≤ 4611686018427387904) : wrap64 ((i : Int) + 1) = ((i + 1 : Nat) : Int) := by unfold wrap64; omega

def okP (c : Int) : Prop := (65 ≤ c ∧ c ≤ 90) ∨ (97 ≤ c ∧ c ≤ 122) ∨ (48 ≤ c ∧ c ≤ 57) ∨ c = 46 ∨ c = 95 ∨ c = 45
instance (c : Int) : Decidable (okP c) := by unfold okP; infer_instance
def nameB (s : ByteArray) : Bool := (List.range s.size).all (fun i : Nat => decide (okP (bt s (i : Int)))) && decide (1 ≤ s.size ∧ s.size ≤ 40)
theorem name_from (s : ByteArray) (hs : s.size ≤ 4611686018427387904) (d : Nat) : ∀ i : Nat, i + d = s.size → Ev (fun k => entrepotref03_Name.l0 k s (i : Int)) ((List.range' i d).all (fun i : Nat => decide (okP (bt s (i : Int)))) && decide (1 ≤ s.size ∧ s.size ≤ 40)) := by
  induction d with
  | zero =>
    intro i hi
    refine Ev.step (fun _ => entrepotref03_Name.l0.eq_2 ..) (Ev.neg (by omega) ?_)
    by_cases h : (s.size : Int) ≥ 1
    · refine Ev.pos h (Ev.this ?_)
      rw [List.range'_zero, List.all_nil, Bool.true_and]
      congr 1; rw [decide_eq_decide]; omega
    · refine Ev.neg h (Ev.this ?_)
      rw [decide_eq_false (by omega), Bool.and_false]
  | succ d ih =>
    intro i hi
    have next := ih (i + 1) (by omega)
    refine Ev.step (fun _ => entrepotref03_Name.l0.eq_2 ..) (Ev.pos (by omega) (Ev.pos (by omega) ?_))
    rw [w64s (by omega), List.range'_succ, List.all_cons]
    generalize bt s (i : Int) = c at *
    refine Ev.congr (f := fun k => if okP c then entrepotref03_Name.l0 k s ((i + 1 : Nat) : Int) else some false) (fun k => ?_) ?_
    · by_cases h : okP c
      · rw [if_pos h]
        unfold okP at h
        repeat' split
        all_goals first | rfl | (exfalso; omega)
      · rw [if_neg h]
        unfold okP at h
        repeat' split
        all_goals first | rfl | (exfalso; omega)
    · by_cases h : okP c
      · refine Ev.pos h ?_
        rw [decide_eq_true h, Bool.true_and]; exact next
      · refine Ev.neg h (Ev.this ?_)
        rw [decide_eq_false h, Bool.false_and, Bool.false_and]
theorem name_ev (s : ByteArray) (hs : s.size ≤ 4611686018427387904) : Ev (fun k => entrepotref03_Name.f k s) (nameB s) := by
  have h := name_from s hs s.size 0 (by omega)
  rw [← List.range_eq_range'] at h
  exact h

def numB (n : Int) : Bool := decide (0 ≤ n ∧ n ≤ 100000000)
def sigB (n : Int) : Bool := decide (-100000000 ≤ n ∧ n ≤ 100000000)
def knownB (m : Int) : Bool := decide (0 ≤ m ∧ m ≤ 6)
theorem num_some (n : Int) : entrepotref08_number.f n = some (numB n) := by
  unfold entrepotref08_number.f numB
  by_cases h : n ≥ 0
  · rw [if_pos h]; congr 1; rw [decide_eq_decide]; omega
  · rw [if_neg h, decide_eq_false (by omega)]
theorem sig_some (n : Int) : entrepotref08_signed.f n = some (sigB n) := by
  unfold entrepotref08_signed.f sigB
  by_cases h : n ≥ -100000000
  · rw [if_pos h]; congr 1; rw [decide_eq_decide]; omega
  · rw [if_neg h, decide_eq_false (by omega)]
theorem known_some (n : Int) : entrepotref06_Known.f n = some (knownB n) := by
  unfold entrepotref06_Known.f knownB
  by_cases h : n ≥ 0
  · rw [if_pos h]; congr 1; rw [decide_eq_decide]; omega
  · rw [if_neg h, decide_eq_false (by omega)]

variable (nm : ByteArray) (kd mt sc cp fl : Int) (ns : List Node) (mx : List Int)
def cellB (n : Nat) (mx : List Int) (i : Nat) : Bool := numB (rd mx (i : Int)) && (decide (i % (n + 1) ≠ 0) || decide (rd mx (i : Int) = 0))
def matrixB (mt : Int) (n : Nat) (mx : List Int) : Bool := if mt = 0 then decide (mx.length = n * n) && (List.range (n * n)).all (cellB n mx) else decide (mx.length = 0)
theorem matrix_from (hn : ns.length ≤ 400) (hm : mx.length = ns.length * ns.length) (d : Nat) : ∀ i : Nat, i + d = ns.length * ns.length →
    Ev (fun k => entrepotref08_matrix.l0 k (ns.length : Int) (i : Int) nm kd mt sc cp fl ns mx) ((List.range' i d).all (cellB ns.length mx)) := by
  have hsq : ns.length * ns.length ≤ 400 * 400 := Nat.mul_le_mul hn hn
  have hw : wrap64 ((ns.length : Int) * (ns.length : Int)) = ((ns.length * ns.length : Nat) : Int) := by rw [← Int.natCast_mul]; exact w64 (by omega) (by omega)
  induction d with
  | zero =>
    intro i hi
    refine Ev.step (fun _ => entrepotref08_matrix.l0.eq_2 ..) (Ev.neg (by rw [hw]; omega) (Ev.now _))
  | succ d ih =>
    intro i hi
    have next := ih (i + 1) (by omega)
    refine Ev.step (fun _ => entrepotref08_matrix.l0.eq_2 ..) (Ev.pos (by rw [hw]; omega) (Ev.pos (by omega) (Ev.pos (by omega) (Ev.bs (num_some _) ?_))))
    rw [w64s (i := i) (by omega), w64s (i := ns.length) (by omega), List.range'_succ, List.all_cons, show Int.tmod (i : Int) ((ns.length + 1 : Nat) : Int) = ((i % (ns.length + 1) : Nat) : Int) from rfl]
    unfold cellB at next ⊢
    by_cases h : numB (rd mx (i : Int)) = true
    · refine Ev.pos h (Ev.neg (by omega) ?_)
      rw [h, Bool.true_and]
      by_cases h2 : i % (ns.length + 1) = 0
      · refine Ev.pos (by omega) ?_
        rw [decide_eq_false (by omega), Bool.false_or]
        by_cases h3 : rd mx (i : Int) = 0
        · refine Ev.pos h3 ?_
          rw [decide_eq_true h3, Bool.true_and]; exact next
        · refine Ev.neg h3 (Ev.this ?_)
          rw [decide_eq_false h3, Bool.false_and]
      · refine Ev.neg (by omega) ?_
        rw [decide_eq_true (by omega), Bool.true_or, Bool.true_and]; exact next
    · refine Ev.neg h (Ev.this ?_)
      rw [Bool.eq_false_iff.2 h, Bool.false_and, Bool.false_and]
theorem matrix_ev (hn : ns.length ≤ 400) : Ev (fun k => entrepotref08_matrix.f k nm kd mt sc cp fl ns mx) (matrixB mt ns.length mx) := by
  have hsq : ns.length * ns.length ≤ 400 * 400 := Nat.mul_le_mul hn hn
  have hw : wrap64 ((ns.length : Int) * (ns.length : Int)) = ((ns.length * ns.length : Nat) : Int) := by rw [← Int.natCast_mul]; exact w64 (by omega) (by omega)
  unfold entrepotref08_matrix.f matrixB
  by_cases h : mt = 0
  · refine Ev.pos h ?_
    rw [if_pos h]
    by_cases h2 : mx.length = ns.length * ns.length
    · refine Ev.pos (by rw [hw]; omega) ?_
      rw [decide_eq_true h2, Bool.true_and, List.range_eq_range']
      exact matrix_from nm kd mt sc cp fl ns mx hn h2 _ 0 (by omega)
    · refine Ev.neg (by rw [hw]; omega) (Ev.this ?_)
      rw [decide_eq_false h2, Bool.false_and]
  · refine Ev.neg h (Ev.this ?_)
    rw [if_neg h]
    congr 1
    by_cases h2 : mx.length = 0
    · rw [decide_eq_true h2, h2]; rfl
    · rw [decide_eq_false h2, beq_eq_false_iff_ne.2 (by omega)]

def coordB (mt : Int) (d : Node) : Bool := sigB d.f0 && sigB d.f1 && (decide (mt ≠ 0) || decide (d.f0 = 0 ∧ d.f1 = 0))
theorem coord_some {i : Nat} (hi : i < ns.length) : entrepotref08_coord.f nm kd mt sc cp fl ns mx (i : Int) = some (coordB mt (rdN ns (i : Int))) := by
  unfold entrepotref08_coord.f coordB rdN
  rw [if_pos (by omega), if_pos (by omega), sig_some, sig_some]
  generalize rd_T60 ns (i : Int) = d
  rw [Option.bind_some]
  cases h0 : sigB d.f0
  · rfl
  · rw [if_pos rfl, Option.bind_some]
    cases h1 : sigB d.f1
    · rfl
    · rw [if_pos rfl]
      by_cases h : mt = 0
      · rw [if_pos h, decide_eq_false (by omega)]
        by_cases h2 : d.f0 = 0
        · rw [if_pos h2]; congr 1; simp [h2]; rfl
        · rw [if_neg h2]; simp [h2]
      · rw [if_neg h, decide_eq_true h]; rfl
def demandB (kd : Int) (i : Nat) (d : Node) : Bool := if kd = 1 ∨ i = 0 then decide (d.f2 = 0) else numB d.f2 || (decide (kd = 4) && sigB d.f2)
theorem demand_ev {i : Nat} (hi : i < ns.length) : Ev (fun k => entrepotref08_demand.f k nm kd mt sc cp fl ns mx (i : Int)) (demandB kd i (rdN ns (i : Int))) := by
  unfold entrepotref08_demand.f demandB
  show Ev (fun k => if 0 ≤ (i : Int) then (if (i : Int) < (ns.length : Int) then (if kd = 1 then (entrepotref08_demand.j0 k ((rdN ns (i : Int)).f2) true nm kd mt sc cp fl ns mx) else (entrepotref08_demand.j0 k ((rdN ns (i : Int)).f2) ((i : Int) == 0) nm kd mt sc cp fl ns mx)) else none) else none) _
  generalize rdN ns (i : Int) = d
  refine Ev.pos (by omega) (Ev.pos (by omega) ?_)
  have yes : Ev (fun k => entrepotref08_demand.j0 k d.f2 true nm kd mt sc cp fl ns mx) (decide (d.f2 = 0)) :=
    Ev.step (fun _ => entrepotref08_demand.j0.eq_2 ..) (Ev.pos rfl (Ev.this rfl))
  by_cases h : kd = 1
  · refine Ev.pos h ?_
    rw [if_pos (.inl h)]; exact yes
  · refine Ev.neg h ?_
    by_cases h2 : i = 0
    · rw [if_pos (.inr h2), beq_iff_eq.2 (show (i : Int) = 0 by omega)]; exact yes
    · rw [if_neg (fun e => e.elim h h2), beq_eq_false_iff_ne.2 (show (i : Int) ≠ 0 by omega)]
      refine Ev.step (fun _ => entrepotref08_demand.j0.eq_2 ..) (Ev.neg (by simp) (Ev.bs (num_some _) ?_))
      cases hb : numB d.f2
      · refine Ev.neg (by simp) ?_
        by_cases h4 : kd = 4
        · refine Ev.pos h4 (Ev.bs (sig_some _) (Ev.this ?_))
          rw [decide_eq_true h4]; simp
        · refine Ev.neg h4 (Ev.this ?_)
          rw [decide_eq_false h4]; rfl
      · exact Ev.pos rfl (Ev.now _)
def windowB (kd : Int) (d : Node) : Bool := if kd = 1 ∨ kd = 2 then decide (d.f3 = 0 ∧ d.f4 = 0) else numB d.f3 && numB d.f4 && decide (d.f3 ≤ d.f4)
theorem window_ev {i : Nat} (hi : i < ns.length) : Ev (fun k => entrepotref08_window.f k nm kd mt sc cp fl ns mx (i : Int)) (windowB kd (rdN ns (i : Int))) := by
  unfold entrepotref08_window.f windowB
  show Ev (fun k => if 0 ≤ (i : Int) then (if (i : Int) < (ns.length : Int) then (if kd = 1 then (entrepotref08_window.j0 k true (rdN ns (i : Int)).f0 (rdN ns (i : Int)).f1 (rdN ns (i : Int)).f2 (rdN ns (i : Int)).f3 (rdN ns (i : Int)).f4 (rdN ns (i : Int)).f5 (rdN ns (i : Int)).f6) else (entrepotref08_window.j0 k (kd == 2) (rdN ns (i : Int)).f0 (rdN ns (i : Int)).f1 (rdN ns (i : Int)).f2 (rdN ns (i : Int)).f3 (rdN ns (i : Int)).f4 (rdN ns (i : Int)).f5 (rdN ns (i : Int)).f6)) else none) else none) _
  generalize rdN ns (i : Int) = d
  refine Ev.pos (by omega) (Ev.pos (by omega) ?_)
  have yes : Ev (fun k => entrepotref08_window.j0 k true d.f0 d.f1 d.f2 d.f3 d.f4 d.f5 d.f6) (decide (d.f3 = 0 ∧ d.f4 = 0)) := by
    refine Ev.step (fun _ => entrepotref08_window.j0.eq_2 ..) (Ev.pos rfl ?_)
    by_cases h : d.f3 = 0
    · refine Ev.pos h (Ev.this ?_)
      congr 1; simp [h]; rfl
    · refine Ev.neg h (Ev.this ?_)
      rw [decide_eq_false (fun e => h e.1)]
  by_cases h : kd = 1
  · refine Ev.pos h ?_
    rw [if_pos (.inl h)]; exact yes
  · refine Ev.neg h ?_
    by_cases h2 : kd = 2
    · rw [if_pos (.inr h2), beq_iff_eq.2 h2]; exact yes
    · rw [if_neg (fun e => e.elim h h2), beq_eq_false_iff_ne.2 h2]
      refine Ev.step (fun _ => entrepotref08_window.j0.eq_2 ..) (Ev.neg (by simp) (Ev.bs (num_some _) ?_))
      cases hb : numB d.f3
      · exact Ev.neg (by simp) (Ev.now _)
      · refine Ev.pos rfl (Ev.bs (num_some _) ?_)
        cases hc : numB d.f4
        · exact Ev.neg (by simp) (Ev.now _)
        · exact Ev.pos rfl (Ev.this (by simp))
def serviceB (kd : Int) (d : Node) : Bool := if kd = 1 ∨ kd = 2 then decide (d.f5 = 0) else numB d.f5
theorem service_some {i : Nat} (hi : i < ns.length) : entrepotref08_service.f nm kd mt sc cp fl ns mx (i : Int) = some (serviceB kd (rdN ns (i : Int))) := by
  unfold entrepotref08_service.f serviceB
  rw [if_pos (by omega), if_pos (by omega), num_some]
  by_cases h : kd = 1
  · rw [if_pos h, if_pos (.inl h)]; rfl
  · rw [if_neg h]
    by_cases h2 : kd = 2
    · rw [if_pos h2, if_pos (.inr h2)]; rfl
    · rw [if_neg h2, if_neg (fun e => e.elim h h2)]; rfl
def mateB (kd : Int) (ns : List Node) (i : Nat) : Bool :=
  if kd = 4 ∧ i ≠ 0 then decide (1 ≤ (rdN ns (i : Int)).f6 ∧ (rdN ns (i : Int)).f6 < (ns.length : Int) ∧ (rdN ns (i : Int)).f6 ≠ (i : Int) ∧ (rdN ns (rdN ns (i : Int)).f6).f6 = (i : Int) ∧ (rdN ns (i : Int)).f2 ≠ 0 ∧ (rdN ns (rdN ns (i : Int)).f6).f2 = wrap64 (-(rdN ns (i : Int)).f2)) else decide ((rdN ns (i : Int)).f6 = 0)
theorem mate_ev {i : Nat} (hi : i < ns.length) : Ev (fun k => entrepotref08_mate.f k nm kd mt sc cp fl ns mx (i : Int)) (mateB kd ns i) := by
  unfold entrepotref08_mate.f mateB
  refine Ev.pos (by omega) (Ev.pos (by omega) ?_)
  have yes : Ev (fun k => entrepotref08_mate.j0 k (i : Int) (rdN ns (i : Int)).f6 true nm kd mt sc cp fl ns mx) (decide ((rdN ns (i : Int)).f6 = 0)) :=
    Ev.step (fun _ => entrepotref08_mate.j0.eq_2 ..) (Ev.pos rfl (Ev.this rfl))
  by_cases h : kd = 4
  · refine Ev.pos h ?_
    by_cases h2 : i = 0
    · rw [if_neg (fun e => e.2 h2), beq_iff_eq.2 (show (i : Int) = 0 by omega)]; exact yes
    · rw [if_pos ⟨h, h2⟩, beq_eq_false_iff_ne.2 (show (i : Int) ≠ 0 by omega)]
      refine Ev.step (fun _ => entrepotref08_mate.j0.eq_2 ..) (Ev.neg (by simp) ?_)
      show Ev (fun _ => if (rdN ns (i : Int)).f6 < 1 then _ else _) _
      generalize hm : (rdN ns (i : Int)).f6 = m at *
      by_cases c1 : m < 1
      · exact Ev.pos c1 (Ev.this (by rw [decide_eq_false (fun e => by omega)]))
      · refine Ev.neg c1 ?_
        by_cases c2 : m ≥ (ns.length : Int)
        · exact Ev.pos c2 (Ev.this (by rw [decide_eq_false (fun e => by omega)]))
        · refine Ev.neg c2 ?_
          by_cases c3 : m = (i : Int)
          · exact Ev.pos c3 (Ev.this (by rw [decide_eq_false (fun e => e.2.2.1 c3)]))
          · refine Ev.neg c3 (Ev.pos (by omega) (Ev.pos (by omega) ?_))
            by_cases c4 : (rdN ns m).f6 = (i : Int)
            · refine Ev.pos c4 (Ev.pos (by omega) (Ev.pos (by omega) ?_))
              by_cases c5 : (rdN ns (i : Int)).f2 = 0
              · exact Ev.pos c5 (Ev.this (by rw [decide_eq_false (fun e => e.2.2.2.2.1 c5)]))
              · refine Ev.neg c5 (Ev.this ?_)
                congr 1
                by_cases c6 : (rdN ns m).f2 = wrap64 (-(rdN ns (i : Int)).f2)
                · rw [decide_eq_true ⟨by omega, by omega, c3, c4, c5, c6⟩]; exact beq_iff_eq.2 c6
                · rw [decide_eq_false (fun e => c6 e.2.2.2.2.2)]; exact beq_eq_false_iff_ne.2 c6
            · exact Ev.neg c4 (Ev.this (by rw [decide_eq_false (fun e => c4 e.2.2.2.1)]))
  · refine Ev.neg h ?_
    rw [if_neg (fun e => h e.1)]; exact yes

/-- A fault where something is not so. -/
def opt (b : Bool) (f : Fault) : List Fault := if b = true then [] else [f]
theorem opt_le (b : Bool) (f : Fault) : (opt b f).length ≤ 1 := by unfold opt; split <;> simp
theorem ev_opt {β : Type} (A : Nat → List Fault → Option β) {acc : List Fault} {b : Bool} {f : Fault} {N : Nat} {r : β} (hl : acc.length < N) (h : Ev (fun k => A k (acc ++ opt b f)) r) : Ev (fun k => if b = true then A k acc else if acc.length < N then A k (acc ++ [f]) else none) r := by
  cases b with
  | true => refine Ev.pos rfl ?_; simpa [Ref08.opt] using h
  | false => exact Ev.neg (by simp) (Ev.pos hl h)
theorem ev_optn {β : Type} (A : Nat → List Fault → Option β) {acc : List Fault} {b : Bool} {f : Fault} {N : Nat} {r : β} (hl : acc.length < N) (h : Ev (fun k => A k (acc ++ opt (!b) f)) r) : Ev (fun k => if b = true then (if acc.length < N then A k (acc ++ [f]) else none) else A k acc) r := by
  cases b with
  | true => exact Ev.pos rfl (Ev.pos hl h)
  | false => refine Ev.neg (by simp) ?_; simpa [Ref08.opt] using h
def kindB (kd : Int) : Bool := decide (1 ≤ kd ∧ kd ≤ 4)
def scaleB (mt sc : Int) : Bool := decide (0 ≤ sc ∧ sc ≤ 6 ∧ (mt = 0 → sc = 0))
def capB (kd cp : Int) : Bool := if kd = 1 then decide (cp = 0) else decide (1 ≤ cp ∧ cp ≤ 100000000)
def fleetB (kd fl : Int) : Bool := if kd = 1 then decide (fl = 0) else decide (0 ≤ fl ∧ fl ≤ 400)
def headOf : List Fault := opt (nameB nm) ⟨1, 0⟩ ++ opt (kindB kd) ⟨2, 0⟩ ++ opt (knownB mt) ⟨3, 0⟩ ++ opt (scaleB mt sc) ⟨4, 0⟩ ++ opt (capB kd cp) ⟨5, 0⟩ ++ opt (fleetB kd fl) ⟨6, 0⟩
def nodeOf (kd mt : Int) (ns : List Node) (i : Nat) : List Fault :=
  opt (coordB mt (rdN ns (i : Int))) ⟨9, i⟩ ++ opt (demandB kd i (rdN ns (i : Int))) ⟨10, i⟩ ++ opt (windowB kd (rdN ns (i : Int))) ⟨11, i⟩ ++ opt (serviceB kd (rdN ns (i : Int))) ⟨12, i⟩ ++ opt (mateB kd ns i) ⟨13, i⟩
/-- The faults of an instance. -/
def faultsOf : List Fault :=
  if ns.length < 1 ∨ 400 < ns.length then headOf nm kd mt sc cp fl ++ [⟨7, 0⟩] else headOf nm kd mt sc cp fl ++ opt (matrixB mt ns.length mx) ⟨8, 0⟩ ++ (List.range ns.length).flatMap (nodeOf kd mt ns)
theorem nodeOf_le (i : Nat) : (nodeOf kd mt ns i).length ≤ 5 := by
  unfold nodeOf
  simp only [List.length_append]
  have h1 := opt_le (coordB mt (rdN ns (i : Int))) ⟨9, i⟩
  have h2 := opt_le (demandB kd i (rdN ns (i : Int))) ⟨10, i⟩
  have h3 := opt_le (windowB kd (rdN ns (i : Int))) ⟨11, i⟩
  have h4 := opt_le (serviceB kd (rdN ns (i : Int))) ⟨12, i⟩
  have h5 := opt_le (mateB kd ns i) ⟨13, i⟩
  omega
theorem headOf_le : (headOf nm kd mt sc cp fl).length ≤ 6 := by
  unfold headOf
  simp only [List.length_append]
  have h1 := opt_le (nameB nm) ⟨1, 0⟩
  have h2 := opt_le (kindB kd) ⟨2, 0⟩
  have h3 := opt_le (knownB mt) ⟨3, 0⟩
  have h4 := opt_le (scaleB mt sc) ⟨4, 0⟩
  have h5 := opt_le (capB kd cp) ⟨5, 0⟩
  have h6 := opt_le (fleetB kd fl) ⟨6, 0⟩
  omega
theorem nodes_from (hn : ns.length ≤ 400) (d : Nat) : ∀ (i : Nat) (acc : List Fault), i + d = ns.length → acc.length ≤ 5 * i + 10 →
    Ev (fun k => entrepotref08_Check.l0 k acc (ns.length : Int) (i : Int) nm kd mt sc cp fl ns mx) (acc ++ (List.range' i d).flatMap (nodeOf kd mt ns)) := by
  induction d with
  | zero =>
    intro i acc hi ha
    refine Ev.step (fun _ => entrepotref08_Check.l0.eq_2 ..) (Ev.neg (by omega) (Ev.this ?_))
    simp
  | succ d ih =>
    intro i acc hi ha
    have hlt : i < ns.length := by omega
    have h5 := nodeOf_le kd mt ns i
    have next := ih (i + 1) (acc ++ nodeOf kd mt ns i) (by omega) (by rw [List.length_append]; omega)
    rw [List.range'_succ, List.flatMap_cons, ← List.append_assoc]
    unfold nodeOf at next h5 ⊢
    rw [← List.append_assoc, ← List.append_assoc, ← List.append_assoc, ← List.append_assoc] at next ⊢
    simp only [List.length_append] at h5
    refine Ev.step (fun _ => entrepotref08_Check.l0.eq_2 ..) (Ev.pos (by omega) (Ev.bs (coord_some nm kd mt sc cp fl ns mx hlt) ?_))
    refine ev_opt (fun k a => entrepotref08_Check.j13 k a (ns.length : Int) (i : Int) nm kd mt sc cp fl ns mx) (by omega) ?_
    refine Ev.step (fun _ => entrepotref08_Check.j13.eq_2 ..) (Ev.bind (demand_ev nm kd mt sc cp fl ns mx hlt) ?_)
    refine ev_opt (fun k a => entrepotref08_Check.j14 k a (ns.length : Int) (i : Int) nm kd mt sc cp fl ns mx) (by rw [List.length_append]; omega) ?_
    refine Ev.step (fun _ => entrepotref08_Check.j14.eq_2 ..) (Ev.bind (window_ev nm kd mt sc cp fl ns mx hlt) ?_)
    refine ev_opt (fun k a => entrepotref08_Check.j15 k a (ns.length : Int) (i : Int) nm kd mt sc cp fl ns mx) (by simp only [List.length_append]; omega) ?_
    refine Ev.step (fun _ => entrepotref08_Check.j15.eq_2 ..) (Ev.bs (service_some nm kd mt sc cp fl ns mx hlt) ?_)
    rw [w64s (by omega)]
    have last : ∀ {acc : List Fault} {r : List Fault}, acc.length ≤ 5 * i + 20 → Ev (fun k => entrepotref08_Check.l0 k (acc ++ opt (mateB kd ns i) ⟨13, i⟩) (ns.length : Int) ((i + 1 : Nat) : Int) nm kd mt sc cp fl ns mx) r →
        Ev (fun k => (entrepotref08_mate.f k nm kd mt sc cp fl ns mx (i : Int)).bind fun t => if t = true then entrepotref08_Check.l0 k acc (ns.length : Int) ((i + 1 : Nat) : Int) nm kd mt sc cp fl ns mx else if acc.length < 8796093022208 then entrepotref08_Check.l0 k (acc ++ [⟨13, (i : Int)⟩]) (ns.length : Int) ((i + 1 : Nat) : Int) nm kd mt sc cp fl ns mx else none) r := fun hl h =>
      Ev.bind (mate_ev nm kd mt sc cp fl ns mx hlt) (ev_opt (fun k a => entrepotref08_Check.l0 k a (ns.length : Int) ((i + 1 : Nat) : Int) nm kd mt sc cp fl ns mx) (by omega) h)
    cases hsv : serviceB kd (rdN ns (i : Int)) with
    | true =>
      rw [hsv] at next
      refine Ev.pos rfl (last (by simp only [List.length_append]; omega) ?_)
      simpa [opt] using next
    | false =>
      rw [hsv] at next
      refine Ev.neg (by simp) (Ev.pos (by simp only [List.length_append]; omega) (Ev.bs rfl (last (by simp only [List.length_append, List.length_cons, List.length_nil]; omega) ?_)))
      exact next
theorem check_ev (hs : nm.size ≤ 4611686018427387904) : Ev (fun k => entrepotref08_Check.f k nm kd mt sc cp fl ns mx) (faultsOf nm kd mt sc cp fl ns mx) := by
  have hh := headOf_le nm kd mt sc cp fl
  unfold entrepotref08_Check.f faultsOf
  unfold headOf at hh ⊢
  simp only [List.length_append] at hh
  refine Ev.bs rfl (Ev.bind (name_ev nm hs) ?_)
  refine ev_opt (fun k a => entrepotref08_Check.j0 k a nm kd mt sc cp fl ns mx) (by simp) ?_
  rw [List.nil_append]
  refine Ev.step (fun _ => entrepotref08_Check.j0.eq_2 ..) ?_
  have j1 : ∀ {acc : List Fault} {b : Bool} {r : List Fault}, acc.length ≤ 6 → Ev (fun k => entrepotref08_Check.j2 k (acc ++ opt (!b) ⟨2, 0⟩) nm kd mt sc cp fl ns mx) r → Ev (fun k => entrepotref08_Check.j1 k acc b nm kd mt sc cp fl ns mx) r := fun hl h =>
    Ev.step (fun _ => entrepotref08_Check.j1.eq_2 ..) (ev_optn (fun k a => entrepotref08_Check.j2 k a nm kd mt sc cp fl ns mx) (by omega) h)
  have j4 : ∀ {acc : List Fault} {b : Bool} {r : List Fault}, acc.length ≤ 6 → Ev (fun k => entrepotref08_Check.j5 k (acc ++ opt (!b) ⟨4, 0⟩) nm kd mt sc cp fl ns mx) r → Ev (fun k => entrepotref08_Check.j4 k acc b nm kd mt sc cp fl ns mx) r := fun hl h =>
    Ev.step (fun _ => entrepotref08_Check.j4.eq_2 ..) (ev_optn (fun k a => entrepotref08_Check.j5 k a nm kd mt sc cp fl ns mx) (by omega) h)
  have j6 : ∀ {acc : List Fault} {b : Bool} {r : List Fault}, acc.length ≤ 6 → Ev (fun k => entrepotref08_Check.j7 k (acc ++ opt (!b) ⟨5, 0⟩) nm kd mt sc cp fl ns mx) r → Ev (fun k => entrepotref08_Check.j6 k acc b nm kd mt sc cp fl ns mx) r := fun hl h =>
    Ev.step (fun _ => entrepotref08_Check.j6.eq_2 ..) (ev_optn (fun k a => entrepotref08_Check.j7 k a nm kd mt sc cp fl ns mx) (by omega) h)
  have j8 : ∀ {acc : List Fault} {b : Bool} {r : List Fault}, acc.length ≤ 6 → Ev (fun k => entrepotref08_Check.j9 k (acc ++ opt (!b) ⟨6, 0⟩) nm kd mt sc cp fl ns mx) r → Ev (fun k => entrepotref08_Check.j8 k acc b nm kd mt sc cp fl ns mx) r := fun hl h =>
    Ev.step (fun _ => entrepotref08_Check.j8.eq_2 ..) (ev_optn (fun k a => entrepotref08_Check.j9 k a nm kd mt sc cp fl ns mx) (by omega) h)
  have k1 : ∀ {r : List Fault}, Ev (fun k => entrepotref08_Check.j2 k (opt (nameB nm) ⟨1, 0⟩ ++ opt (kindB kd) ⟨2, 0⟩) nm kd mt sc cp fl ns mx) r → Ev (fun k => if kd < 1 then (entrepotref08_Check.j1 k (opt (nameB nm) ⟨1, 0⟩) true nm kd mt sc cp fl ns mx) else (entrepotref08_Check.j1 k (opt (nameB nm) ⟨1, 0⟩) (decide (kd > 4)) nm kd mt sc cp fl ns mx)) r := fun h => by
    by_cases c : kd < 1
    · refine Ev.pos c (j1 (by omega) ?_)
      rwa [show kindB kd = !true by unfold kindB; rw [decide_eq_false (by omega)]; rfl] at h
    · refine Ev.neg c (j1 (by omega) ?_)
      rwa [show kindB kd = !decide (kd > 4) by unfold kindB; rw [← decide_not, decide_eq_decide]; omega] at h
  refine k1 (Ev.step (fun _ => entrepotref08_Check.j2.eq_2 ..) (Ev.bs (known_some mt) ?_))
  refine ev_opt (fun k a => entrepotref08_Check.j3 k a nm kd mt sc cp fl ns mx) (by simp only [List.length_append]; omega) (Ev.step (fun _ => entrepotref08_Check.j3.eq_2 ..) ?_)
  have k4 : ∀ {acc r : List Fault}, acc.length ≤ 6 → Ev (fun k => entrepotref08_Check.j5 k (acc ++ opt (scaleB mt sc) ⟨4, 0⟩) nm kd mt sc cp fl ns mx) r → Ev (fun k => if sc < 0 then (entrepotref08_Check.j4 k acc true nm kd mt sc cp fl ns mx) else (if sc > 6 then (entrepotref08_Check.j4 k acc true nm kd mt sc cp fl ns mx) else (if mt = 0 then (entrepotref08_Check.j4 k acc (sc != 0) nm kd mt sc cp fl ns mx) else (entrepotref08_Check.j4 k acc false nm kd mt sc cp fl ns mx)))) r := fun hl h => by
    by_cases c : sc < 0
    · refine Ev.pos c (j4 hl ?_)
      rwa [show scaleB mt sc = !true by unfold scaleB; rw [decide_eq_false (by omega)]; rfl] at h
    · refine Ev.neg c ?_
      by_cases c2 : sc > 6
      · refine Ev.pos c2 (j4 hl ?_)
        rwa [show scaleB mt sc = !true by unfold scaleB; rw [decide_eq_false (by omega)]; rfl] at h
      · refine Ev.neg c2 ?_
        by_cases c3 : mt = 0
        · refine Ev.pos c3 (j4 hl ?_)
          rwa [show scaleB mt sc = !(sc != 0) by
            unfold scaleB
            by_cases c4 : sc = 0
            · rw [decide_eq_true ⟨by omega, by omega, fun _ => c4⟩, bne_eq_false_iff_eq.2 c4]; rfl
            · rw [decide_eq_false (fun e => c4 (e.2.2 c3)), bne_iff_ne.2 c4]; rfl] at h
        · refine Ev.neg c3 (j4 hl ?_)
          rwa [show scaleB mt sc = !false by unfold scaleB; rw [decide_eq_true ⟨by omega, by omega, fun e => absurd e c3⟩]; rfl] at h
  refine k4 (by simp only [List.length_append]; omega) (Ev.step (fun _ => entrepotref08_Check.j5.eq_2 ..) ?_)
  have k6 : ∀ {acc r : List Fault}, acc.length ≤ 6 → Ev (fun k => entrepotref08_Check.j7 k (acc ++ opt (capB kd cp) ⟨5, 0⟩) nm kd mt sc cp fl ns mx) r → Ev (fun k => if kd = 1 then (if cp = 0 then (entrepotref08_Check.j6 k acc false nm kd mt sc cp fl ns mx) else (entrepotref08_Check.j6 k acc true nm kd mt sc cp fl ns mx)) else (if cp < 1 then (entrepotref08_Check.j6 k acc true nm kd mt sc cp fl ns mx) else (entrepotref08_Check.j6 k acc (decide (cp > 100000000)) nm kd mt sc cp fl ns mx))) r := fun hl h => by
    unfold capB at h
    by_cases c : kd = 1
    · rw [if_pos c] at h
      refine Ev.pos c ?_
      by_cases c2 : cp = 0
      · refine Ev.pos c2 (j6 hl ?_)
        rwa [decide_eq_true c2] at h
      · refine Ev.neg c2 (j6 hl ?_)
        rwa [decide_eq_false c2] at h
    · rw [if_neg c] at h
      refine Ev.neg c ?_
      by_cases c2 : cp < 1
      · refine Ev.pos c2 (j6 hl ?_)
        rwa [decide_eq_false (by omega)] at h
      · refine Ev.neg c2 (j6 hl ?_)
        rwa [show decide (1 ≤ cp ∧ cp ≤ 100000000) = !decide (cp > 100000000) by rw [← decide_not, decide_eq_decide]; omega] at h
  refine k6 (by simp only [List.length_append]; omega) (Ev.step (fun _ => entrepotref08_Check.j7.eq_2 ..) ?_)
  have k8 : ∀ {acc r : List Fault}, acc.length ≤ 6 → Ev (fun k => entrepotref08_Check.j9 k (acc ++ opt (fleetB kd fl) ⟨6, 0⟩) nm kd mt sc cp fl ns mx) r → Ev (fun k => if kd = 1 then (if fl = 0 then (entrepotref08_Check.j8 k acc false nm kd mt sc cp fl ns mx) else (entrepotref08_Check.j8 k acc true nm kd mt sc cp fl ns mx)) else (if fl < 0 then (entrepotref08_Check.j8 k acc true nm kd mt sc cp fl ns mx) else (entrepotref08_Check.j8 k acc (decide (fl > 400)) nm kd mt sc cp fl ns mx))) r := fun hl h => by
    unfold fleetB at h
    by_cases c : kd = 1
    · rw [if_pos c] at h
      refine Ev.pos c ?_
      by_cases c2 : fl = 0
      · refine Ev.pos c2 (j8 hl ?_)
        rwa [decide_eq_true c2] at h
      · refine Ev.neg c2 (j8 hl ?_)
        rwa [decide_eq_false c2] at h
    · rw [if_neg c] at h
      refine Ev.neg c ?_
      by_cases c2 : fl < 0
      · refine Ev.pos c2 (j8 hl ?_)
        rwa [decide_eq_false (by omega)] at h
      · refine Ev.neg c2 (j8 hl ?_)
        rwa [show decide (0 ≤ fl ∧ fl ≤ 400) = !decide (fl > 400) by rw [← decide_not, decide_eq_decide]; omega] at h
  refine k8 (by simp only [List.length_append]; omega) (Ev.step (fun _ => entrepotref08_Check.j9.eq_2 ..) ?_)
  have hl : (opt (nameB nm) ⟨1, 0⟩ ++ opt (kindB kd) ⟨2, 0⟩ ++ opt (knownB mt) ⟨3, 0⟩ ++ opt (scaleB mt sc) ⟨4, 0⟩ ++ opt (capB kd cp) ⟨5, 0⟩ ++ opt (fleetB kd fl) ⟨6, 0⟩ : List Fault).length ≤ 6 := by simp only [List.length_append]; omega
  clear k1 k4 k6 k8 j1 j4 j6 j8 hh
  generalize (opt (nameB nm) ⟨1, 0⟩ ++ opt (kindB kd) ⟨2, 0⟩ ++ opt (knownB mt) ⟨3, 0⟩ ++ opt (scaleB mt sc) ⟨4, 0⟩ ++ opt (capB kd cp) ⟨5, 0⟩ ++ opt (fleetB kd fl) ⟨6, 0⟩ : List Fault) = acc at *
  by_cases c : (ns.length : Int) < 1
  · exact Ev.eq (Ev.pos c (Ev.step (fun _ => entrepotref08_Check.j10.eq_2 ..) (Ev.pos rfl (Ev.pos (by omega) (Ev.now _))))) (if_pos (by omega)).symm
  · refine Ev.neg c (Ev.step (fun _ => entrepotref08_Check.j10.eq_2 ..) ?_)
    by_cases c2 : (ns.length : Int) > 400
    · exact Ev.eq (Ev.pos (decide_eq_true c2) (Ev.pos (by omega) (Ev.now _))) (if_pos (by omega)).symm
    · refine Ev.eq (Ev.neg (by simpa using c2) (Ev.bind (matrix_ev nm kd mt sc cp fl ns mx (by omega)) ?_)) (if_neg (by omega)).symm
      have hm := opt_le (matrixB mt ns.length mx) ⟨8, 0⟩
      refine ev_opt (fun k a => entrepotref08_Check.j11 k a (ns.length : Int) nm kd mt sc cp fl ns mx) (by omega) (Ev.step (fun _ => entrepotref08_Check.j11.eq_2 ..) ?_)
      have := nodes_from nm kd mt sc cp fl ns mx (by omega) ns.length 0 (acc ++ opt (matrixB mt ns.length mx) ⟨8, 0⟩) (by omega) (by rw [List.length_append]; omega)
      rwa [← List.range_eq_range'] at this
def wellB : Bool := decide (faultsOf nm kd mt sc cp fl ns mx = [])
theorem well_ev (hs : nm.size ≤ 4611686018427387904) : Ev (fun k => entrepotref08_Well.f k nm kd mt sc cp fl ns mx) (wellB nm kd mt sc cp fl ns mx) := by
  unfold entrepotref08_Well.f wellB
  refine Ev.bind (check_ev nm kd mt sc cp fl ns mx hs) (Ev.this ?_)
  congr 1
  generalize faultsOf nm kd mt sc cp fl ns mx = l
  cases l with
  | nil => rfl
  | cons a t => rw [decide_eq_false (by simp), beq_eq_false_iff_ne.2 (by simp; omega)]
end Ref08
end Go.Proofs.Ytfnnngoandpgkaa
namespace Go.Proofs.Ytfnnngoandpgkaa
open Go.RowKit Go.Proofs.YtfnnngoandpgkaaW.PrintWords Go.Proofs.YtfnnngoandpgkaaW.PrintLast P
set_option linter.unusedVariables false
namespace CanonL
/-! The program's tests are the reference's. -/
def Wide (a : Int) : Prop := -9223372036854775808 ≤ a ∧ a ≤ 9223372036854775807
theorem ofInt_zero {a : Int} (h : Wide a) : BitVec.ofInt 64 a = 0#64 ↔ a = 0 := by
  unfold Wide at h
  constructor
  · intro e
    have := congrArg BitVec.toNat e
    rw [BitVec.toNat_ofInt] at this
    simp at this
    omega
  · rintro rfl; rfl
theorem orz_eq {a b : Int} (ha : Wide a) (hb : Wide b) : CanonWalk.orz a b = decide (a = 0 ∧ b = 0) := by
  unfold CanonWalk.orz bits
  simp only
  have hk : IntKind.i64.bits = 64 := rfl
  rw [hk]
  have hw : ∀ x : BitVec 64, (IntKind.i64.wrap (x.toNat : Int) == 0) = decide (x = 0#64) := by
    intro x
    have hlt := x.isLt
    rw [show IntKind.i64.wrap (x.toNat : Int) = wrap64 (x.toNat : Int) from (i64_w _)]
    by_cases h : x = 0#64
    · subst h; decide +kernel
    · rw [decide_eq_false h, beq_eq_false_iff_ne]
      intro e
      apply h
      apply BitVec.eq_of_toNat_eq
      have : x.toNat = 0 := by unfold wrap64 at e; omega
      rw [this]; rfl
  rw [hw, decide_eq_decide, BitVec.or_eq_zero_iff, ofInt_zero ha, ofInt_zero hb]
theorem name_eq (s : ByteArray) : CanonWalk.nameB s = Ref08.nameB s := rfl
theorem opt_conv (b : Bool) (f : F1) : (CanonWalk.opt b f).map convF = Ref08.opt b (convF f) := by unfold CanonWalk.opt Ref08.opt; cases b <;> rfl
theorem scale_eq (mt sc : Int) : CanonWalk.scaleB mt sc = Ref08.scaleB mt sc := by
  unfold CanonWalk.scaleB Ref08.scaleB
  rw [← Bool.decide_or, ← Bool.decide_and, decide_eq_decide]; omega
theorem cap_eq (kd cp : Int) : CanonWalk.limitB kd cp 1 100000000 = Ref08.capB kd cp := rfl
theorem fleet_eq (kd fl : Int) : CanonWalk.limitB kd fl 0 400 = Ref08.fleetB kd fl := rfl
def WideN (d : N1) : Prop := Wide d.f0 ∧ Wide d.f1 ∧ Wide d.f2 ∧ Wide d.f3 ∧ Wide d.f4 ∧ Wide d.f5 ∧ Wide d.f6
theorem coord_eq (mt : Int) {d : N1} (h : WideN d) : CanonWalk.coordB mt d = Ref08.coordB mt (conv d) := by
  unfold CanonWalk.coordB Ref08.coordB conv
  rw [orz_eq h.1 h.2.1]; rfl
theorem window_eq (kd : Int) {d : N1} (h : WideN d) : CanonWalk.windowB kd d = Ref08.windowB kd (conv d) := by
  unfold CanonWalk.windowB Ref08.windowB conv
  rw [orz_eq h.2.2.2.1 h.2.2.2.2.1]; rfl
theorem service_eq (kd : Int) (d : N1) : CanonWalk.serviceB kd d = Ref08.serviceB kd (conv d) := rfl
theorem num_sig {n : Int} (h : CanonWalk.numB n = true) : CanonWalk.sigB n = true := by
  unfold CanonWalk.numB at h
  unfold CanonWalk.sigB
  have := of_decide_eq_true h
  exact decide_eq_true (by omega)
theorem demand_eq (kd : Int) (i : Nat) (d : N1) : CanonWalk.demandB kd (i : Int) d = Ref08.demandB kd i (conv d) := by
  unfold CanonWalk.demandB Ref08.demandB conv
  by_cases h : kd = 1 ∨ i = 0
  · rw [if_pos (by omega), if_pos h]
  · rw [if_neg (by omega), if_neg h]
    by_cases h4 : kd = 4
    · rw [if_pos h4, decide_eq_true h4, Bool.true_and]
      show CanonWalk.sigB d.f2 = (CanonWalk.numB d.f2 || CanonWalk.sigB d.f2)
      cases hn : CanonWalk.numB d.f2 with
      | true => rw [num_sig hn]; rfl
      | false => rfl
    · rw [if_neg h4, decide_eq_false h4, Bool.false_and, Bool.or_false]; rfl
theorem conv_at {l : List N1} {i : Nat} (h : i < l.length) : rd_T60 (l.map conv) (i : Int) = conv l[i] := by
  rw [rdN2_at (by simpa using h)]; simp
theorem mate_eq (kd : Int) {l : List N1} {i : Nat} (h : i < l.length) : CanonWalk.mateB kd l (i : Int) l[i] = Ref08.mateB kd (l.map conv) i := by
  unfold CanonWalk.mateB Ref08.mateB
  rw [show Ref08.rdN (l.map conv) (i : Int) = conv l[i] from conv_at h]
  generalize l[i] = d
  by_cases hk : kd = 4 ∧ i ≠ 0
  · rw [if_neg (by omega), if_pos hk]
    simp only [conv, List.length_map]
    by_cases h1 : 1 ≤ d.f6 ∧ d.f6 ≤ (l.length : Int) - 1 ∧ d.f6 ≠ i
    · obtain ⟨m, hm⟩ : ∃ m : Nat, d.f6 = (m : Int) := ⟨d.f6.toNat, by omega⟩
      have hml : m < l.length := by omega
      rw [if_pos h1]
      rw [hm, show Ref08.rdN (l.map conv) (m : Int) = conv l[m] from conv_at hml, rdN_at hml]
      unfold CanonWalk.pairB conv
      rw [← hm]
      simp only []
      by_cases e1 : l[m].f6 = (i : Int)
      · by_cases e2 : d.f2 = 0
        · rw [decide_eq_false (fun e => e.2.2.2.2.1 e2), bne_eq_false_iff_eq.2 e2, Bool.and_false]; rfl
        · by_cases e3 : l[m].f2 = wrap64 (-d.f2)
          · rw [decide_eq_true ⟨h1.1, by omega, h1.2.2, e1, e2, e3⟩, beq_iff_eq.2 e1, bne_iff_ne.2 e2, beq_iff_eq.2 e3]; rfl
          · rw [decide_eq_false (fun e => e3 e.2.2.2.2.2), beq_eq_false_iff_ne.2 e3, Bool.and_false]
      · rw [decide_eq_false (fun e => e1 e.2.2.2.1), beq_eq_false_iff_ne.2 e1]; rfl
    · rw [if_neg h1, decide_eq_false (by intro e; exact h1 ⟨e.1, by omega, e.2.2.1⟩)]
  · rw [if_pos (by omega), if_neg hk]; rfl
theorem sq_lt {n q r : Nat} (hr : r < n + 1) (h : q * (n + 1) + r < n * n) : q < n := by
  have : q * (n + 1) < n * n := by omega
  rcases Nat.lt_or_ge q n with h1 | h1
  · exact h1
  · have h2 : n * (n + 1) ≤ q * (n + 1) := Nat.mul_le_mul_right _ h1
    have h3 : n * (n + 1) = n * n + n := by rw [Nat.mul_add, Nat.mul_one]
    omega
theorem matrix_eq (mt : Int) (n : Nat) (mx : List Int) : CanonWalk.matrixB mt n mx = Ref08.matrixB mt n mx := by
  unfold CanonWalk.matrixB Ref08.matrixB
  by_cases h : mt = 0
  · rw [if_pos h, if_pos h]
    by_cases hl : mx.length = n * n
    · rw [decide_eq_true hl, Bool.true_and, Bool.true_and, Bool.eq_iff_iff, Bool.and_eq_true, List.all_eq_true, List.all_eq_true, List.all_eq_true]
      constructor
      · rintro ⟨h1, h2⟩ i hi
        have hi := List.mem_range.1 hi
        have hn := h1 (rd mx (i : Int)) (by rw [rd_at (by omega)]; exact List.getElem_mem _)
        unfold Ref08.cellB
        rw [show Ref08.numB (rd mx (i : Int)) = true from hn, Bool.true_and, Bool.or_eq_true]
        by_cases hz : i % (n + 1) = 0
        · right
          have hq : i = (i / (n + 1)) * (n + 1) := by have := Nat.div_add_mod i (n + 1); rw [Nat.mul_comm] at this; omega
          have hlt : i / (n + 1) < n := sq_lt (r := 0) (by omega) (by omega)
          have h3 := h2 (i / (n + 1)) (List.mem_range.2 hlt)
          unfold CanonWalk.diagB at h3
          rw [show i / (n + 1) * n + i / (n + 1) = i by rw [Nat.mul_add, Nat.mul_one] at hq; omega] at h3
          exact decide_eq_true (eq_of_beq h3)
        · exact .inl (decide_eq_true hz)
      · intro h1
        constructor
        · intro x hx
          obtain ⟨i, hi, rfl⟩ := List.getElem_of_mem hx
          have h3 := h1 i (List.mem_range.2 (by omega))
          unfold Ref08.cellB at h3
          rw [Bool.and_eq_true, rd_at hi] at h3
          exact h3.1
        · intro i hi
          have hi := List.mem_range.1 hi
          have h3 := h1 (i * n + i) (List.mem_range.2 (CanonWalk.diag_lt hi))
          unfold Ref08.cellB at h3
          rw [Bool.and_eq_true, Bool.or_eq_true] at h3
          unfold CanonWalk.diagB
          rcases h3.2 with h4 | h4
          · exact absurd (of_decide_eq_true h4) (by rw [show i * n + i = i * (n + 1) by rw [Nat.mul_add, Nat.mul_one], Nat.mul_mod_left]; simp)
          · exact beq_iff_eq.2 (of_decide_eq_true h4)
    · rw [decide_eq_false hl]; rfl
  · rw [if_neg h, if_neg h]
theorem node_eq (kd mt : Int) {l : List N1} (hw : ∀ d ∈ l, WideN d) {i : Nat} (h : i < l.length) : (CanonWalk.nodeOf kd mt l i).map convF = Ref08.nodeOf kd mt (l.map conv) i := by
  unfold CanonWalk.nodeOf Ref08.nodeOf
  rw [rdN_at h, show Ref08.rdN (l.map conv) (i : Int) = conv l[i] from conv_at h]
  have hd := hw _ (List.getElem_mem h)
  simp only [List.map_append, opt_conv]
  rw [coord_eq mt hd, demand_eq, window_eq kd hd, service_eq, mate_eq kd h]; rfl
theorem flat_eq (kd mt : Int) {l : List N1} (hw : ∀ d ∈ l, WideN d) : ∀ n : Nat, n ≤ l.length → ((List.range n).flatMap (CanonWalk.nodeOf kd mt l)).map convF = (List.range n).flatMap (Ref08.nodeOf kd mt (l.map conv)) := by
  intro n
  induction n with
  | zero => intro _; rfl
  | succ n ih =>
    intro h
    rw [List.range_succ, List.flatMap_append, List.flatMap_append, List.map_append, ih (by omega)]
    simp only [List.flatMap_cons, List.flatMap_nil, List.append_nil]
    rw [node_eq kd mt hw (by omega)]
theorem head_eq (nm : ByteArray) (kd mt sc cp fl : Int) : (CanonWalk.headOf nm kd mt sc cp fl).map convF = Ref08.headOf nm kd mt sc cp fl := by
  unfold CanonWalk.headOf Ref08.headOf
  simp only [List.map_append, opt_conv, List.nil_append]
  rw [name_eq, scale_eq, cap_eq, fleet_eq]; rfl
/-- The faults that the program tells are the reference's. -/
theorem all_eq (nm : ByteArray) (kd mt sc cp fl : Int) {l : List N1} (mx : List Int) (hw : ∀ d ∈ l, WideN d) : (CanonWalk.faultsOf nm kd mt sc cp fl l mx).map convF = Ref08.faultsOf nm kd mt sc cp fl (l.map conv) mx := by
  unfold CanonWalk.faultsOf Ref08.faultsOf
  rw [List.length_map]
  by_cases h : 1 ≤ l.length ∧ l.length ≤ 400
  · rw [if_pos h, if_neg (by omega), List.map_append, List.map_append, head_eq, opt_conv, flat_eq kd mt hw _ (Nat.le_refl _), matrix_eq]; rfl
  · rw [if_neg h, if_pos (by omega), List.map_append, head_eq]; rfl
theorem wide_of {nodes : List Open.Node} (h : Open.WfRow Open.WfNode nodes) : ∀ d ∈ nodes, WideN d := by
  intro d hd
  have := h.2 d hd
  have w : ∀ n : Int, Open.WfI n → Wide n := fun n hn => by
    have hn : (Lit.int .i64 n).wf = true := hn
    have h2 : IntKind.i64.min = -9223372036854775808 := rfl
    simp [Lit.wf] at hn
    exact ⟨by rw [← h2]; exact hn.1, hn.2⟩
  exact ⟨w _ this.1, w _ this.2.1, w _ this.2.2.1, w _ this.2.2.2.1, w _ this.2.2.2.2.1, w _ this.2.2.2.2.2.1, w _ this.2.2.2.2.2.2⟩
end CanonL
theorem shown_true : P.entrepotlaw08_shown.f = some true := P.entrepotlaw08_shown.only
end Go.Proofs.Ytfnnngoandpgkaa
