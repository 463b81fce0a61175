/- What the reference of layer 12 computes: the same fields as express.Lacks. Plain lemmas on lists and numbers. -/
import Derived.Test.YtmapllahhpdedaaGExp
import Derived.Test.YtmapllahhpdedaaGEv
import Derived.Test.YtmapllahhpdedaaPxEntrepotlaw12its
import Derived.Test.YtmapllahhpdedaaPxEntrepotref12Lacks
namespace Go.Proofs.Ytmapllahhpdedaa
open Go.RowKit Go.Proofs.YtmapllahhpdedaaW.PrintWords LacksWalk P
set_option linter.unusedSimpArgs false
set_option linter.unusedVariables false
namespace Ref12
abbrev Node2 := S49
def conv (d : LacksWalk.Node) : Node2 := ⟨d.f0, d.f1, d.f2, d.f3, d.f4, d.f5, d.f6⟩
theorem rdN_at {l : List LacksWalk.Node} {i : Nat} (h : i < l.length) : rd_T40 l (i : Int) = l[i] := by
  unfold rd_T40
  rw [Int.toNat_natCast, List.getD_eq_getElem?_getD, List.getElem?_eq_getElem h]; rfl
theorem rdN2_at {l : List LacksWalk.Node} {i : Nat} (h : i < l.length) : rd_T49 (l.map conv) (i : Int) = conv l[i] := by
  unfold rd_T49
  rw [Int.toNat_natCast, List.getD_eq_getElem?_getD, List.getElem?_eq_getElem (by simpa using h)]; simp
theorem its_from (nm : ByteArray) (kd mt sc cp fl : Int) {ns : List LacksWalk.Node} (mx : List Int) (hn : ns.length ≤ 400) (d : Nat) : ∀ i : Nat, i + d = ns.length →
    Ev (fun k => entrepotlaw12_its.l0 k (i : Int) nm kd mt sc cp fl ns mx nm kd mt sc cp fl ((ns.take i).map conv) mx) (nm, kd, mt, sc, cp, fl, ns.map conv, mx) := by
  induction d with
  | zero =>
    intro i hi
    refine Ev.step (fun _ => entrepotlaw12_its.l0.eq_2 ..) (Ev.neg (by omega) ?_)
    rw [List.take_of_length_le (by omega)]; exact Ev.now _
  | succ d ih =>
    intro i hi
    have hlt : i < ns.length := by omega
    refine Ev.step (fun _ => entrepotlaw12_its.l0.eq_2 ..) (Ev.pos (by omega) (Ev.pos (by omega) (Ev.pos (by omega) (Ev.pos (by simp; omega) ?_))))
    rw [rdN_at hlt, wrap64_succ (by omega)]
    have := ih (i + 1) (by omega)
    rwa [List.take_succ_eq_append_getElem hlt, List.map_append] at this
theorem its_ev (nm : ByteArray) (kd mt sc cp fl : Int) {ns : List LacksWalk.Node} (mx : List Int) (hn : ns.length ≤ 400) : Ev (fun k => entrepotlaw12_its.f k nm kd mt sc cp fl ns mx) (nm, kd, mt, sc, cp, fl, ns.map conv, mx) := by
  have := its_from nm kd mt sc cp fl mx hn ns.length 0 (by omega)
  simpa [entrepotlaw12_its.f] using this

theorem some10_from (nm : ByteArray) (kd mt sc cp fl : Int) {ns : List LacksWalk.Node} (mx : List Int) (hn : ns.length ≤ 400) (d : Nat) : ∀ i : Nat, i + d = ns.length →
    Ev (fun k => entrepotref12_some.l0 k 10 (i : Int) nm kd mt sc cp fl (ns.map conv) mx) ((ns.drop i).any fun d => decide (d.f2 < 0)) := by
  induction d with
  | zero =>
    intro i hi
    refine Ev.step (fun _ => entrepotref12_some.l0.eq_2 ..) (Ev.neg (by simp; omega) ?_)
    rw [List.drop_of_length_le (by omega)]; exact Ev.now _
  | succ d ih =>
    intro i hi
    have hlt : i < ns.length := by omega
    refine Ev.step (fun _ => entrepotref12_some.l0.eq_2 ..) (Ev.pos (by simp; omega) (Ev.pos (by omega) ?_))
    simp only [Int.reduceEq, ↓reduceIte]
    rw [rdN2_at hlt, wrap64_succ (by omega), List.drop_eq_getElem_cons hlt, List.any_cons]
    have next := ih (i + 1) (by omega)
    simp only [conv]

    by_cases h : ns[i].f2 < 0
    · refine Ev.pos h (Ev.this ?_)
      rw [decide_eq_true h, Bool.true_or]
    · refine Ev.neg h ?_
      rw [decide_eq_false h, Bool.false_or]; exact next

theorem some10_ev (nm : ByteArray) (kd mt sc cp fl : Int) {ns : List LacksWalk.Node} (mx : List Int) (hn : ns.length ≤ 400) : Ev (fun k => entrepotref12_some.f k nm kd mt sc cp fl (ns.map conv) mx 10) (!(pos ns)) := by
  have h := some10_from nm kd mt sc cp fl mx hn ns.length 0 (by omega)
  rw [List.drop_zero] at h
  exact Ev.eq h (by unfold pos; rw [Bool.not_not])

theorem some11_from (nm : ByteArray) (kd mt sc cp fl : Int) {ns : List LacksWalk.Node} (mx : List Int) (hn : ns.length ≤ 400) (d : Nat) : ∀ i : Nat, i + d = ns.length →
    Ev (fun k => entrepotref12_some.l0 k 11 (i : Int) nm kd mt sc cp fl (ns.map conv) mx) ((ns.drop i).any fun d => d.f3 != 0 || d.f4 != 0) := by
  induction d with
  | zero =>
    intro i hi
    refine Ev.step (fun _ => entrepotref12_some.l0.eq_2 ..) (Ev.neg (by simp; omega) ?_)
    rw [List.drop_of_length_le (by omega)]; exact Ev.now _
  | succ d ih =>
    intro i hi
    have hlt : i < ns.length := by omega
    refine Ev.step (fun _ => entrepotref12_some.l0.eq_2 ..) (Ev.pos (by simp; omega) (Ev.pos (by omega) ?_))
    simp only [Int.reduceEq, ↓reduceIte]
    rw [rdN2_at hlt, wrap64_succ (by omega), List.drop_eq_getElem_cons hlt, List.any_cons]
    have next := ih (i + 1) (by omega)
    simp only [conv]

    by_cases h : ns[i].f3 = 0
    · refine Ev.pos h ?_
      by_cases h2 : ns[i].f4 = 0
      · refine Ev.pos h2 ?_
        rw [bne_eq_false_iff_eq.2 h, bne_eq_false_iff_eq.2 h2]; exact next
      · refine Ev.neg h2 (Ev.this ?_)
        rw [bne_iff_ne.2 h2]; simp
    · refine Ev.neg h (Ev.this ?_)
      rw [bne_iff_ne.2 h]; simp

theorem some11_ev (nm : ByteArray) (kd mt sc cp fl : Int) {ns : List LacksWalk.Node} (mx : List Int) (hn : ns.length ≤ 400) : Ev (fun k => entrepotref12_some.f k nm kd mt sc cp fl (ns.map conv) mx 11) (!(unwindowed ns)) := by
  have h := some11_from nm kd mt sc cp fl mx hn ns.length 0 (by omega)
  rw [List.drop_zero] at h
  exact Ev.eq h (by unfold unwindowed; rw [Bool.not_not])

theorem some12_from (nm : ByteArray) (kd mt sc cp fl : Int) {ns : List LacksWalk.Node} (mx : List Int) (hn : ns.length ≤ 400) (d : Nat) : ∀ i : Nat, i + d = ns.length →
    Ev (fun k => entrepotref12_some.l0 k 12 (i : Int) nm kd mt sc cp fl (ns.map conv) mx) ((ns.drop i).any fun d => d.f5 != 0) := by
  induction d with
  | zero =>
    intro i hi
    refine Ev.step (fun _ => entrepotref12_some.l0.eq_2 ..) (Ev.neg (by simp; omega) ?_)
    rw [List.drop_of_length_le (by omega)]; exact Ev.now _
  | succ d ih =>
    intro i hi
    have hlt : i < ns.length := by omega
    refine Ev.step (fun _ => entrepotref12_some.l0.eq_2 ..) (Ev.pos (by simp; omega) (Ev.pos (by omega) ?_))
    simp only [Int.reduceEq, ↓reduceIte]
    rw [rdN2_at hlt, wrap64_succ (by omega), List.drop_eq_getElem_cons hlt, List.any_cons]
    have next := ih (i + 1) (by omega)
    simp only [conv]

    by_cases h : ns[i].f5 = 0
    · refine Ev.pos h ?_
      rw [bne_eq_false_iff_eq.2 h]; exact next
    · refine Ev.neg h (Ev.this ?_)
      rw [bne_iff_ne.2 h]; rfl

theorem some12_ev (nm : ByteArray) (kd mt sc cp fl : Int) {ns : List LacksWalk.Node} (mx : List Int) (hn : ns.length ≤ 400) : Ev (fun k => entrepotref12_some.f k nm kd mt sc cp fl (ns.map conv) mx 12) (!(unserved ns)) := by
  have h := some12_from nm kd mt sc cp fl mx hn ns.length 0 (by omega)
  rw [List.drop_zero] at h
  exact Ev.eq h (by unfold unserved; rw [Bool.not_not])

theorem some13_from (nm : ByteArray) (kd mt sc cp fl : Int) {ns : List LacksWalk.Node} (mx : List Int) (hn : ns.length ≤ 400) (d : Nat) : ∀ i : Nat, i + d = ns.length →
    Ev (fun k => entrepotref12_some.l0 k 13 (i : Int) nm kd mt sc cp fl (ns.map conv) mx) ((ns.drop i).any fun d => d.f6 != 0) := by
  induction d with
  | zero =>
    intro i hi
    refine Ev.step (fun _ => entrepotref12_some.l0.eq_2 ..) (Ev.neg (by simp; omega) ?_)
    rw [List.drop_of_length_le (by omega)]; exact Ev.now _
  | succ d ih =>
    intro i hi
    have hlt : i < ns.length := by omega
    refine Ev.step (fun _ => entrepotref12_some.l0.eq_2 ..) (Ev.pos (by simp; omega) (Ev.pos (by omega) ?_))
    simp only [Int.reduceEq, ↓reduceIte]
    rw [rdN2_at hlt, wrap64_succ (by omega), List.drop_eq_getElem_cons hlt, List.any_cons]
    have next := ih (i + 1) (by omega)
    simp only [conv]

    by_cases h : ns[i].f6 = 0
    · refine Ev.pos h ?_
      rw [bne_eq_false_iff_eq.2 h]; exact next
    · refine Ev.neg h (Ev.this ?_)
      rw [bne_iff_ne.2 h]; rfl

theorem some13_ev (nm : ByteArray) (kd mt sc cp fl : Int) {ns : List LacksWalk.Node} (mx : List Int) (hn : ns.length ≤ 400) : Ev (fun k => entrepotref12_some.f k nm kd mt sc cp fl (ns.map conv) mx 13) (!(single ns)) := by
  have h := some13_from nm kd mt sc cp fl mx hn ns.length 0 (by omega)
  rw [List.drop_zero] at h
  exact Ev.eq h (by unfold single; rw [Bool.not_not])

theorem lk1_1 (nm : ByteArray) (kd mt sc cp fl : Int) {ns : List LacksWalk.Node} (mx : List Int) (hn : ns.length ≤ 400) : Ev (fun k => entrepotref12_lacks.f k 1 1 nm kd mt sc cp fl (ns.map conv) mx) (false) := by
  unfold entrepotref12_lacks.f
  simp only [Int.reduceEq, Int.reduceLT, Int.reduceGT, Int.reduceLE, Int.reduceGE, ↓reduceIte, decide_true, decide_false, Bool.false_eq_true, Bool.true_eq_false, gt_iff_lt, ge_iff_le, reduceCtorEq, Int.reduceBEq, beq_self_eq_true]
  refine Ev.step (fun _ => entrepotref12_lacks.j0.eq_2 ..) ?_
  simp only [Int.reduceEq, Int.reduceLT, Int.reduceGT, Int.reduceLE, Int.reduceGE, ↓reduceIte, decide_true, decide_false, Bool.false_eq_true, Bool.true_eq_false, gt_iff_lt, ge_iff_le, reduceCtorEq, Int.reduceBEq, beq_self_eq_true]
  exact Ev.now _

theorem lk1_2 (nm : ByteArray) (kd mt sc cp fl : Int) {ns : List LacksWalk.Node} (mx : List Int) (hn : ns.length ≤ 400) : Ev (fun k => entrepotref12_lacks.f k 1 2 nm kd mt sc cp fl (ns.map conv) mx) (!(kd == 1 || kd == 2)) := by
  unfold entrepotref12_lacks.f
  simp only [Int.reduceEq, Int.reduceLT, Int.reduceGT, Int.reduceLE, Int.reduceGE, ↓reduceIte, decide_true, decide_false, Bool.false_eq_true, Bool.true_eq_false, gt_iff_lt, ge_iff_le, reduceCtorEq, Int.reduceBEq, beq_self_eq_true]
  refine Ev.step (fun _ => entrepotref12_lacks.j0.eq_2 ..) ?_
  simp only [Int.reduceEq, Int.reduceLT, Int.reduceGT, Int.reduceLE, Int.reduceGE, ↓reduceIte, decide_true, decide_false, Bool.false_eq_true, Bool.true_eq_false, gt_iff_lt, ge_iff_le, reduceCtorEq, Int.reduceBEq, beq_self_eq_true]
  by_cases h1 : kd = 1
  · subst h1; exact Ev.now _
  · refine Ev.neg h1 ?_
    by_cases h2 : kd = 2
    · subst h2; exact Ev.now _
    · refine Ev.neg h2 (Ev.this ?_)
      rw [beq_eq_false_iff_ne.2 h1, beq_eq_false_iff_ne.2 h2]; rfl

theorem lk1_3 (nm : ByteArray) (kd mt sc cp fl : Int) {ns : List LacksWalk.Node} (mx : List Int) (hn : ns.length ≤ 400) : Ev (fun k => entrepotref12_lacks.f k 1 3 nm kd mt sc cp fl (ns.map conv) mx) (!(known mt && !(mt == 6))) := by
  unfold entrepotref12_lacks.f
  simp only [Int.reduceEq, Int.reduceLT, Int.reduceGT, Int.reduceLE, Int.reduceGE, ↓reduceIte, decide_true, decide_false, Bool.false_eq_true, Bool.true_eq_false, gt_iff_lt, ge_iff_le, reduceCtorEq, Int.reduceBEq, beq_self_eq_true]
  refine Ev.step (fun _ => entrepotref12_lacks.j0.eq_2 ..) ?_
  simp only [Int.reduceEq, Int.reduceLT, Int.reduceGT, Int.reduceLE, Int.reduceGE, ↓reduceIte, decide_true, decide_false, Bool.false_eq_true, Bool.true_eq_false, gt_iff_lt, ge_iff_le, reduceCtorEq, Int.reduceBEq, beq_self_eq_true]
  unfold known
  by_cases h1 : mt < 0
  · refine Ev.pos h1 (Ev.this ?_)
    rw [decide_eq_false (show ¬ 0 ≤ mt by omega)]; rfl
  · refine Ev.neg h1 ?_
    rw [decide_eq_true (show 0 ≤ mt by omega)]
    by_cases h2 : 5 < mt
    · refine Ev.pos h2 (Ev.this ?_)
      by_cases h3 : mt = 6
      · subst h3; rfl
      · rw [decide_eq_false (show ¬ mt ≤ 6 by omega)]; rfl
    · refine Ev.neg h2 (Ev.this ?_)
      rw [decide_eq_true (show mt ≤ 6 by omega), beq_eq_false_iff_ne.2 (show mt ≠ 6 by omega)]; rfl

theorem lk1_4 (nm : ByteArray) (kd mt sc cp fl : Int) {ns : List LacksWalk.Node} (mx : List Int) (hn : ns.length ≤ 400) : Ev (fun k => entrepotref12_lacks.f k 1 4 nm kd mt sc cp fl (ns.map conv) mx) (false) := by
  unfold entrepotref12_lacks.f
  simp only [Int.reduceEq, Int.reduceLT, Int.reduceGT, Int.reduceLE, Int.reduceGE, ↓reduceIte, decide_true, decide_false, Bool.false_eq_true, Bool.true_eq_false, gt_iff_lt, ge_iff_le, reduceCtorEq, Int.reduceBEq, beq_self_eq_true]
  refine Ev.step (fun _ => entrepotref12_lacks.j0.eq_2 ..) ?_
  simp only [Int.reduceEq, Int.reduceLT, Int.reduceGT, Int.reduceLE, Int.reduceGE, ↓reduceIte, decide_true, decide_false, Bool.false_eq_true, Bool.true_eq_false, gt_iff_lt, ge_iff_le, reduceCtorEq, Int.reduceBEq, beq_self_eq_true]
  exact Ev.now _

theorem lk1_5 (nm : ByteArray) (kd mt sc cp fl : Int) {ns : List LacksWalk.Node} (mx : List Int) (hn : ns.length ≤ 400) : Ev (fun k => entrepotref12_lacks.f k 1 5 nm kd mt sc cp fl (ns.map conv) mx) (false) := by
  unfold entrepotref12_lacks.f
  simp only [Int.reduceEq, Int.reduceLT, Int.reduceGT, Int.reduceLE, Int.reduceGE, ↓reduceIte, decide_true, decide_false, Bool.false_eq_true, Bool.true_eq_false, gt_iff_lt, ge_iff_le, reduceCtorEq, Int.reduceBEq, beq_self_eq_true]
  refine Ev.step (fun _ => entrepotref12_lacks.j0.eq_2 ..) ?_
  simp only [Int.reduceEq, Int.reduceLT, Int.reduceGT, Int.reduceLE, Int.reduceGE, ↓reduceIte, decide_true, decide_false, Bool.false_eq_true, Bool.true_eq_false, gt_iff_lt, ge_iff_le, reduceCtorEq, Int.reduceBEq, beq_self_eq_true]
  refine Ev.step (fun _ => entrepotref12_lacks.j1.eq_2 ..) ?_
  simp only [Int.reduceEq, Int.reduceLT, Int.reduceGT, Int.reduceLE, Int.reduceGE, ↓reduceIte, decide_true, decide_false, Bool.false_eq_true, Bool.true_eq_false, gt_iff_lt, ge_iff_le, reduceCtorEq, Int.reduceBEq, beq_self_eq_true]
  exact Ev.now _

theorem lk1_6 (nm : ByteArray) (kd mt sc cp fl : Int) {ns : List LacksWalk.Node} (mx : List Int) (hn : ns.length ≤ 400) : Ev (fun k => entrepotref12_lacks.f k 1 6 nm kd mt sc cp fl (ns.map conv) mx) (!(fl == 0)) := by
  unfold entrepotref12_lacks.f
  simp only [Int.reduceEq, Int.reduceLT, Int.reduceGT, Int.reduceLE, Int.reduceGE, ↓reduceIte, decide_true, decide_false, Bool.false_eq_true, Bool.true_eq_false, gt_iff_lt, ge_iff_le, reduceCtorEq, Int.reduceBEq, beq_self_eq_true]
  refine Ev.step (fun _ => entrepotref12_lacks.j0.eq_2 ..) ?_
  simp only [Int.reduceEq, Int.reduceLT, Int.reduceGT, Int.reduceLE, Int.reduceGE, ↓reduceIte, decide_true, decide_false, Bool.false_eq_true, Bool.true_eq_false, gt_iff_lt, ge_iff_le, reduceCtorEq, Int.reduceBEq, beq_self_eq_true]
  by_cases h : fl = 0
  · subst h; exact Ev.now _
  · refine Ev.neg h (Ev.this ?_)
    rw [beq_eq_false_iff_ne.2 h]; rfl

theorem lk1_7 (nm : ByteArray) (kd mt sc cp fl : Int) {ns : List LacksWalk.Node} (mx : List Int) (hn : ns.length ≤ 400) : Ev (fun k => entrepotref12_lacks.f k 1 7 nm kd mt sc cp fl (ns.map conv) mx) (false) := by
  unfold entrepotref12_lacks.f
  simp only [Int.reduceEq, Int.reduceLT, Int.reduceGT, Int.reduceLE, Int.reduceGE, ↓reduceIte, decide_true, decide_false, Bool.false_eq_true, Bool.true_eq_false, gt_iff_lt, ge_iff_le, reduceCtorEq, Int.reduceBEq, beq_self_eq_true]
  refine Ev.step (fun _ => entrepotref12_lacks.j0.eq_2 ..) ?_
  simp only [Int.reduceEq, Int.reduceLT, Int.reduceGT, Int.reduceLE, Int.reduceGE, ↓reduceIte, decide_true, decide_false, Bool.false_eq_true, Bool.true_eq_false, gt_iff_lt, ge_iff_le, reduceCtorEq, Int.reduceBEq, beq_self_eq_true]
  refine Ev.step (fun _ => entrepotref12_lacks.j1.eq_2 ..) ?_
  simp only [Int.reduceEq, Int.reduceLT, Int.reduceGT, Int.reduceLE, Int.reduceGE, ↓reduceIte, decide_true, decide_false, Bool.false_eq_true, Bool.true_eq_false, gt_iff_lt, ge_iff_le, reduceCtorEq, Int.reduceBEq, beq_self_eq_true]
  exact Ev.now _

theorem lk1_8 (nm : ByteArray) (kd mt sc cp fl : Int) {ns : List LacksWalk.Node} (mx : List Int) (hn : ns.length ≤ 400) : Ev (fun k => entrepotref12_lacks.f k 1 8 nm kd mt sc cp fl (ns.map conv) mx) (false) := by
  unfold entrepotref12_lacks.f
  simp only [Int.reduceEq, Int.reduceLT, Int.reduceGT, Int.reduceLE, Int.reduceGE, ↓reduceIte, decide_true, decide_false, Bool.false_eq_true, Bool.true_eq_false, gt_iff_lt, ge_iff_le, reduceCtorEq, Int.reduceBEq, beq_self_eq_true]
  refine Ev.step (fun _ => entrepotref12_lacks.j0.eq_2 ..) ?_
  simp only [Int.reduceEq, Int.reduceLT, Int.reduceGT, Int.reduceLE, Int.reduceGE, ↓reduceIte, decide_true, decide_false, Bool.false_eq_true, Bool.true_eq_false, gt_iff_lt, ge_iff_le, reduceCtorEq, Int.reduceBEq, beq_self_eq_true]
  refine Ev.step (fun _ => entrepotref12_lacks.j1.eq_2 ..) ?_
  simp only [Int.reduceEq, Int.reduceLT, Int.reduceGT, Int.reduceLE, Int.reduceGE, ↓reduceIte, decide_true, decide_false, Bool.false_eq_true, Bool.true_eq_false, gt_iff_lt, ge_iff_le, reduceCtorEq, Int.reduceBEq, beq_self_eq_true]
  exact Ev.now _

theorem lk1_9 (nm : ByteArray) (kd mt sc cp fl : Int) {ns : List LacksWalk.Node} (mx : List Int) (hn : ns.length ≤ 400) : Ev (fun k => entrepotref12_lacks.f k 1 9 nm kd mt sc cp fl (ns.map conv) mx) (false) := by
  unfold entrepotref12_lacks.f
  simp only [Int.reduceEq, Int.reduceLT, Int.reduceGT, Int.reduceLE, Int.reduceGE, ↓reduceIte, decide_true, decide_false, Bool.false_eq_true, Bool.true_eq_false, gt_iff_lt, ge_iff_le, reduceCtorEq, Int.reduceBEq, beq_self_eq_true]
  refine Ev.step (fun _ => entrepotref12_lacks.j0.eq_2 ..) ?_
  simp only [Int.reduceEq, Int.reduceLT, Int.reduceGT, Int.reduceLE, Int.reduceGE, ↓reduceIte, decide_true, decide_false, Bool.false_eq_true, Bool.true_eq_false, gt_iff_lt, ge_iff_le, reduceCtorEq, Int.reduceBEq, beq_self_eq_true]
  refine Ev.step (fun _ => entrepotref12_lacks.j1.eq_2 ..) ?_
  simp only [Int.reduceEq, Int.reduceLT, Int.reduceGT, Int.reduceLE, Int.reduceGE, ↓reduceIte, decide_true, decide_false, Bool.false_eq_true, Bool.true_eq_false, gt_iff_lt, ge_iff_le, reduceCtorEq, Int.reduceBEq, beq_self_eq_true]
  exact Ev.now _

theorem lk1_10 (nm : ByteArray) (kd mt sc cp fl : Int) {ns : List LacksWalk.Node} (mx : List Int) (hn : ns.length ≤ 400) : Ev (fun k => entrepotref12_lacks.f k 1 10 nm kd mt sc cp fl (ns.map conv) mx) (!(pos ns)) := by
  unfold entrepotref12_lacks.f
  simp only [Int.reduceEq, Int.reduceLT, Int.reduceGT, Int.reduceLE, Int.reduceGE, ↓reduceIte, decide_true, decide_false, Bool.false_eq_true, Bool.true_eq_false, gt_iff_lt, ge_iff_le, reduceCtorEq, Int.reduceBEq, beq_self_eq_true]
  refine Ev.step (fun _ => entrepotref12_lacks.j0.eq_2 ..) ?_
  simp only [Int.reduceEq, Int.reduceLT, Int.reduceGT, Int.reduceLE, Int.reduceGE, ↓reduceIte, decide_true, decide_false, Bool.false_eq_true, Bool.true_eq_false, gt_iff_lt, ge_iff_le, reduceCtorEq, Int.reduceBEq, beq_self_eq_true]
  refine Ev.step (fun _ => entrepotref12_lacks.j1.eq_2 ..) ?_
  simp only [Int.reduceEq, Int.reduceLT, Int.reduceGT, Int.reduceLE, Int.reduceGE, ↓reduceIte, decide_true, decide_false, Bool.false_eq_true, Bool.true_eq_false, gt_iff_lt, ge_iff_le, reduceCtorEq, Int.reduceBEq, beq_self_eq_true]
  exact Ev.bind (some10_ev nm kd mt sc cp fl mx hn) (Ev.now _)

theorem lk1_11 (nm : ByteArray) (kd mt sc cp fl : Int) {ns : List LacksWalk.Node} (mx : List Int) (hn : ns.length ≤ 400) : Ev (fun k => entrepotref12_lacks.f k 1 11 nm kd mt sc cp fl (ns.map conv) mx) (!(unwindowed ns)) := by
  unfold entrepotref12_lacks.f
  simp only [Int.reduceEq, Int.reduceLT, Int.reduceGT, Int.reduceLE, Int.reduceGE, ↓reduceIte, decide_true, decide_false, Bool.false_eq_true, Bool.true_eq_false, gt_iff_lt, ge_iff_le, reduceCtorEq, Int.reduceBEq, beq_self_eq_true]
  refine Ev.step (fun _ => entrepotref12_lacks.j0.eq_2 ..) ?_
  simp only [Int.reduceEq, Int.reduceLT, Int.reduceGT, Int.reduceLE, Int.reduceGE, ↓reduceIte, decide_true, decide_false, Bool.false_eq_true, Bool.true_eq_false, gt_iff_lt, ge_iff_le, reduceCtorEq, Int.reduceBEq, beq_self_eq_true]
  refine Ev.step (fun _ => entrepotref12_lacks.j1.eq_2 ..) ?_
  simp only [Int.reduceEq, Int.reduceLT, Int.reduceGT, Int.reduceLE, Int.reduceGE, ↓reduceIte, decide_true, decide_false, Bool.false_eq_true, Bool.true_eq_false, gt_iff_lt, ge_iff_le, reduceCtorEq, Int.reduceBEq, beq_self_eq_true]
  exact Ev.bind (some11_ev nm kd mt sc cp fl mx hn) (Ev.now _)

theorem lk1_12 (nm : ByteArray) (kd mt sc cp fl : Int) {ns : List LacksWalk.Node} (mx : List Int) (hn : ns.length ≤ 400) : Ev (fun k => entrepotref12_lacks.f k 1 12 nm kd mt sc cp fl (ns.map conv) mx) (!(unserved ns)) := by
  unfold entrepotref12_lacks.f
  simp only [Int.reduceEq, Int.reduceLT, Int.reduceGT, Int.reduceLE, Int.reduceGE, ↓reduceIte, decide_true, decide_false, Bool.false_eq_true, Bool.true_eq_false, gt_iff_lt, ge_iff_le, reduceCtorEq, Int.reduceBEq, beq_self_eq_true]
  refine Ev.step (fun _ => entrepotref12_lacks.j0.eq_2 ..) ?_
  simp only [Int.reduceEq, Int.reduceLT, Int.reduceGT, Int.reduceLE, Int.reduceGE, ↓reduceIte, decide_true, decide_false, Bool.false_eq_true, Bool.true_eq_false, gt_iff_lt, ge_iff_le, reduceCtorEq, Int.reduceBEq, beq_self_eq_true]
  refine Ev.step (fun _ => entrepotref12_lacks.j1.eq_2 ..) ?_
  simp only [Int.reduceEq, Int.reduceLT, Int.reduceGT, Int.reduceLE, Int.reduceGE, ↓reduceIte, decide_true, decide_false, Bool.false_eq_true, Bool.true_eq_false, gt_iff_lt, ge_iff_le, reduceCtorEq, Int.reduceBEq, beq_self_eq_true]
  exact Ev.bind (some12_ev nm kd mt sc cp fl mx hn) (Ev.now _)

theorem lk1_13 (nm : ByteArray) (kd mt sc cp fl : Int) {ns : List LacksWalk.Node} (mx : List Int) (hn : ns.length ≤ 400) : Ev (fun k => entrepotref12_lacks.f k 1 13 nm kd mt sc cp fl (ns.map conv) mx) (!(single ns)) := by
  unfold entrepotref12_lacks.f
  simp only [Int.reduceEq, Int.reduceLT, Int.reduceGT, Int.reduceLE, Int.reduceGE, ↓reduceIte, decide_true, decide_false, Bool.false_eq_true, Bool.true_eq_false, gt_iff_lt, ge_iff_le, reduceCtorEq, Int.reduceBEq, beq_self_eq_true]
  refine Ev.step (fun _ => entrepotref12_lacks.j0.eq_2 ..) ?_
  simp only [Int.reduceEq, Int.reduceLT, Int.reduceGT, Int.reduceLE, Int.reduceGE, ↓reduceIte, decide_true, decide_false, Bool.false_eq_true, Bool.true_eq_false, gt_iff_lt, ge_iff_le, reduceCtorEq, Int.reduceBEq, beq_self_eq_true]
  refine Ev.step (fun _ => entrepotref12_lacks.j1.eq_2 ..) ?_
  simp only [Int.reduceEq, Int.reduceLT, Int.reduceGT, Int.reduceLE, Int.reduceGE, ↓reduceIte, decide_true, decide_false, Bool.false_eq_true, Bool.true_eq_false, gt_iff_lt, ge_iff_le, reduceCtorEq, Int.reduceBEq, beq_self_eq_true]
  exact Ev.bind (some13_ev nm kd mt sc cp fl mx hn) (Ev.now _)

theorem lk2_1 (nm : ByteArray) (kd mt sc cp fl : Int) {ns : List LacksWalk.Node} (mx : List Int) (hn : ns.length ≤ 400) : Ev (fun k => entrepotref12_lacks.f k 2 1 nm kd mt sc cp fl (ns.map conv) mx) (false) := by
  unfold entrepotref12_lacks.f
  simp only [Int.reduceEq, Int.reduceLT, Int.reduceGT, Int.reduceLE, Int.reduceGE, ↓reduceIte, decide_true, decide_false, Bool.false_eq_true, Bool.true_eq_false, gt_iff_lt, ge_iff_le, reduceCtorEq, Int.reduceBEq, beq_self_eq_true]
  refine Ev.step (fun _ => entrepotref12_lacks.j0.eq_2 ..) ?_
  simp only [Int.reduceEq, Int.reduceLT, Int.reduceGT, Int.reduceLE, Int.reduceGE, ↓reduceIte, decide_true, decide_false, Bool.false_eq_true, Bool.true_eq_false, gt_iff_lt, ge_iff_le, reduceCtorEq, Int.reduceBEq, beq_self_eq_true]
  exact Ev.now _

theorem lk2_2 (nm : ByteArray) (kd mt sc cp fl : Int) {ns : List LacksWalk.Node} (mx : List Int) (hn : ns.length ≤ 400) : Ev (fun k => entrepotref12_lacks.f k 2 2 nm kd mt sc cp fl (ns.map conv) mx) (!(kd == 3)) := by
  unfold entrepotref12_lacks.f
  simp only [Int.reduceEq, Int.reduceLT, Int.reduceGT, Int.reduceLE, Int.reduceGE, ↓reduceIte, decide_true, decide_false, Bool.false_eq_true, Bool.true_eq_false, gt_iff_lt, ge_iff_le, reduceCtorEq, Int.reduceBEq, beq_self_eq_true]
  refine Ev.step (fun _ => entrepotref12_lacks.j0.eq_2 ..) ?_
  simp only [Int.reduceEq, Int.reduceLT, Int.reduceGT, Int.reduceLE, Int.reduceGE, ↓reduceIte, decide_true, decide_false, Bool.false_eq_true, Bool.true_eq_false, gt_iff_lt, ge_iff_le, reduceCtorEq, Int.reduceBEq, beq_self_eq_true]
  by_cases h : kd = 3
  · subst h; exact Ev.now _
  · first | (refine Ev.neg h (Ev.this ?_); rw [beq_eq_false_iff_ne.2 h]; rfl) | (refine Ev.this ?_; rw [bne_iff_ne.2 h, beq_eq_false_iff_ne.2 h]; rfl)

theorem lk2_3 (nm : ByteArray) (kd mt sc cp fl : Int) {ns : List LacksWalk.Node} (mx : List Int) (hn : ns.length ≤ 400) : Ev (fun k => entrepotref12_lacks.f k 2 3 nm kd mt sc cp fl (ns.map conv) mx) (!(mt == 6)) := by
  unfold entrepotref12_lacks.f
  simp only [Int.reduceEq, Int.reduceLT, Int.reduceGT, Int.reduceLE, Int.reduceGE, ↓reduceIte, decide_true, decide_false, Bool.false_eq_true, Bool.true_eq_false, gt_iff_lt, ge_iff_le, reduceCtorEq, Int.reduceBEq, beq_self_eq_true]
  refine Ev.step (fun _ => entrepotref12_lacks.j0.eq_2 ..) ?_
  simp only [Int.reduceEq, Int.reduceLT, Int.reduceGT, Int.reduceLE, Int.reduceGE, ↓reduceIte, decide_true, decide_false, Bool.false_eq_true, Bool.true_eq_false, gt_iff_lt, ge_iff_le, reduceCtorEq, Int.reduceBEq, beq_self_eq_true]
  exact Ev.now _

theorem lk2_4 (nm : ByteArray) (kd mt sc cp fl : Int) {ns : List LacksWalk.Node} (mx : List Int) (hn : ns.length ≤ 400) : Ev (fun k => entrepotref12_lacks.f k 2 4 nm kd mt sc cp fl (ns.map conv) mx) (false) := by
  unfold entrepotref12_lacks.f
  simp only [Int.reduceEq, Int.reduceLT, Int.reduceGT, Int.reduceLE, Int.reduceGE, ↓reduceIte, decide_true, decide_false, Bool.false_eq_true, Bool.true_eq_false, gt_iff_lt, ge_iff_le, reduceCtorEq, Int.reduceBEq, beq_self_eq_true]
  refine Ev.step (fun _ => entrepotref12_lacks.j0.eq_2 ..) ?_
  simp only [Int.reduceEq, Int.reduceLT, Int.reduceGT, Int.reduceLE, Int.reduceGE, ↓reduceIte, decide_true, decide_false, Bool.false_eq_true, Bool.true_eq_false, gt_iff_lt, ge_iff_le, reduceCtorEq, Int.reduceBEq, beq_self_eq_true]
  exact Ev.now _

theorem lk2_5 (nm : ByteArray) (kd mt sc cp fl : Int) {ns : List LacksWalk.Node} (mx : List Int) (hn : ns.length ≤ 400) : Ev (fun k => entrepotref12_lacks.f k 2 5 nm kd mt sc cp fl (ns.map conv) mx) (false) := by
  unfold entrepotref12_lacks.f
  simp only [Int.reduceEq, Int.reduceLT, Int.reduceGT, Int.reduceLE, Int.reduceGE, ↓reduceIte, decide_true, decide_false, Bool.false_eq_true, Bool.true_eq_false, gt_iff_lt, ge_iff_le, reduceCtorEq, Int.reduceBEq, beq_self_eq_true]
  refine Ev.step (fun _ => entrepotref12_lacks.j0.eq_2 ..) ?_
  simp only [Int.reduceEq, Int.reduceLT, Int.reduceGT, Int.reduceLE, Int.reduceGE, ↓reduceIte, decide_true, decide_false, Bool.false_eq_true, Bool.true_eq_false, gt_iff_lt, ge_iff_le, reduceCtorEq, Int.reduceBEq, beq_self_eq_true]
  refine Ev.step (fun _ => entrepotref12_lacks.j1.eq_2 ..) ?_
  simp only [Int.reduceEq, Int.reduceLT, Int.reduceGT, Int.reduceLE, Int.reduceGE, ↓reduceIte, decide_true, decide_false, Bool.false_eq_true, Bool.true_eq_false, gt_iff_lt, ge_iff_le, reduceCtorEq, Int.reduceBEq, beq_self_eq_true]
  exact Ev.now _

theorem lk2_6 (nm : ByteArray) (kd mt sc cp fl : Int) {ns : List LacksWalk.Node} (mx : List Int) (hn : ns.length ≤ 400) : Ev (fun k => entrepotref12_lacks.f k 2 6 nm kd mt sc cp fl (ns.map conv) mx) (!(decide (1 ≤ fl))) := by
  unfold entrepotref12_lacks.f
  simp only [Int.reduceEq, Int.reduceLT, Int.reduceGT, Int.reduceLE, Int.reduceGE, ↓reduceIte, decide_true, decide_false, Bool.false_eq_true, Bool.true_eq_false, gt_iff_lt, ge_iff_le, reduceCtorEq, Int.reduceBEq, beq_self_eq_true]
  refine Ev.step (fun _ => entrepotref12_lacks.j0.eq_2 ..) ?_
  simp only [Int.reduceEq, Int.reduceLT, Int.reduceGT, Int.reduceLE, Int.reduceGE, ↓reduceIte, decide_true, decide_false, Bool.false_eq_true, Bool.true_eq_false, gt_iff_lt, ge_iff_le, reduceCtorEq, Int.reduceBEq, beq_self_eq_true]
  refine Ev.this ?_
  congr 1
  by_cases h : 1 ≤ fl
  · rw [decide_eq_true h, decide_eq_false (by omega)]; rfl
  · rw [decide_eq_false h, decide_eq_true (by omega)]; rfl

theorem lk2_7 (nm : ByteArray) (kd mt sc cp fl : Int) {ns : List LacksWalk.Node} (mx : List Int) (hn : ns.length ≤ 400) : Ev (fun k => entrepotref12_lacks.f k 2 7 nm kd mt sc cp fl (ns.map conv) mx) (false) := by
  unfold entrepotref12_lacks.f
  simp only [Int.reduceEq, Int.reduceLT, Int.reduceGT, Int.reduceLE, Int.reduceGE, ↓reduceIte, decide_true, decide_false, Bool.false_eq_true, Bool.true_eq_false, gt_iff_lt, ge_iff_le, reduceCtorEq, Int.reduceBEq, beq_self_eq_true]
  refine Ev.step (fun _ => entrepotref12_lacks.j0.eq_2 ..) ?_
  simp only [Int.reduceEq, Int.reduceLT, Int.reduceGT, Int.reduceLE, Int.reduceGE, ↓reduceIte, decide_true, decide_false, Bool.false_eq_true, Bool.true_eq_false, gt_iff_lt, ge_iff_le, reduceCtorEq, Int.reduceBEq, beq_self_eq_true]
  refine Ev.step (fun _ => entrepotref12_lacks.j1.eq_2 ..) ?_
  simp only [Int.reduceEq, Int.reduceLT, Int.reduceGT, Int.reduceLE, Int.reduceGE, ↓reduceIte, decide_true, decide_false, Bool.false_eq_true, Bool.true_eq_false, gt_iff_lt, ge_iff_le, reduceCtorEq, Int.reduceBEq, beq_self_eq_true]
  exact Ev.now _

theorem lk2_8 (nm : ByteArray) (kd mt sc cp fl : Int) {ns : List LacksWalk.Node} (mx : List Int) (hn : ns.length ≤ 400) : Ev (fun k => entrepotref12_lacks.f k 2 8 nm kd mt sc cp fl (ns.map conv) mx) (false) := by
  unfold entrepotref12_lacks.f
  simp only [Int.reduceEq, Int.reduceLT, Int.reduceGT, Int.reduceLE, Int.reduceGE, ↓reduceIte, decide_true, decide_false, Bool.false_eq_true, Bool.true_eq_false, gt_iff_lt, ge_iff_le, reduceCtorEq, Int.reduceBEq, beq_self_eq_true]
  refine Ev.step (fun _ => entrepotref12_lacks.j0.eq_2 ..) ?_
  simp only [Int.reduceEq, Int.reduceLT, Int.reduceGT, Int.reduceLE, Int.reduceGE, ↓reduceIte, decide_true, decide_false, Bool.false_eq_true, Bool.true_eq_false, gt_iff_lt, ge_iff_le, reduceCtorEq, Int.reduceBEq, beq_self_eq_true]
  refine Ev.step (fun _ => entrepotref12_lacks.j1.eq_2 ..) ?_
  simp only [Int.reduceEq, Int.reduceLT, Int.reduceGT, Int.reduceLE, Int.reduceGE, ↓reduceIte, decide_true, decide_false, Bool.false_eq_true, Bool.true_eq_false, gt_iff_lt, ge_iff_le, reduceCtorEq, Int.reduceBEq, beq_self_eq_true]
  exact Ev.now _

theorem lk2_9 (nm : ByteArray) (kd mt sc cp fl : Int) {ns : List LacksWalk.Node} (mx : List Int) (hn : ns.length ≤ 400) : Ev (fun k => entrepotref12_lacks.f k 2 9 nm kd mt sc cp fl (ns.map conv) mx) (false) := by
  unfold entrepotref12_lacks.f
  simp only [Int.reduceEq, Int.reduceLT, Int.reduceGT, Int.reduceLE, Int.reduceGE, ↓reduceIte, decide_true, decide_false, Bool.false_eq_true, Bool.true_eq_false, gt_iff_lt, ge_iff_le, reduceCtorEq, Int.reduceBEq, beq_self_eq_true]
  refine Ev.step (fun _ => entrepotref12_lacks.j0.eq_2 ..) ?_
  simp only [Int.reduceEq, Int.reduceLT, Int.reduceGT, Int.reduceLE, Int.reduceGE, ↓reduceIte, decide_true, decide_false, Bool.false_eq_true, Bool.true_eq_false, gt_iff_lt, ge_iff_le, reduceCtorEq, Int.reduceBEq, beq_self_eq_true]
  refine Ev.step (fun _ => entrepotref12_lacks.j1.eq_2 ..) ?_
  simp only [Int.reduceEq, Int.reduceLT, Int.reduceGT, Int.reduceLE, Int.reduceGE, ↓reduceIte, decide_true, decide_false, Bool.false_eq_true, Bool.true_eq_false, gt_iff_lt, ge_iff_le, reduceCtorEq, Int.reduceBEq, beq_self_eq_true]
  exact Ev.now _

theorem lk2_10 (nm : ByteArray) (kd mt sc cp fl : Int) {ns : List LacksWalk.Node} (mx : List Int) (hn : ns.length ≤ 400) : Ev (fun k => entrepotref12_lacks.f k 2 10 nm kd mt sc cp fl (ns.map conv) mx) (!(pos ns)) := by
  unfold entrepotref12_lacks.f
  simp only [Int.reduceEq, Int.reduceLT, Int.reduceGT, Int.reduceLE, Int.reduceGE, ↓reduceIte, decide_true, decide_false, Bool.false_eq_true, Bool.true_eq_false, gt_iff_lt, ge_iff_le, reduceCtorEq, Int.reduceBEq, beq_self_eq_true]
  refine Ev.step (fun _ => entrepotref12_lacks.j0.eq_2 ..) ?_
  simp only [Int.reduceEq, Int.reduceLT, Int.reduceGT, Int.reduceLE, Int.reduceGE, ↓reduceIte, decide_true, decide_false, Bool.false_eq_true, Bool.true_eq_false, gt_iff_lt, ge_iff_le, reduceCtorEq, Int.reduceBEq, beq_self_eq_true]
  refine Ev.step (fun _ => entrepotref12_lacks.j1.eq_2 ..) ?_
  simp only [Int.reduceEq, Int.reduceLT, Int.reduceGT, Int.reduceLE, Int.reduceGE, ↓reduceIte, decide_true, decide_false, Bool.false_eq_true, Bool.true_eq_false, gt_iff_lt, ge_iff_le, reduceCtorEq, Int.reduceBEq, beq_self_eq_true]
  exact Ev.bind (some10_ev nm kd mt sc cp fl mx hn) (Ev.now _)

theorem lk2_11 (nm : ByteArray) (kd mt sc cp fl : Int) {ns : List LacksWalk.Node} (mx : List Int) (hn : ns.length ≤ 400) : Ev (fun k => entrepotref12_lacks.f k 2 11 nm kd mt sc cp fl (ns.map conv) mx) (false) := by
  unfold entrepotref12_lacks.f
  simp only [Int.reduceEq, Int.reduceLT, Int.reduceGT, Int.reduceLE, Int.reduceGE, ↓reduceIte, decide_true, decide_false, Bool.false_eq_true, Bool.true_eq_false, gt_iff_lt, ge_iff_le, reduceCtorEq, Int.reduceBEq, beq_self_eq_true]
  refine Ev.step (fun _ => entrepotref12_lacks.j0.eq_2 ..) ?_
  simp only [Int.reduceEq, Int.reduceLT, Int.reduceGT, Int.reduceLE, Int.reduceGE, ↓reduceIte, decide_true, decide_false, Bool.false_eq_true, Bool.true_eq_false, gt_iff_lt, ge_iff_le, reduceCtorEq, Int.reduceBEq, beq_self_eq_true]
  refine Ev.step (fun _ => entrepotref12_lacks.j1.eq_2 ..) ?_
  simp only [Int.reduceEq, Int.reduceLT, Int.reduceGT, Int.reduceLE, Int.reduceGE, ↓reduceIte, decide_true, decide_false, Bool.false_eq_true, Bool.true_eq_false, gt_iff_lt, ge_iff_le, reduceCtorEq, Int.reduceBEq, beq_self_eq_true]
  exact Ev.now _

theorem lk2_12 (nm : ByteArray) (kd mt sc cp fl : Int) {ns : List LacksWalk.Node} (mx : List Int) (hn : ns.length ≤ 400) : Ev (fun k => entrepotref12_lacks.f k 2 12 nm kd mt sc cp fl (ns.map conv) mx) (false) := by
  unfold entrepotref12_lacks.f
  simp only [Int.reduceEq, Int.reduceLT, Int.reduceGT, Int.reduceLE, Int.reduceGE, ↓reduceIte, decide_true, decide_false, Bool.false_eq_true, Bool.true_eq_false, gt_iff_lt, ge_iff_le, reduceCtorEq, Int.reduceBEq, beq_self_eq_true]
  refine Ev.step (fun _ => entrepotref12_lacks.j0.eq_2 ..) ?_
  simp only [Int.reduceEq, Int.reduceLT, Int.reduceGT, Int.reduceLE, Int.reduceGE, ↓reduceIte, decide_true, decide_false, Bool.false_eq_true, Bool.true_eq_false, gt_iff_lt, ge_iff_le, reduceCtorEq, Int.reduceBEq, beq_self_eq_true]
  refine Ev.step (fun _ => entrepotref12_lacks.j1.eq_2 ..) ?_
  simp only [Int.reduceEq, Int.reduceLT, Int.reduceGT, Int.reduceLE, Int.reduceGE, ↓reduceIte, decide_true, decide_false, Bool.false_eq_true, Bool.true_eq_false, gt_iff_lt, ge_iff_le, reduceCtorEq, Int.reduceBEq, beq_self_eq_true]
  exact Ev.now _

theorem lk2_13 (nm : ByteArray) (kd mt sc cp fl : Int) {ns : List LacksWalk.Node} (mx : List Int) (hn : ns.length ≤ 400) : Ev (fun k => entrepotref12_lacks.f k 2 13 nm kd mt sc cp fl (ns.map conv) mx) (!(single ns)) := by
  unfold entrepotref12_lacks.f
  simp only [Int.reduceEq, Int.reduceLT, Int.reduceGT, Int.reduceLE, Int.reduceGE, ↓reduceIte, decide_true, decide_false, Bool.false_eq_true, Bool.true_eq_false, gt_iff_lt, ge_iff_le, reduceCtorEq, Int.reduceBEq, beq_self_eq_true]
  refine Ev.step (fun _ => entrepotref12_lacks.j0.eq_2 ..) ?_
  simp only [Int.reduceEq, Int.reduceLT, Int.reduceGT, Int.reduceLE, Int.reduceGE, ↓reduceIte, decide_true, decide_false, Bool.false_eq_true, Bool.true_eq_false, gt_iff_lt, ge_iff_le, reduceCtorEq, Int.reduceBEq, beq_self_eq_true]
  refine Ev.step (fun _ => entrepotref12_lacks.j1.eq_2 ..) ?_
  simp only [Int.reduceEq, Int.reduceLT, Int.reduceGT, Int.reduceLE, Int.reduceGE, ↓reduceIte, decide_true, decide_false, Bool.false_eq_true, Bool.true_eq_false, gt_iff_lt, ge_iff_le, reduceCtorEq, Int.reduceBEq, beq_self_eq_true]
  exact Ev.bind (some13_ev nm kd mt sc cp fl mx hn) (Ev.now _)

theorem lk3_1 (nm : ByteArray) (kd mt sc cp fl : Int) {ns : List LacksWalk.Node} (mx : List Int) (hn : ns.length ≤ 400) : Ev (fun k => entrepotref12_lacks.f k 3 1 nm kd mt sc cp fl (ns.map conv) mx) (!(isLilim nm)) := by
  unfold entrepotref12_lacks.f
  simp only [Int.reduceEq, Int.reduceLT, Int.reduceGT, Int.reduceLE, Int.reduceGE, ↓reduceIte, decide_true, decide_false, Bool.false_eq_true, Bool.true_eq_false, gt_iff_lt, ge_iff_le, reduceCtorEq, Int.reduceBEq, beq_self_eq_true]
  refine Ev.step (fun _ => entrepotref12_lacks.j0.eq_2 ..) ?_
  simp only [Int.reduceEq, Int.reduceLT, Int.reduceGT, Int.reduceLE, Int.reduceGE, ↓reduceIte, decide_true, decide_false, Bool.false_eq_true, Bool.true_eq_false, gt_iff_lt, ge_iff_le, reduceCtorEq, Int.reduceBEq, beq_self_eq_true]
  exact Ev.now _

theorem lk3_2 (nm : ByteArray) (kd mt sc cp fl : Int) {ns : List LacksWalk.Node} (mx : List Int) (hn : ns.length ≤ 400) : Ev (fun k => entrepotref12_lacks.f k 3 2 nm kd mt sc cp fl (ns.map conv) mx) (!(kd == 4)) := by
  unfold entrepotref12_lacks.f
  simp only [Int.reduceEq, Int.reduceLT, Int.reduceGT, Int.reduceLE, Int.reduceGE, ↓reduceIte, decide_true, decide_false, Bool.false_eq_true, Bool.true_eq_false, gt_iff_lt, ge_iff_le, reduceCtorEq, Int.reduceBEq, beq_self_eq_true]
  refine Ev.step (fun _ => entrepotref12_lacks.j0.eq_2 ..) ?_
  simp only [Int.reduceEq, Int.reduceLT, Int.reduceGT, Int.reduceLE, Int.reduceGE, ↓reduceIte, decide_true, decide_false, Bool.false_eq_true, Bool.true_eq_false, gt_iff_lt, ge_iff_le, reduceCtorEq, Int.reduceBEq, beq_self_eq_true]
  by_cases h : kd = 4
  · subst h; exact Ev.now _
  · first | (refine Ev.neg h (Ev.this ?_); rw [beq_eq_false_iff_ne.2 h]; rfl) | (refine Ev.this ?_; rw [bne_iff_ne.2 h, beq_eq_false_iff_ne.2 h]; rfl)

theorem lk3_3 (nm : ByteArray) (kd mt sc cp fl : Int) {ns : List LacksWalk.Node} (mx : List Int) (hn : ns.length ≤ 400) : Ev (fun k => entrepotref12_lacks.f k 3 3 nm kd mt sc cp fl (ns.map conv) mx) (!(mt == 6)) := by
  unfold entrepotref12_lacks.f
  simp only [Int.reduceEq, Int.reduceLT, Int.reduceGT, Int.reduceLE, Int.reduceGE, ↓reduceIte, decide_true, decide_false, Bool.false_eq_true, Bool.true_eq_false, gt_iff_lt, ge_iff_le, reduceCtorEq, Int.reduceBEq, beq_self_eq_true]
  refine Ev.step (fun _ => entrepotref12_lacks.j0.eq_2 ..) ?_
  simp only [Int.reduceEq, Int.reduceLT, Int.reduceGT, Int.reduceLE, Int.reduceGE, ↓reduceIte, decide_true, decide_false, Bool.false_eq_true, Bool.true_eq_false, gt_iff_lt, ge_iff_le, reduceCtorEq, Int.reduceBEq, beq_self_eq_true]
  exact Ev.now _

theorem lk3_4 (nm : ByteArray) (kd mt sc cp fl : Int) {ns : List LacksWalk.Node} (mx : List Int) (hn : ns.length ≤ 400) : Ev (fun k => entrepotref12_lacks.f k 3 4 nm kd mt sc cp fl (ns.map conv) mx) (!(sc == 0)) := by
  unfold entrepotref12_lacks.f
  simp only [Int.reduceEq, Int.reduceLT, Int.reduceGT, Int.reduceLE, Int.reduceGE, ↓reduceIte, decide_true, decide_false, Bool.false_eq_true, Bool.true_eq_false, gt_iff_lt, ge_iff_le, reduceCtorEq, Int.reduceBEq, beq_self_eq_true]
  refine Ev.step (fun _ => entrepotref12_lacks.j0.eq_2 ..) ?_
  simp only [Int.reduceEq, Int.reduceLT, Int.reduceGT, Int.reduceLE, Int.reduceGE, ↓reduceIte, decide_true, decide_false, Bool.false_eq_true, Bool.true_eq_false, gt_iff_lt, ge_iff_le, reduceCtorEq, Int.reduceBEq, beq_self_eq_true]
  exact Ev.now _

theorem lk3_5 (nm : ByteArray) (kd mt sc cp fl : Int) {ns : List LacksWalk.Node} (mx : List Int) (hn : ns.length ≤ 400) : Ev (fun k => entrepotref12_lacks.f k 3 5 nm kd mt sc cp fl (ns.map conv) mx) (false) := by
  unfold entrepotref12_lacks.f
  simp only [Int.reduceEq, Int.reduceLT, Int.reduceGT, Int.reduceLE, Int.reduceGE, ↓reduceIte, decide_true, decide_false, Bool.false_eq_true, Bool.true_eq_false, gt_iff_lt, ge_iff_le, reduceCtorEq, Int.reduceBEq, beq_self_eq_true]
  refine Ev.step (fun _ => entrepotref12_lacks.j0.eq_2 ..) ?_
  simp only [Int.reduceEq, Int.reduceLT, Int.reduceGT, Int.reduceLE, Int.reduceGE, ↓reduceIte, decide_true, decide_false, Bool.false_eq_true, Bool.true_eq_false, gt_iff_lt, ge_iff_le, reduceCtorEq, Int.reduceBEq, beq_self_eq_true]
  refine Ev.step (fun _ => entrepotref12_lacks.j1.eq_2 ..) ?_
  simp only [Int.reduceEq, Int.reduceLT, Int.reduceGT, Int.reduceLE, Int.reduceGE, ↓reduceIte, decide_true, decide_false, Bool.false_eq_true, Bool.true_eq_false, gt_iff_lt, ge_iff_le, reduceCtorEq, Int.reduceBEq, beq_self_eq_true]
  exact Ev.now _

theorem lk3_6 (nm : ByteArray) (kd mt sc cp fl : Int) {ns : List LacksWalk.Node} (mx : List Int) (hn : ns.length ≤ 400) : Ev (fun k => entrepotref12_lacks.f k 3 6 nm kd mt sc cp fl (ns.map conv) mx) (!(decide (1 ≤ fl))) := by
  unfold entrepotref12_lacks.f
  simp only [Int.reduceEq, Int.reduceLT, Int.reduceGT, Int.reduceLE, Int.reduceGE, ↓reduceIte, decide_true, decide_false, Bool.false_eq_true, Bool.true_eq_false, gt_iff_lt, ge_iff_le, reduceCtorEq, Int.reduceBEq, beq_self_eq_true]
  refine Ev.step (fun _ => entrepotref12_lacks.j0.eq_2 ..) ?_
  simp only [Int.reduceEq, Int.reduceLT, Int.reduceGT, Int.reduceLE, Int.reduceGE, ↓reduceIte, decide_true, decide_false, Bool.false_eq_true, Bool.true_eq_false, gt_iff_lt, ge_iff_le, reduceCtorEq, Int.reduceBEq, beq_self_eq_true]
  refine Ev.this ?_
  congr 1
  by_cases h : 1 ≤ fl
  · rw [decide_eq_true h, decide_eq_false (by omega)]; rfl
  · rw [decide_eq_false h, decide_eq_true (by omega)]; rfl

theorem lk3_7 (nm : ByteArray) (kd mt sc cp fl : Int) {ns : List LacksWalk.Node} (mx : List Int) (hn : ns.length ≤ 400) : Ev (fun k => entrepotref12_lacks.f k 3 7 nm kd mt sc cp fl (ns.map conv) mx) (false) := by
  unfold entrepotref12_lacks.f
  simp only [Int.reduceEq, Int.reduceLT, Int.reduceGT, Int.reduceLE, Int.reduceGE, ↓reduceIte, decide_true, decide_false, Bool.false_eq_true, Bool.true_eq_false, gt_iff_lt, ge_iff_le, reduceCtorEq, Int.reduceBEq, beq_self_eq_true]
  refine Ev.step (fun _ => entrepotref12_lacks.j0.eq_2 ..) ?_
  simp only [Int.reduceEq, Int.reduceLT, Int.reduceGT, Int.reduceLE, Int.reduceGE, ↓reduceIte, decide_true, decide_false, Bool.false_eq_true, Bool.true_eq_false, gt_iff_lt, ge_iff_le, reduceCtorEq, Int.reduceBEq, beq_self_eq_true]
  refine Ev.step (fun _ => entrepotref12_lacks.j1.eq_2 ..) ?_
  simp only [Int.reduceEq, Int.reduceLT, Int.reduceGT, Int.reduceLE, Int.reduceGE, ↓reduceIte, decide_true, decide_false, Bool.false_eq_true, Bool.true_eq_false, gt_iff_lt, ge_iff_le, reduceCtorEq, Int.reduceBEq, beq_self_eq_true]
  exact Ev.now _

theorem lk3_8 (nm : ByteArray) (kd mt sc cp fl : Int) {ns : List LacksWalk.Node} (mx : List Int) (hn : ns.length ≤ 400) : Ev (fun k => entrepotref12_lacks.f k 3 8 nm kd mt sc cp fl (ns.map conv) mx) (false) := by
  unfold entrepotref12_lacks.f
  simp only [Int.reduceEq, Int.reduceLT, Int.reduceGT, Int.reduceLE, Int.reduceGE, ↓reduceIte, decide_true, decide_false, Bool.false_eq_true, Bool.true_eq_false, gt_iff_lt, ge_iff_le, reduceCtorEq, Int.reduceBEq, beq_self_eq_true]
  refine Ev.step (fun _ => entrepotref12_lacks.j0.eq_2 ..) ?_
  simp only [Int.reduceEq, Int.reduceLT, Int.reduceGT, Int.reduceLE, Int.reduceGE, ↓reduceIte, decide_true, decide_false, Bool.false_eq_true, Bool.true_eq_false, gt_iff_lt, ge_iff_le, reduceCtorEq, Int.reduceBEq, beq_self_eq_true]
  refine Ev.step (fun _ => entrepotref12_lacks.j1.eq_2 ..) ?_
  simp only [Int.reduceEq, Int.reduceLT, Int.reduceGT, Int.reduceLE, Int.reduceGE, ↓reduceIte, decide_true, decide_false, Bool.false_eq_true, Bool.true_eq_false, gt_iff_lt, ge_iff_le, reduceCtorEq, Int.reduceBEq, beq_self_eq_true]
  exact Ev.now _

theorem lk3_9 (nm : ByteArray) (kd mt sc cp fl : Int) {ns : List LacksWalk.Node} (mx : List Int) (hn : ns.length ≤ 400) : Ev (fun k => entrepotref12_lacks.f k 3 9 nm kd mt sc cp fl (ns.map conv) mx) (false) := by
  unfold entrepotref12_lacks.f
  simp only [Int.reduceEq, Int.reduceLT, Int.reduceGT, Int.reduceLE, Int.reduceGE, ↓reduceIte, decide_true, decide_false, Bool.false_eq_true, Bool.true_eq_false, gt_iff_lt, ge_iff_le, reduceCtorEq, Int.reduceBEq, beq_self_eq_true]
  refine Ev.step (fun _ => entrepotref12_lacks.j0.eq_2 ..) ?_
  simp only [Int.reduceEq, Int.reduceLT, Int.reduceGT, Int.reduceLE, Int.reduceGE, ↓reduceIte, decide_true, decide_false, Bool.false_eq_true, Bool.true_eq_false, gt_iff_lt, ge_iff_le, reduceCtorEq, Int.reduceBEq, beq_self_eq_true]
  refine Ev.step (fun _ => entrepotref12_lacks.j1.eq_2 ..) ?_
  simp only [Int.reduceEq, Int.reduceLT, Int.reduceGT, Int.reduceLE, Int.reduceGE, ↓reduceIte, decide_true, decide_false, Bool.false_eq_true, Bool.true_eq_false, gt_iff_lt, ge_iff_le, reduceCtorEq, Int.reduceBEq, beq_self_eq_true]
  exact Ev.now _

theorem lk3_10 (nm : ByteArray) (kd mt sc cp fl : Int) {ns : List LacksWalk.Node} (mx : List Int) (hn : ns.length ≤ 400) : Ev (fun k => entrepotref12_lacks.f k 3 10 nm kd mt sc cp fl (ns.map conv) mx) (false) := by
  unfold entrepotref12_lacks.f
  simp only [Int.reduceEq, Int.reduceLT, Int.reduceGT, Int.reduceLE, Int.reduceGE, ↓reduceIte, decide_true, decide_false, Bool.false_eq_true, Bool.true_eq_false, gt_iff_lt, ge_iff_le, reduceCtorEq, Int.reduceBEq, beq_self_eq_true]
  refine Ev.step (fun _ => entrepotref12_lacks.j0.eq_2 ..) ?_
  simp only [Int.reduceEq, Int.reduceLT, Int.reduceGT, Int.reduceLE, Int.reduceGE, ↓reduceIte, decide_true, decide_false, Bool.false_eq_true, Bool.true_eq_false, gt_iff_lt, ge_iff_le, reduceCtorEq, Int.reduceBEq, beq_self_eq_true]
  refine Ev.step (fun _ => entrepotref12_lacks.j1.eq_2 ..) ?_
  simp only [Int.reduceEq, Int.reduceLT, Int.reduceGT, Int.reduceLE, Int.reduceGE, ↓reduceIte, decide_true, decide_false, Bool.false_eq_true, Bool.true_eq_false, gt_iff_lt, ge_iff_le, reduceCtorEq, Int.reduceBEq, beq_self_eq_true]
  exact Ev.now _

theorem lk3_11 (nm : ByteArray) (kd mt sc cp fl : Int) {ns : List LacksWalk.Node} (mx : List Int) (hn : ns.length ≤ 400) : Ev (fun k => entrepotref12_lacks.f k 3 11 nm kd mt sc cp fl (ns.map conv) mx) (false) := by
  unfold entrepotref12_lacks.f
  simp only [Int.reduceEq, Int.reduceLT, Int.reduceGT, Int.reduceLE, Int.reduceGE, ↓reduceIte, decide_true, decide_false, Bool.false_eq_true, Bool.true_eq_false, gt_iff_lt, ge_iff_le, reduceCtorEq, Int.reduceBEq, beq_self_eq_true]
  refine Ev.step (fun _ => entrepotref12_lacks.j0.eq_2 ..) ?_
  simp only [Int.reduceEq, Int.reduceLT, Int.reduceGT, Int.reduceLE, Int.reduceGE, ↓reduceIte, decide_true, decide_false, Bool.false_eq_true, Bool.true_eq_false, gt_iff_lt, ge_iff_le, reduceCtorEq, Int.reduceBEq, beq_self_eq_true]
  refine Ev.step (fun _ => entrepotref12_lacks.j1.eq_2 ..) ?_
  simp only [Int.reduceEq, Int.reduceLT, Int.reduceGT, Int.reduceLE, Int.reduceGE, ↓reduceIte, decide_true, decide_false, Bool.false_eq_true, Bool.true_eq_false, gt_iff_lt, ge_iff_le, reduceCtorEq, Int.reduceBEq, beq_self_eq_true]
  exact Ev.now _

theorem lk3_12 (nm : ByteArray) (kd mt sc cp fl : Int) {ns : List LacksWalk.Node} (mx : List Int) (hn : ns.length ≤ 400) : Ev (fun k => entrepotref12_lacks.f k 3 12 nm kd mt sc cp fl (ns.map conv) mx) (false) := by
  unfold entrepotref12_lacks.f
  simp only [Int.reduceEq, Int.reduceLT, Int.reduceGT, Int.reduceLE, Int.reduceGE, ↓reduceIte, decide_true, decide_false, Bool.false_eq_true, Bool.true_eq_false, gt_iff_lt, ge_iff_le, reduceCtorEq, Int.reduceBEq, beq_self_eq_true]
  refine Ev.step (fun _ => entrepotref12_lacks.j0.eq_2 ..) ?_
  simp only [Int.reduceEq, Int.reduceLT, Int.reduceGT, Int.reduceLE, Int.reduceGE, ↓reduceIte, decide_true, decide_false, Bool.false_eq_true, Bool.true_eq_false, gt_iff_lt, ge_iff_le, reduceCtorEq, Int.reduceBEq, beq_self_eq_true]
  refine Ev.step (fun _ => entrepotref12_lacks.j1.eq_2 ..) ?_
  simp only [Int.reduceEq, Int.reduceLT, Int.reduceGT, Int.reduceLE, Int.reduceGE, ↓reduceIte, decide_true, decide_false, Bool.false_eq_true, Bool.true_eq_false, gt_iff_lt, ge_iff_le, reduceCtorEq, Int.reduceBEq, beq_self_eq_true]
  exact Ev.now _

theorem lk3_13 (nm : ByteArray) (kd mt sc cp fl : Int) {ns : List LacksWalk.Node} (mx : List Int) (hn : ns.length ≤ 400) : Ev (fun k => entrepotref12_lacks.f k 3 13 nm kd mt sc cp fl (ns.map conv) mx) (false) := by
  unfold entrepotref12_lacks.f
  simp only [Int.reduceEq, Int.reduceLT, Int.reduceGT, Int.reduceLE, Int.reduceGE, ↓reduceIte, decide_true, decide_false, Bool.false_eq_true, Bool.true_eq_false, gt_iff_lt, ge_iff_le, reduceCtorEq, Int.reduceBEq, beq_self_eq_true]
  refine Ev.step (fun _ => entrepotref12_lacks.j0.eq_2 ..) ?_
  simp only [Int.reduceEq, Int.reduceLT, Int.reduceGT, Int.reduceLE, Int.reduceGE, ↓reduceIte, decide_true, decide_false, Bool.false_eq_true, Bool.true_eq_false, gt_iff_lt, ge_iff_le, reduceCtorEq, Int.reduceBEq, beq_self_eq_true]
  refine Ev.step (fun _ => entrepotref12_lacks.j1.eq_2 ..) ?_
  simp only [Int.reduceEq, Int.reduceLT, Int.reduceGT, Int.reduceLE, Int.reduceGE, ↓reduceIte, decide_true, decide_false, Bool.false_eq_true, Bool.true_eq_false, gt_iff_lt, ge_iff_le, reduceCtorEq, Int.reduceBEq, beq_self_eq_true]
  exact Ev.now _

theorem lk_step {fmt : Int} {nm : ByteArray} {kd mt sc cp fl : Int} {ns : List Node2} {mx : List Int} {c : Nat} {acc : List Int} {b : Bool} {r : List Int} (hc : c ≤ 13) (ha : acc.length ≤ 13) (h : Ev (fun k => entrepotref12_lacks.f k fmt (c : Int) nm kd mt sc cp fl ns mx) b)
    (next : Ev (fun k => entrepotref12_Lacks.l0 k fmt (acc ++ if b = true then [(c : Int)] else []) ((c + 1 : Nat) : Int) nm kd mt sc cp fl ns mx) r) : Ev (fun k => entrepotref12_Lacks.l0 k fmt acc (c : Int) nm kd mt sc cp fl ns mx) r := by
  refine Ev.step (fun _ => entrepotref12_Lacks.l0.eq_2 ..) (Ev.pos (by omega) (Ev.bind h ?_))
  rw [wrap64_succ (by omega)]
  cases b with
  | true => exact Ev.pos rfl (Ev.pos (by omega) next)
  | false =>
    refine Ev.neg (by simp) ?_
    rwa [if_neg (by simp), List.append_nil] at next
theorem lk_end {fmt : Int} {nm : ByteArray} {kd mt sc cp fl : Int} {ns : List Node2} {mx : List Int} {acc r : List Int} (h : acc = r) : Ev (fun k => entrepotref12_Lacks.l0 k fmt acc ((14 : Nat) : Int) nm kd mt sc cp fl ns mx) r := by
  subst h
  exact Ev.step (fun _ => entrepotref12_Lacks.l0.eq_2 ..) (Ev.neg (by omega) (Ev.now _))
theorem len_opt (l : List Int) (b : Bool) (c : Int) {n : Nat} (h : l.length ≤ n) : (l ++ if b = true then [c] else []).length ≤ n + 1 := by cases b <;> simp <;> omega

theorem ref1_ev (nm : ByteArray) (kd mt sc cp fl : Int) {ns : List LacksWalk.Node} (mx : List Int) (hn : ns.length ≤ 400) : Ev (fun k => entrepotref12_Lacks.f k 1 nm kd mt sc cp fl (ns.map conv) mx) (fails (looks1 kd mt fl ns)) := by
  unfold entrepotref12_Lacks.f
  have n1 := (show ([] : List Int).length ≤ 0 from Nat.le_refl _)
  refine lk_step (c := 1) (by omega) (by exact Nat.le_trans n1 (by omega)) (lk1_1 nm kd mt sc cp fl mx hn) ?_
  have n2 := len_opt _ (false) 1 n1
  refine lk_step (c := 2) (by omega) (by exact Nat.le_trans n2 (by omega)) (lk1_2 nm kd mt sc cp fl mx hn) ?_
  have n3 := len_opt _ (!(kd == 1 || kd == 2)) 2 n2
  refine lk_step (c := 3) (by omega) (by exact Nat.le_trans n3 (by omega)) (lk1_3 nm kd mt sc cp fl mx hn) ?_
  have n4 := len_opt _ (!(known mt && !(mt == 6))) 3 n3
  refine lk_step (c := 4) (by omega) (by exact Nat.le_trans n4 (by omega)) (lk1_4 nm kd mt sc cp fl mx hn) ?_
  have n5 := len_opt _ (false) 4 n4
  refine lk_step (c := 5) (by omega) (by exact Nat.le_trans n5 (by omega)) (lk1_5 nm kd mt sc cp fl mx hn) ?_
  have n6 := len_opt _ (false) 5 n5
  refine lk_step (c := 6) (by omega) (by exact Nat.le_trans n6 (by omega)) (lk1_6 nm kd mt sc cp fl mx hn) ?_
  have n7 := len_opt _ (!(fl == 0)) 6 n6
  refine lk_step (c := 7) (by omega) (by exact Nat.le_trans n7 (by omega)) (lk1_7 nm kd mt sc cp fl mx hn) ?_
  have n8 := len_opt _ (false) 7 n7
  refine lk_step (c := 8) (by omega) (by exact Nat.le_trans n8 (by omega)) (lk1_8 nm kd mt sc cp fl mx hn) ?_
  have n9 := len_opt _ (false) 8 n8
  refine lk_step (c := 9) (by omega) (by exact Nat.le_trans n9 (by omega)) (lk1_9 nm kd mt sc cp fl mx hn) ?_
  have n10 := len_opt _ (false) 9 n9
  refine lk_step (c := 10) (by omega) (by exact Nat.le_trans n10 (by omega)) (lk1_10 nm kd mt sc cp fl mx hn) ?_
  have n11 := len_opt _ (!(pos ns)) 10 n10
  refine lk_step (c := 11) (by omega) (by exact Nat.le_trans n11 (by omega)) (lk1_11 nm kd mt sc cp fl mx hn) ?_
  have n12 := len_opt _ (!(unwindowed ns)) 11 n11
  refine lk_step (c := 12) (by omega) (by exact Nat.le_trans n12 (by omega)) (lk1_12 nm kd mt sc cp fl mx hn) ?_
  have n13 := len_opt _ (!(unserved ns)) 12 n12
  refine lk_step (c := 13) (by omega) (by exact Nat.le_trans n13 (by omega)) (lk1_13 nm kd mt sc cp fl mx hn) ?_
  refine lk_end ?_
  clear n1 n2 n3 n4 n5 n6 n7 n8 n9 n10 n11 n12 n13
  have key : ∀ a b c d e f g : Bool, (((((((((((((([] ++ if false = true then [((1 : Nat) : Int)] else []) ++ if (!a) = true then [((2 : Nat) : Int)] else []) ++ if (!b) = true then [((3 : Nat) : Int)] else []) ++ if false = true then [((4 : Nat) : Int)] else []) ++ if false = true then [((5 : Nat) : Int)] else []) ++ if (!c) = true then [((6 : Nat) : Int)] else []) ++ if false = true then [((7 : Nat) : Int)] else []) ++ if false = true then [((8 : Nat) : Int)] else []) ++ if false = true then [((9 : Nat) : Int)] else []) ++ if (!d) = true then [((10 : Nat) : Int)] else []) ++ if (!e) = true then [((11 : Nat) : Int)] else []) ++ if (!f) = true then [((12 : Nat) : Int)] else []) ++ if (!g) = true then [((13 : Nat) : Int)] else []) : List Int) = fails [⟨2, a⟩, ⟨3, b⟩, ⟨6, c⟩, ⟨10, d⟩, ⟨11, e⟩, ⟨12, f⟩, ⟨13, g⟩] := by decide +kernel
  exact key (kd == 1 || kd == 2) (known mt && !(mt == 6)) (fl == 0) (pos ns) (unwindowed ns) (unserved ns) (single ns)

theorem ref2_ev (nm : ByteArray) (kd mt sc cp fl : Int) {ns : List LacksWalk.Node} (mx : List Int) (hn : ns.length ≤ 400) : Ev (fun k => entrepotref12_Lacks.f k 2 nm kd mt sc cp fl (ns.map conv) mx) (fails (looks2 kd mt fl ns)) := by
  unfold entrepotref12_Lacks.f
  have n1 := (show ([] : List Int).length ≤ 0 from Nat.le_refl _)
  refine lk_step (c := 1) (by omega) (by exact Nat.le_trans n1 (by omega)) (lk2_1 nm kd mt sc cp fl mx hn) ?_
  have n2 := len_opt _ (false) 1 n1
  refine lk_step (c := 2) (by omega) (by exact Nat.le_trans n2 (by omega)) (lk2_2 nm kd mt sc cp fl mx hn) ?_
  have n3 := len_opt _ (!(kd == 3)) 2 n2
  refine lk_step (c := 3) (by omega) (by exact Nat.le_trans n3 (by omega)) (lk2_3 nm kd mt sc cp fl mx hn) ?_
  have n4 := len_opt _ (!(mt == 6)) 3 n3
  refine lk_step (c := 4) (by omega) (by exact Nat.le_trans n4 (by omega)) (lk2_4 nm kd mt sc cp fl mx hn) ?_
  have n5 := len_opt _ (false) 4 n4
  refine lk_step (c := 5) (by omega) (by exact Nat.le_trans n5 (by omega)) (lk2_5 nm kd mt sc cp fl mx hn) ?_
  have n6 := len_opt _ (false) 5 n5
  refine lk_step (c := 6) (by omega) (by exact Nat.le_trans n6 (by omega)) (lk2_6 nm kd mt sc cp fl mx hn) ?_
  have n7 := len_opt _ (!(decide (1 ≤ fl))) 6 n6
  refine lk_step (c := 7) (by omega) (by exact Nat.le_trans n7 (by omega)) (lk2_7 nm kd mt sc cp fl mx hn) ?_
  have n8 := len_opt _ (false) 7 n7
  refine lk_step (c := 8) (by omega) (by exact Nat.le_trans n8 (by omega)) (lk2_8 nm kd mt sc cp fl mx hn) ?_
  have n9 := len_opt _ (false) 8 n8
  refine lk_step (c := 9) (by omega) (by exact Nat.le_trans n9 (by omega)) (lk2_9 nm kd mt sc cp fl mx hn) ?_
  have n10 := len_opt _ (false) 9 n9
  refine lk_step (c := 10) (by omega) (by exact Nat.le_trans n10 (by omega)) (lk2_10 nm kd mt sc cp fl mx hn) ?_
  have n11 := len_opt _ (!(pos ns)) 10 n10
  refine lk_step (c := 11) (by omega) (by exact Nat.le_trans n11 (by omega)) (lk2_11 nm kd mt sc cp fl mx hn) ?_
  have n12 := len_opt _ (false) 11 n11
  refine lk_step (c := 12) (by omega) (by exact Nat.le_trans n12 (by omega)) (lk2_12 nm kd mt sc cp fl mx hn) ?_
  have n13 := len_opt _ (false) 12 n12
  refine lk_step (c := 13) (by omega) (by exact Nat.le_trans n13 (by omega)) (lk2_13 nm kd mt sc cp fl mx hn) ?_
  refine lk_end ?_
  clear n1 n2 n3 n4 n5 n6 n7 n8 n9 n10 n11 n12 n13
  have key : ∀ a b c d e : Bool, (((((((((((((([] ++ if false = true then [((1 : Nat) : Int)] else []) ++ if (!a) = true then [((2 : Nat) : Int)] else []) ++ if (!b) = true then [((3 : Nat) : Int)] else []) ++ if false = true then [((4 : Nat) : Int)] else []) ++ if false = true then [((5 : Nat) : Int)] else []) ++ if (!c) = true then [((6 : Nat) : Int)] else []) ++ if false = true then [((7 : Nat) : Int)] else []) ++ if false = true then [((8 : Nat) : Int)] else []) ++ if false = true then [((9 : Nat) : Int)] else []) ++ if (!d) = true then [((10 : Nat) : Int)] else []) ++ if false = true then [((11 : Nat) : Int)] else []) ++ if false = true then [((12 : Nat) : Int)] else []) ++ if (!e) = true then [((13 : Nat) : Int)] else []) : List Int) = fails [⟨2, a⟩, ⟨3, b⟩, ⟨6, c⟩, ⟨10, d⟩, ⟨13, e⟩] := by decide +kernel
  exact key (kd == 3) (mt == 6) (decide (1 ≤ fl)) (pos ns) (single ns)

theorem ref3_ev (nm : ByteArray) (kd mt sc cp fl : Int) {ns : List LacksWalk.Node} (mx : List Int) (hn : ns.length ≤ 400) : Ev (fun k => entrepotref12_Lacks.f k 3 nm kd mt sc cp fl (ns.map conv) mx) (fails (looks3 nm kd mt sc fl)) := by
  unfold entrepotref12_Lacks.f
  have n1 := (show ([] : List Int).length ≤ 0 from Nat.le_refl _)
  refine lk_step (c := 1) (by omega) (by exact Nat.le_trans n1 (by omega)) (lk3_1 nm kd mt sc cp fl mx hn) ?_
  have n2 := len_opt _ (!(isLilim nm)) 1 n1
  refine lk_step (c := 2) (by omega) (by exact Nat.le_trans n2 (by omega)) (lk3_2 nm kd mt sc cp fl mx hn) ?_
  have n3 := len_opt _ (!(kd == 4)) 2 n2
  refine lk_step (c := 3) (by omega) (by exact Nat.le_trans n3 (by omega)) (lk3_3 nm kd mt sc cp fl mx hn) ?_
  have n4 := len_opt _ (!(mt == 6)) 3 n3
  refine lk_step (c := 4) (by omega) (by exact Nat.le_trans n4 (by omega)) (lk3_4 nm kd mt sc cp fl mx hn) ?_
  have n5 := len_opt _ (!(sc == 0)) 4 n4
  refine lk_step (c := 5) (by omega) (by exact Nat.le_trans n5 (by omega)) (lk3_5 nm kd mt sc cp fl mx hn) ?_
  have n6 := len_opt _ (false) 5 n5
  refine lk_step (c := 6) (by omega) (by exact Nat.le_trans n6 (by omega)) (lk3_6 nm kd mt sc cp fl mx hn) ?_
  have n7 := len_opt _ (!(decide (1 ≤ fl))) 6 n6
  refine lk_step (c := 7) (by omega) (by exact Nat.le_trans n7 (by omega)) (lk3_7 nm kd mt sc cp fl mx hn) ?_
  have n8 := len_opt _ (false) 7 n7
  refine lk_step (c := 8) (by omega) (by exact Nat.le_trans n8 (by omega)) (lk3_8 nm kd mt sc cp fl mx hn) ?_
  have n9 := len_opt _ (false) 8 n8
  refine lk_step (c := 9) (by omega) (by exact Nat.le_trans n9 (by omega)) (lk3_9 nm kd mt sc cp fl mx hn) ?_
  have n10 := len_opt _ (false) 9 n9
  refine lk_step (c := 10) (by omega) (by exact Nat.le_trans n10 (by omega)) (lk3_10 nm kd mt sc cp fl mx hn) ?_
  have n11 := len_opt _ (false) 10 n10
  refine lk_step (c := 11) (by omega) (by exact Nat.le_trans n11 (by omega)) (lk3_11 nm kd mt sc cp fl mx hn) ?_
  have n12 := len_opt _ (false) 11 n11
  refine lk_step (c := 12) (by omega) (by exact Nat.le_trans n12 (by omega)) (lk3_12 nm kd mt sc cp fl mx hn) ?_
  have n13 := len_opt _ (false) 12 n12
  refine lk_step (c := 13) (by omega) (by exact Nat.le_trans n13 (by omega)) (lk3_13 nm kd mt sc cp fl mx hn) ?_
  refine lk_end ?_
  clear n1 n2 n3 n4 n5 n6 n7 n8 n9 n10 n11 n12 n13
  have key : ∀ a b c d e : Bool, (((((((((((((([] ++ if (!a) = true then [((1 : Nat) : Int)] else []) ++ if (!b) = true then [((2 : Nat) : Int)] else []) ++ if (!c) = true then [((3 : Nat) : Int)] else []) ++ if (!d) = true then [((4 : Nat) : Int)] else []) ++ if false = true then [((5 : Nat) : Int)] else []) ++ if (!e) = true then [((6 : Nat) : Int)] else []) ++ if false = true then [((7 : Nat) : Int)] else []) ++ if false = true then [((8 : Nat) : Int)] else []) ++ if false = true then [((9 : Nat) : Int)] else []) ++ if false = true then [((10 : Nat) : Int)] else []) ++ if false = true then [((11 : Nat) : Int)] else []) ++ if false = true then [((12 : Nat) : Int)] else []) ++ if false = true then [((13 : Nat) : Int)] else []) : List Int) = fails [⟨1, a⟩, ⟨2, b⟩, ⟨3, c⟩, ⟨4, d⟩, ⟨6, e⟩] := by decide +kernel
  exact key (isLilim nm) (kd == 4) (mt == 6) (sc == 0) (decide (1 ≤ fl))

theorem lkAny {fmt : Int} (nm : ByteArray) (kd mt sc cp fl : Int) (ns : List Node2) (mx : List Int) (c : Int) (b : Bool) (h : (fmt < 1 ∨ 5 < fmt) ∧ b = true ∨ (3 < fmt ∧ fmt ≤ 5) ∧ b = false) : Ev (fun k => entrepotref12_lacks.f k fmt c nm kd mt sc cp fl ns mx) b := by
  unfold entrepotref12_lacks.f
  rcases h with ⟨h | h, rfl⟩ | ⟨h, rfl⟩
  · exact Ev.pos h (Ev.step (fun _ => entrepotref12_lacks.j0.eq_2 ..) (Ev.pos rfl (Ev.now _)))
  · exact Ev.neg (by omega) (Ev.step (fun _ => entrepotref12_lacks.j0.eq_2 ..) (Ev.pos (by simpa using h) (Ev.now _)))
  · exact Ev.neg (by omega) (Ev.step (fun _ => entrepotref12_lacks.j0.eq_2 ..) (Ev.neg (by simp; omega) (Ev.pos (by omega) (Ev.now _))))
theorem refAny_from {fmt : Int} (nm : ByteArray) (kd mt sc cp fl : Int) (ns : List Node2) (mx : List Int) (b : Bool) (h : (fmt < 1 ∨ 5 < fmt) ∧ b = true ∨ (3 < fmt ∧ fmt ≤ 5) ∧ b = false) (d : Nat) : ∀ c : Nat, c + d = 13 →
    Ev (fun k => entrepotref12_Lacks.l0 k fmt (if b = true then LacksWalk.upto c else []) ((c + 1 : Nat) : Int) nm kd mt sc cp fl ns mx) (if b = true then LacksWalk.upto 13 else []) := by
  induction d with
  | zero =>
    intro c hc
    obtain rfl : c = 13 := by omega
    exact lk_end rfl
  | succ d ih =>
    intro c hc
    refine lk_step (by omega) (by cases b <;> simp [LacksWalk.upto_len] <;> omega) (lkAny nm kd mt sc cp fl ns mx _ b h) ?_
    have := ih (c + 1) (by omega)
    rw [LacksWalk.upto_succ] at this
    cases b
    · simpa using this
    · simpa using this
theorem refAny_ev {fmt : Int} (nm : ByteArray) (kd mt sc cp fl : Int) (ns : List Node2) (mx : List Int) (b : Bool) (h : (fmt < 1 ∨ 5 < fmt) ∧ b = true ∨ (3 < fmt ∧ fmt ≤ 5) ∧ b = false) :
    Ev (fun k => entrepotref12_Lacks.f k fmt nm kd mt sc cp fl ns mx) (if b = true then LacksWalk.upto 13 else []) := by
  have := refAny_from nm kd mt sc cp fl ns mx b h 13 0 (by omega)
  rwa [show (if b = true then LacksWalk.upto 0 else []) = [] by cases b <;> rfl] at this
/-- What the reference tells is what express.Lacks tells. -/
theorem ref_ev (fmt : Int) (nm : ByteArray) (kd mt sc cp fl : Int) {ns : List LacksWalk.Node} (mx : List Int) (hn : ns.length ≤ 400) : Ev (fun k => entrepotref12_Lacks.f k fmt nm kd mt sc cp fl (ns.map conv) mx) (lacksOf fmt nm kd mt sc fl ns) := by
  unfold lacksOf
  by_cases f1 : fmt = 1
  · subst f1; rw [if_pos rfl]; exact ref1_ev nm kd mt sc cp fl mx hn
  · rw [if_neg f1]
    by_cases f2 : fmt = 2
    · subst f2; rw [if_pos rfl]; exact ref2_ev nm kd mt sc cp fl mx hn
    · rw [if_neg f2]
      by_cases f3 : fmt = 3
      · subst f3; rw [if_pos rfl]; exact ref3_ev nm kd mt sc cp fl mx hn
      · rw [if_neg f3]
        by_cases f4 : fmt = 4 ∨ fmt = 5
        · rw [if_pos f4]; exact refAny_ev nm kd mt sc cp fl _ mx false (.inr ⟨by omega, rfl⟩)
        · rw [if_neg f4]; exact refAny_ev nm kd mt sc cp fl _ mx true (.inl ⟨by omega, rfl⟩)
end Ref12
end Go.Proofs.Ytmapllahhpdedaa
