/- Upper rows are lower columns, and lower rows upper columns, of the same numbers; with a diagonal of noughts these are among those with it. -/
import Derived.Test.YtdgdhmglcpkkiaaDoorGLayS
import Derived.Test.YtdgdhmglcpkkiaaDoorGOpenRow
import Derived.Test.YtdgdhmglcpkkiaaDoorPxEntrepotlaw07LayoutTurned
set_option linter.unusedVariables false
namespace Go.Proofs.YtdgdhmglcpkkiaaDoor.Pure
open Go.RowKit Go.Proofs.YtdgdhmglcpkkiaaDoor.P Go.Proofs.YtdgdhmglcpkkiaaDoorW.PrintWords Go.Proofs.YtdgdhmglcpkkiaaDoorW.PrintLast LayWalk
theorem mayB_of {lay n : Nat} (hl : 1 ≤ lay ∧ lay ≤ 7) (hn : 1 ≤ n ∧ n ≤ 400) : mayB (lay : Int) (n : Int) = true := by
  unfold mayB; rw [decide_eq_true (by omega), decide_eq_true (by omega)]; rfl
theorem unpackV_in {lay n : Nat} (hl : 1 ≤ lay ∧ lay ≤ 7) (hn : 1 ≤ n ∧ n ≤ 400) (l : List Int) : unpackV (lay : Int) (n : Int) l = if l.length = cnt lay n then (unp lay n l, 0) else ([], 70) := by
  unfold unpackV
  rw [if_pos (mayB_of hl hn), Int.toNat_natCast, Int.toNat_natCast]
/-- A matrix of one layout that is of another one too: packed and unpacked in that one it is the same. -/
theorem again {lay n : Nat} (hl : 1 ≤ lay ∧ lay ≤ 7) (hn : 1 ≤ n ∧ n ≤ 400) {m : List Int} (hm : m.length = n * n) (hf : FitsB lay n m) : packV (lay : Int) (n : Int) m = (told lay n m, 0) ∧ unpackV (lay : Int) (n : Int) (told lay n m) = (m, 0) := by
  constructor
  · unfold packV
    rw [if_pos (mayB_of hl hn), Int.toNat_natCast, Int.toNat_natCast, if_pos (by rw [hm, Int.natCast_mul]), if_pos ((fitsD_iff lay n m).2 hf)]
  · rw [unpackV_in hl hn, if_pos (told_length hl m), unp_told hl hm hf]
theorem turned_told {n : Nat} (hn : 1 ≤ n ∧ n ≤ 12) (l : List Int) (hl : l.length ≤ 100) : Ev (fun k => entrepotlaw07_LayoutTurned.j0 k l (n : Int) false) true := by
  refine Ev.step (fun _ => entrepotlaw07_LayoutTurned.j0.eq_2 ..) (Ev.neg (by simp) ?_)
  have hn4 : 1 ≤ n ∧ n ≤ 400 := ⟨hn.1, by omega⟩
  refine Ev.bind (unpack_ev _ _ _) (Ev.bind (unpack_ev _ _ _) (Ev.bind (unpack_ev _ _ _) (Ev.bind (unpack_ev _ _ _) ?_)))
  have c4 : cnt 4 n = tri (n + 1) := rfl
  have u2 : unpackV 2 (n : Int) l = if l.length = tri n then (unp 2 n l, 0) else ([], 70) := unpackV_in (lay := 2) (by decide) hn4 l
  have u7 : unpackV 7 (n : Int) l = if l.length = tri n then (unp 2 n l, 0) else ([], 70) := unpackV_in (lay := 7) (by decide) hn4 l
  have u3 : unpackV 3 (n : Int) l = if l.length = tri n then (unp 3 n l, 0) else ([], 70) := unpackV_in (lay := 3) (by decide) hn4 l
  have u6 : unpackV 6 (n : Int) l = if l.length = tri n then (unp 3 n l, 0) else ([], 70) := unpackV_in (lay := 6) (by decide) hn4 l
  rw [u2, u7, u3, u6]
  clear u2 u7 u3 u6
  have ht := (tri_cast n (by omega)).1
  by_cases h : l.length = tri n
  · rw [if_pos h, if_pos h]
    have hA : (unp 2 n l).length = n * n := unpk_length ..
    have hB : (unp 3 n l).length = n * n := unpk_length ..
    have hs := sq_le hn4.2
    have iA : (unp 2 n l).length ≤ 4611686018427387904 := by omega
    have iB : (unp 3 n l).length ≤ 4611686018427387904 := by omega
    refine Ev.pos rfl (Ev.pos rfl (Ev.pos rfl (Ev.bind (ints_ev _ _ iA) (Ev.pos (by simp) (Ev.bind (ints_ev _ _ iB) (Ev.pos (by simp) ?_))))))
    rw [ht]
    have hb : (((0 : Int) == 0) != ((l.length : Int) == (tri n : Int))) = false := by simp; omega
    simp only
    rw [hb]
    refine Ev.step (fun _ => entrepotlaw07_LayoutTurned.j1.eq_2 ..) (Ev.neg (by simp) (Ev.pos rfl ?_))
    have fA := unp_fits (lay := 2) (n := n) l
    have f4 : FitsB 4 n (unp 2 n l) := by
      intro i j hi hj
      refine ⟨fun _ => (fA i j hi hj).1 (by decide), fun h0 => ?_⟩
      have := (tl_dia (lay := 4) (by decide) hi).1 h0
      simp [tl] at this
    have f3 : FitsB 3 n (unp 2 n l) := by
      intro i j hi hj
      refine ⟨fun _ => (fA i j hi hj).1 (by decide), fun h0 => (fA i i hi hi).2 ?_⟩
      exact (tl_dia (lay := 2) (by decide) hi).2 (by simp [tl])
    have f6 : FitsB 6 n (unp 2 n l) := fun i j hi hj => ⟨fun _ => (f3 i j hi hj).1 (by decide), (f3 i j hi hj).2⟩
    have q4 := again (lay := 4) (by decide) hn4 hA f4
    have p4 : packV 4 (n : Int) (unp 2 n l) = (told 4 n (unp 2 n l), 0) := q4.1
    have u4 : unpackV 4 (n : Int) (told 4 n (unp 2 n l)) = (unp 2 n l, 0) := q4.2
    have p3 : packV 3 (n : Int) (unp 2 n l) = (told 3 n (unp 2 n l), 0) := (again (lay := 3) (by decide) hn4 hA f3).1
    have u6 : unpackV 6 (n : Int) (told 6 n (unp 2 n l)) = (unp 2 n l, 0) := (again (lay := 6) (by decide) hn4 hA f6).2
    have e36 : told 3 n (unp 2 n l) = told 6 n (unp 2 n l) := by
      have : unp 6 n (told 3 n (unp 2 n l)) = unp 2 n l := by rw [← unp_36]; exact unp_told (by decide) hA f3
      have t := told_unp (lay := 6) (n := n) (by decide) (l := told 3 n (unp 2 n l)) (told_length (lay := 3) (by decide) _)
      rw [this] at t
      exact t.symm
    refine Ev.bs (pack_eq _ _ _) (Ev.bs (pack_eq _ _ _) (Ev.bind (unpack_ev _ _ _) (Ev.bind (unpack_ev _ _ _) ?_)))
    rw [p4, p3, u4, e36, u6]
    have hw : ((told 4 n (unp 2 n l)).length : Int) = wrap64 ((l.length : Int) + (n : Int)) := by
      rw [told_length (by decide), wn (by omega), h, show cnt 4 n = tri (n + 1) from rfl, tri_succ]
    refine Ev.pos rfl (Ev.pos rfl (Ev.pos rfl (Ev.pos rfl (Ev.pos hw ?_))))
    exact Ev.bind (ints_ev _ _ iA) (Ev.pos (by simp) (Ev.bind (ints_ev _ _ iA) (Ev.this (by simp))))
  · rw [if_neg h, if_neg h]
    refine Ev.pos rfl (Ev.pos rfl (Ev.pos rfl (Ev.bind (ints_ev _ _ (by simp)) (Ev.pos (by simp) (Ev.bind (ints_ev _ _ (by simp)) (Ev.pos (by simp) ?_))))))
    rw [ht]
    have hb : (((70 : Int) == 0) != ((l.length : Int) == (tri n : Int))) = false := by simp; omega
    simp only
    rw [hb]
    exact Ev.step (fun _ => entrepotlaw07_LayoutTurned.j1.eq_2 ..) (Ev.neg (by simp) (Ev.neg (by decide) (Ev.this rfl)))
theorem LayoutTurned (a0 : Int) (l1 : List Int) (w0 : (Lit.int .u8 a0).wf = true) (_ : Open.WfRow (Open.WfInt .i64) l1) : ∃ k, entrepotlaw07_LayoutTurned.f k a0 l1 = some true := by
  refine Ev.rounds ?_
  unfold entrepotlaw07_LayoutTurned.f
  have b1 : 0 ≤ a0 ∧ a0 ≤ 255 := by simp only [Lit.wf, Bool.and_eq_true, decide_eq_true_eq] at w0; exact w0
  have e0 : wrap64 a0 = a0 := wid (by omega) (by omega)
  have c1 : 0 ≤ a0.tmod 12 ∧ a0.tmod 12 < 12 := ⟨Int.tmod_nonneg _ b1.1, Int.tmod_lt_of_pos _ (by omega)⟩
  rw [e0]
  generalize a0.tmod 12 = s at *
  obtain ⟨n, hn⟩ : ∃ n : Nat, 1 + s = (n : Int) := ⟨(1 + s).toNat, by omega⟩
  have e1 : wrap64 (1 + s) = (n : Int) := by rw [hn]; exact wid (by omega) (by omega)
  rw [e1]
  by_cases hl : (l1.length : Int) > 100
  · exact Ev.pos hl (Ev.step (fun _ => entrepotlaw07_LayoutTurned.j0.eq_2 ..) (Ev.pos rfl (Ev.bind shown_ev (Ev.now _))))
  · exact Ev.neg hl (Ev.bind shown_ev (turned_told (n := n) (by omega) l1 (by omega)))
end Go.Proofs.YtdgdhmglcpkkiaaDoor.Pure
