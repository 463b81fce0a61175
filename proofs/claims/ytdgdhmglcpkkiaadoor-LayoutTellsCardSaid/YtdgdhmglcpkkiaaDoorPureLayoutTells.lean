/- How many numbers any layout tells, at which place any of them stands, and its keyword, are the document's. -/
import Derived.Test.YtdgdhmglcpkkiaaDoorGLayS
import Derived.Test.YtdgdhmglcpkkiaaDoorPxEntrepotlaw07LayoutTells
set_option linter.unusedVariables false
namespace Go.Proofs.YtdgdhmglcpkkiaaDoor.Pure
open Go.RowKit Go.Proofs.YtdgdhmglcpkkiaaDoor.P Go.Proofs.YtdgdhmglcpkkiaaDoorW.PrintWords Go.Proofs.YtdgdhmglcpkkiaaDoorW.PrintLast LayWalk
theorem tells_told (a0 a1 a2 a3 : Int) (b : ByteArray) : Ev (fun k => entrepotlaw07_LayoutTells.j0 k a0 a1 a2 a3 b false) true := by
  refine Ev.step (fun _ => entrepotlaw07_LayoutTells.j0.eq_2 ..) (Ev.neg (by simp) ?_)
  have hc : ∃ c, layout_Count.f a0 a1 = some c ∧ entrepotref07_Count.f a0 a1 = some c := by
    by_cases hm : mayB a0 a1 = true
    · obtain ⟨lay, n, rfl, rfl, hl, hn⟩ := may_nat hm
      exact ⟨_, count_eq hl hn, refcount_eq hl hn⟩
    · rw [Bool.not_eq_true] at hm
      exact ⟨_, count_no hm, refcount_no hm⟩
  have hx : ∃ c, Ev (fun k => layout_Index.f k a0 a1 a2 a3) c ∧ Ev (fun k => entrepotref07_Index.f k a0 a1 a2 a3) c := by
    by_cases h : mayB a0 a1 = true ∧ 0 ≤ a2 ∧ a2 < a1 ∧ 0 ≤ a3 ∧ a3 < a1
    · obtain ⟨hm, h1, h2, h3, h4⟩ := h
      obtain ⟨lay, n, rfl, rfl, hl, hn⟩ := may_nat hm
      obtain ⟨i, rfl⟩ : ∃ i : Nat, a2 = (i : Int) := ⟨a2.toNat, by omega⟩
      obtain ⟨j, rfl⟩ : ∃ j : Nat, a3 = (j : Int) := ⟨a3.toNat, by omega⟩
      exact ⟨_, index_ev hl hn (by omega) (by omega), refindex_ev hl hn (by omega) (by omega)⟩
    · exact ⟨_, ⟨1, fun k hk => by obtain ⟨k, rfl⟩ : ∃ m, k = m + 1 := ⟨k - 1, by omega⟩; exact index_no h k⟩, refindex_no h⟩
  obtain ⟨c, c1, c2⟩ := hc
  obtain ⟨x, x1, x2⟩ := hx
  obtain ⟨r, r1, r2⟩ := of_ev b
  refine Ev.bs c1 (Ev.bs c2 (Ev.pos rfl (Ev.bind x1 (Ev.bind x2 (Ev.pos rfl ?_)))))
  refine Ev.bs (x := KeyWalk.keyTxt a0) rfl (Ev.bs (x := KeyWalk.keyTxt a0) (keyword_eq a0).symm (Ev.pos rfl ?_))
  exact Ev.bind r1 (Ev.bind r2 (Ev.this (by simp)))
theorem LayoutTells (a0 a1 a2 a3 : Int) (b4 : ByteArray) (_ : (Lit.int .i64 a0).wf = true) (_ : (Lit.int .i64 a1).wf = true) (_ : (Lit.int .i64 a2).wf = true) (_ : (Lit.int .i64 a3).wf = true) (_ : b4.size ≤ maxLen) : ∃ k, entrepotlaw07_LayoutTells.f k a0 a1 a2 a3 b4 = some true := by
  refine Ev.rounds ?_
  unfold entrepotlaw07_LayoutTells.f
  exact guard_ev (J := fun k u => entrepotlaw07_LayoutTells.j0 k a0 a1 a2 a3 b4 u) _ _ (Ev.step (fun _ => entrepotlaw07_LayoutTells.j0.eq_2 ..) (Ev.pos rfl (Ev.bind shown_ev (Ev.now _)))) (tells_told a0 a1 a2 a3 b4)
end Go.Proofs.YtdgdhmglcpkkiaaDoor.Pure
