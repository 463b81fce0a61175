/- Every place of a layout is that of some row and column; two numbers above the diagonal have two places; mirrored ones have one, unless all are told. -/
import Derived.Test.YtdgdhmglcpkkiaaDoorPxEntrepotlaw07LayoutOnce
set_option linter.unusedVariables false
namespace Go.Proofs.YtdgdhmglcpkkiaaDoor.Pure
open Go.RowKit Go.Proofs.YtdgdhmglcpkkiaaDoor.P Go.Proofs.YtdgdhmglcpkkiaaDoorW.PrintWords Go.Proofs.YtdgdhmglcpkkiaaDoorW.PrintLast
/-- The law, of a layout less one and a number of rows less one. -/
def onceAt (s t : Int) : Option Bool := (layout_Count.f (wrap64 (1 + s)) (wrap64 (1 + t))).bind fun t237 => entrepotlaw07_LayoutOnce.l0 400 (wrap64 (1 + s)) (wrap64 (1 + t)) t237 (([] : List Int)) 0
theorem once_all : ∀ s ∈ List.range 7, ∀ t ∈ List.range 8, onceAt (s : Int) (t : Int) = some true := by decide +kernel
theorem LayoutOnce (a0 a1 : Int) (w0 : (Lit.int .u8 a0).wf = true) (w1 : (Lit.int .u8 a1).wf = true) : ∃ k, entrepotlaw07_LayoutOnce.f k a0 a1 = some true := by
  refine ⟨400, ?_⟩
  have b0 : 0 ≤ a0 ∧ a0 ≤ 255 := by simp only [Lit.wf, Bool.and_eq_true, decide_eq_true_eq] at w0; exact w0
  have b1 : 0 ≤ a1 ∧ a1 ≤ 255 := by simp only [Lit.wf, Bool.and_eq_true, decide_eq_true_eq] at w1; exact w1
  have e0 : wrap64 a0 = a0 := by unfold wrap64; omega
  have e1 : wrap64 a1 = a1 := by unfold wrap64; omega
  have c0 : 0 ≤ a0.tmod 7 ∧ a0.tmod 7 < 7 := ⟨Int.tmod_nonneg _ b0.1, Int.tmod_lt_of_pos _ (by omega)⟩
  have c1 : 0 ≤ a1.tmod 8 ∧ a1.tmod 8 < 8 := ⟨Int.tmod_nonneg _ b1.1, Int.tmod_lt_of_pos _ (by omega)⟩
  have h := once_all (a0.tmod 7).toNat (List.mem_range.2 (by omega)) (a1.tmod 8).toNat (List.mem_range.2 (by omega))
  rw [Int.toNat_of_nonneg c0.1, Int.toNat_of_nonneg c1.1] at h
  unfold entrepotlaw07_LayoutOnce.f
  rw [e0, e1]
  exact h
end Go.Proofs.YtdgdhmglcpkkiaaDoor.Pure
