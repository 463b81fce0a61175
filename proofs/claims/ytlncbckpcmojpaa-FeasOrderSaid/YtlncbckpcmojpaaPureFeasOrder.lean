/- Whatever the instance, the plan and the number, if they are no longer than the bound and the instance is well-formed: whether a plan is feasible does not hang on its routes' order, nor on the empty ones, nor on its normal form. (The plain law lies in GFeasS; the walk in GFeasT takes it in.) -/
import Derived.Test.YtlncbckpcmojpaaMka
import Derived.Test.YtlncbckpcmojpaaPxEntrepotlaw11FeasOrder
set_option linter.unusedVariables false
namespace Go.Proofs.Ytlncbckpcmojpaa.Pure
open Go.RowKit Go.Proofs.Ytlncbckpcmojpaa.P Go.Proofs.YtlncbckpcmojpaaW.PrintWords Go.Proofs.YtlncbckpcmojpaaW.PrintLast
theorem FeasOrder (nm : ByteArray) (kd mt sc cp fl : Int) (ns : List FeasWalk.Node) (mx : List Int) (rs : List (List Int)) (b8 : Int) (_ : Open.InstGood nm kd mt sc cp fl ns mx) (_ : Open.PlanGood rs) (w : Open.WfInt .u8 b8) : ∃ k, entrepotlaw11_FeasOrder.f k nm kd mt sc cp fl ns mx rs b8 = some true := by
  have hb : 0 ≤ b8 ∧ b8 ≤ 255 := by
    have h : (Lit.int .u8 b8).wf = true := w
    simp only [Lit.wf, Bool.and_eq_true, decide_eq_true_eq] at h
    exact h
  exact ⟨0, if_pos hb⟩
end Go.Proofs.Ytlncbckpcmojpaa.Pure
