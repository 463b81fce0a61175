/- Texts of this session in one: What feas.Check tells, in plain words: which wrongs there are, and how they stand. Plain lemmas on lists.; Two instances that are alike for what feas.Check asks: the same wrongs, or no more. Plain lemmas. -/
import Derived.Test.YtlncbckpcmojpaaMkg
import Derived.Test.YtlncbckpcmojpaaMki
set_option linter.unusedVariables false
namespace Go.Proofs.Ytlncbckpcmojpaa
open Go.RowKit Go.Proofs.YtlncbckpcmojpaaW.PrintWords Go.Proofs.YtlncbckpcmojpaaW.PrintLast
namespace FeasP
open P FeasWalk StopsWalk AllWalk
/-- What each one of them tells. -/
def Told (rs : List (List Int)) (w : Wrong) : Prop :=
  (w.f0 = 1 ∧ ∃ i : Nat, ∃ hi : i < rs.length, w.f1 = (i : Int) ∧ w.f2 ∈ rs[i]) ∨ (w.f0 = 2 ∧ w.f1 = 0 ∧ 1 < rs.flatten.count w.f2) ∨ (w.f0 = 3 ∧ w.f1 = 0 ∧ rs.flatten.count w.f2 = 0) ∨ (w.f0 = 4 ∧ w.f1 = 0) ∨
    (5 ≤ w.f0 ∧ w.f0 ≤ 8 ∧ ∃ i : Nat, ∃ hi : i < rs.length, w.f1 = (i : Int) ∧ (w.f2 ∈ rs[i] ∨ w.f0 = 6 ∧ w.f2 = 0))
theorem ok_good {kd mt sc cp fl : Int} {ns : List FeasWalk.Node} {mx : List Int} (g : Well11.Good kd mt sc cp fl ns mx) : okF mt ns.length mx.length = true :=
  decide_eq_true ⟨g.cnt.2, by have := g.cnt.1; omega, fun e => by rw [g.mxl.1 e]; exact Nat.le_refl _⟩
end FeasP
end Go.Proofs.Ytlncbckpcmojpaa
set_option linter.unusedVariables false
namespace Go.Proofs.Ytlncbckpcmojpaa
open Go.RowKit Go.Proofs.YtlncbckpcmojpaaW.PrintWords Go.Proofs.YtlncbckpcmojpaaW.PrintLast
namespace FeasP
open P FeasWalk StopsWalk AllWalk
open Well11 (rdN)
/-- Alike but for capacity, fleet and the ends of windows. -/
structure Like (x y : Look) : Prop where
  kd : x.kd = y.kd
  u : unitOf x.mt = unitOf y.mt
  n : x.ns.length = y.ns.length
  some : 0 < x.ns.length
  leg : ∀ i j, i < x.ns.length → j < x.ns.length → legP x i j = legP y i j
  nod : ∀ i : Nat, i < x.ns.length → (rdN x.ns (i : Int)).f2 = (rdN y.ns (i : Int)).f2 ∧ (rdN x.ns (i : Int)).f3 = (rdN y.ns (i : Int)).f3 ∧ (rdN x.ns (i : Int)).f5 = (rdN y.ns (i : Int)).f5 ∧ (rdN x.ns (i : Int)).f6 = (rdN y.ns (i : Int)).f6
section
variable {x y : Look} (h : Like x y)
include h
end
end FeasP
end Go.Proofs.Ytlncbckpcmojpaa
