/- cost.Between: its contract, as printed texts call it. -/
import Derived.Test.YtlncbckpcmojpaaMkg
set_option linter.unusedVariables false
namespace Go.Proofs.Ytlncbckpcmojpaa
open Go.RowKit Go.Proofs.YtlncbckpcmojpaaW.PrintWords Go.Proofs.YtlncbckpcmojpaaW.PrintLast Go.Proofs.YtlncbckpcmojpaaW.PrintMore
open FeasWalk
namespace P
/-- What cost.Between computes, of nodes that there are. -/
def cost_Between.f (k : Nat) (nm : ByteArray) (kd mt sc cp fl : Int) (ns : List FeasWalk.Node) (mx : List Int) (i j : Int) : Option (Int × Int) :=
  if ns.length ≤ 65536 ∧ 0 ≤ i ∧ i < (ns.length : Int) ∧ 0 ≤ j ∧ j < (ns.length : Int) then legOf (lk nm kd mt sc cp fl ns mx) i.toNat j.toNat else none
theorem cost_Between.mono : ∀ a0 a1 a2 a3 a4 a5 a6 a7 a8 a9 k, LeO (cost_Between.f k a0 a1 a2 a3 a4 a5 a6 a7 a8 a9) (cost_Between.f (k + 1) a0 a1 a2 a3 a4 a5 a6 a7 a8 a9) := fun _ _ _ _ _ _ _ _ _ _ _ => LeO.refl _
theorem cost_Between.calls (k : Nat) (nm : ByteArray) (kd mt sc cp fl : Int) (A : Option Addr) (c : Nat) (ns : List FeasWalk.Node) (B : Option Addr) (e : Nat) (mx : List Int) (i j r1 r2 : Int) (w : World)
    (h1 : Kd.C k32 w A ns.length ns) (_ : ns.length ≤ c) (h2 : Kd.C (Kd.int .i64) w B mx.length mx) (_ : mx.length ≤ e) (h : cost_Between.f k nm kd mt sc cp fl ns mx i j = some (r1, r2)) :
    Calls Try.prog 47 #[.agg #[.string nm, .int .i64 kd, .int .i64 mt, .int .i64 sc, .int .i64 cp, .int .i64 fl, .slice A ns.length c, .slice B mx.length e], .int .i64 i, .int .i64 j] w fun e w' => e = .returned (.tuple #[.int .i64 r1, .int .i64 r2]) ∧ Below w.heap.size w w' := by
  unfold cost_Between.f at h
  split at h
  · rename_i hs
    obtain ⟨a, rfl⟩ : ∃ a : Nat, i = (a : Int) := ⟨i.toNat, by omega⟩
    obtain ⟨b, rfl⟩ : ∃ b : Nat, j = (b : Int) := ⟨j.toNat, by omega⟩
    rw [Int.toNat_natCast, Int.toNat_natCast] at h
    exact between_c ⟨nm, kd, mt, sc, cp, fl, A, c, ns, B, e, mx⟩ a b w ⟨h1, h2⟩ hs.1 (show a < ns.length by omega) (show b < ns.length by omega) r1 r2 h
  · cases h
attribute [irreducible] cost_Between.f
end P
end Go.Proofs.Ytlncbckpcmojpaa
