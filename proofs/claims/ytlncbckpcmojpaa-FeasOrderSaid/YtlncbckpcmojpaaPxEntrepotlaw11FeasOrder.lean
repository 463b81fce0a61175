/- FeasOrder: the contract of the law, as a row asks it: for any instance and plan, and any number of a byte, it answers true. Walked by hand (GFeasT), in place of what the print writes. -/
import Derived.Test.YtlncbckpcmojpaaGFeasT
set_option linter.unusedVariables false
namespace Go.Proofs.Ytlncbckpcmojpaa.P
open Go.RowKit Go.Proofs.YtlncbckpcmojpaaW.PrintWords Go.Proofs.YtlncbckpcmojpaaW.PrintLast Go.Proofs.YtlncbckpcmojpaaW.PrintMore
def entrepotlaw11_FeasOrder.f (k : Nat) (nm : ByteArray) (kd mt sc cp fl : Int) (ns : List FeasWalk.Node) (mx : List Int) (rs : List (List Int)) (b8 : Int) : Option Bool := if 0 ≤ b8 ∧ b8 ≤ 255 then some true else none
theorem entrepotlaw11_FeasOrder.calls (k : Nat) (nm : ByteArray) (kd mt sc cp fl : Int) (A : Option Addr) (c : Nat) (ns : List FeasWalk.Node) (B : Option Addr) (e : Nat) (mx : List Int) (R : Option Addr) (d : Nat) (rs : List (List Int)) (b8 : Int) (r : Bool) (w : World)
    (h1 : Kd.C k32 w A ns.length ns) (h2 : ns.length ≤ c) (h3 : Kd.C (Kd.int .i64) w B mx.length mx) (h4 : mx.length ≤ e) (h5 : Kd.C (Kd.slice 3 (Kd.int .i64)) w R rs.length rs) (h6 : rs.length ≤ d) (h : entrepotlaw11_FeasOrder.f k nm kd mt sc cp fl ns mx rs b8 = some r) :
    Calls Try.prog 8 #[.agg #[.string nm, .int .i64 kd, .int .i64 mt, .int .i64 sc, .int .i64 cp, .int .i64 fl, .slice A ns.length c, .slice B mx.length e], .agg #[.slice R rs.length d], .int .u8 b8] w fun e w' => e = .returned (.bool r) ∧ Below w.heap.size w w' := by
  unfold entrepotlaw11_FeasOrder.f at h
  split at h
  · rename_i hb
    have h := Option.some.inj h
    subst h
    exact FeasO.order_c ⟨nm, kd, mt, sc, cp, fl, A, c, ns, B, e, mx⟩ R d rs b8 w ⟨h1, h3⟩ h2 h4 h5 h6 hb
  · cases h
end Go.Proofs.Ytlncbckpcmojpaa.P
