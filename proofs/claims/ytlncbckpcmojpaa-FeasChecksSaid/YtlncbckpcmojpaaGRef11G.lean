/- The contract of the reference's check of a plan, as printed texts call it. -/
import Derived.Test.YtlncbckpcmojpaaMkm
import Derived.Test.YtlncbckpcmojpaaGRef11F
set_option linter.unusedVariables false
namespace Go.Proofs.Ytlncbckpcmojpaa
open Go.RowKit Go.Proofs.YtlncbckpcmojpaaW.PrintWords Go.Proofs.YtlncbckpcmojpaaW.PrintLast Go.Proofs.YtlncbckpcmojpaaW.PrintMore P
namespace Ref11
open StopsWalk PlanA
def fitsF (rs : List (List Int)) : Bool := decide (rs.length ≤ 410) && rs.all (fun r => decide (r.length ≤ 2100)) && decide ((stopsOf rs).length ≤ 2100)
theorem fits_of {rs : List (List Int)} (h : fitsF rs = true) : Fits rs := by
 unfold fitsF at h
 simp only [Bool.and_eq_true, decide_eq_true_eq, List.all_eq_true] at h
 exact ⟨h.1.1, fun i hi => by rw [rdL_at hi]; exact h.1.2 _ (List.getElem_mem hi), h.2⟩
end Ref11
namespace P
open FeasWalk (okF)
def entrepotref11_Check.f (k : Nat) (nm : ByteArray) (kd mt sc cp fl : Int) (ns : List Ref08.Node) (mx : List Int) (rs : List (List Int)) : Option (List Ref11.Wr) := if okF mt ns.length mx.length = true ∧ Ref11.fitsF rs = true then some (Ref11.checkR (Ref11.ik nm kd mt sc cp fl ns mx) rs) else none
theorem entrepotref11_Check.mono : ∀ a0 a1 a2 a3 a4 a5 a6 a7 a8 k, LeO (entrepotref11_Check.f k a0 a1 a2 a3 a4 a5 a6 a7 a8) (entrepotref11_Check.f (k + 1) a0 a1 a2 a3 a4 a5 a6 a7 a8) := fun _ _ _ _ _ _ _ _ _ _ => LeO.refl _
theorem entrepotref11_Check.calls (k : Nat) (nm : ByteArray) (kd mt sc cp fl : Int) (A : Option Addr) (c : Nat) (ns : List Ref08.Node) (B : Option Addr) (e : Nat) (mx : List Int) (R : Option Addr) (d : Nat) (rs : List (List Int)) (r : List Ref11.Wr) (w : World)
  (h1 : Kd.C k77 w A ns.length ns) (h2 : ns.length ≤ c) (h3 : Kd.C (Kd.int .i64) w B mx.length mx) (h4 : mx.length ≤ e) (h5 : Kd.C (Kd.slice 3 (Kd.int .i64)) w R rs.length rs) (h6 : rs.length ≤ d) (h : entrepotref11_Check.f k nm kd mt sc cp fl ns mx rs = some r) :
  Calls Try.prog 19 #[.agg #[.string nm, .int .i64 kd, .int .i64 mt, .int .i64 sc, .int .i64 cp, .int .i64 fl, .slice A ns.length c, .slice B mx.length e], .agg #[.slice R rs.length d]] w fun e w' => ∃ v0_ : Value, e = .returned v0_ ∧ Kd.R k68 68 w' w.heap.size (fun _ => True) v0_ r ∧ Below w.heap.size w w' := by
 unfold entrepotref11_Check.f at h
 split at h
 ·rename_i hs
  have h := Option.some.inj h
  have hok := of_decide_eq_true hs.1
  have e0 : Ref11.checkR ⟨nm, kd, mt, sc, cp, fl, A, c, ns, B, e, mx⟩ rs = r := h
  have hc := Ref11.check_c ⟨nm, kd, mt, sc, cp, fl, A, c, ns, B, e, mx⟩ R d rs w ⟨h1, h2, h3, h4⟩ hok.1 hok.2.1 h5 h6 (Ref11.fits_of hs.2) (fun _ _ hi hj => Ref11.legR_some (x := ⟨nm, kd, mt, sc, cp, fl, A, c, ns, B, e, mx⟩) hs.1 hi hj)
  rw [e0] at hc
  exact hc
 ·cases h
attribute [irreducible] entrepotref11_Check.f
end P
end Go.Proofs.Ytlncbckpcmojpaa
