/- For all arguments the law LayoutTells returns true and leaves its arguments as they were; no condition -/
import Derived.Test.YtdgdhmglcpkkiaaDoorRows
import Derived.Test.YtdgdhmglcpkkiaaDoorPureLayoutTells
import Derived.WalkKit
import Derived.ProofKit
import Derived.OpenShut
import Derived.ChangeOld
import Derived.Below
import Derived.Test.YtdgdhmglcpkkiaaDoorGLaid
import Derived.Test.YtdgdhmglcpkkiaaDoorTie
import Derived.Test.YtdgdhmglcpkkiaaDoorCards
import Derived.SevenTiedAt
namespace Go.Proofs.YtdgdhmglcpkkiaaDoor.layoutTells
open Go.ChangeShapes Go.WideShapes Go.ChangeAt Go.RowKit Go.Proofs.YtdgdhmglcpkkiaaDoorW.PrintWords
open Go.ChangeMaps (open_string shut_string)
theorem own : ownKnob Tryd.prog.godebug = none := by kernel_rfl
theorem laidOut : laidOutB Tryd.prog = true := by kernel_rfl
set_option maxRecDepth 100000 in
theorem lifted (os : Os) (started : os.Started) (H : Type) (enc : TypeId × Value → H) :
    ReturnsInHanded {} Tryd.checked os 8 .any (fun w args => (Rows.layoutTellsSpec.pre enc Tryd.prog Tryd.f8 Rows.layoutTellsRow.domain false w args ∧ laidMetH Tryd.prog laidList w) ∧ sizedMet enc Tryd.prog Tryd.f8 (OpenSpec.ofChange Rows.layoutTellsSpec) false w args) (Rows.layoutTellsSpec.post enc Tryd.prog Tryd.f8 false true false false) := by
  refine returnsInHanded_of_change_and (C := Tryd.checked) (X := (fun (w : World) (_ : Array Value) => laidMetH Tryd.prog laidList w)) (fun _ _ _ hh h => laidMetH_of_heap hh h) own started (by kernel_rfl) Tryd.func8
    (ChangeSpec.witness_shaped (enc := enc) (C := Tryd.checked) (X := (fun (w : World) (_ : Array Value) => laidMetH Tryd.prog laidList w)) false (laidWorld os) #[.int .i64 0, .int .i64 0, .int .i64 0, .int .i64 0, .string ByteArray.empty] 8 rfl (World.shaped_of_RefB (by kernel_rfl) (by kernel_rfl)) (by kernel_rfl) (by kernel_rfl) (by kernel_rfl) (laid_metH os _)) ?_
  intro W base args ds gs before hval0 hW hcnd _ hL _
  have hval : ∀ (j : Nat) t v, Tryd.f8.params[j]? = some t → args[j]? = some v → Value.okWide Tryd.prog W .any base t v := hval0
  have hW' := hW
  obtain ⟨p, q, hA0, hV, rfl, hfz, hnd⟩ := hW
  have hA : DataW.TrodAll enc Tryd.prog W 0 (fun _ => true) true Tryd.f8.params.toList args.toList ds p := hA0
  rw [Tryd.params8] at hA hval
  obtain ⟨v0, vs0, d0, ds0, p0, q0, hargs, rfl, rfl, h0, r0⟩ := trodAll_cons hA
  obtain ⟨v1, vs1, d1, ds1, p1, q1, rfl, rfl, rfl, h1, r1⟩ := trodAll_cons r0
  obtain ⟨v2, vs2, d2, ds2, p2, q2, rfl, rfl, rfl, h2, r2⟩ := trodAll_cons r1
  obtain ⟨v3, vs3, d3, ds3, p3, q3, rfl, rfl, rfl, h3, r3⟩ := trodAll_cons r2
  obtain ⟨v4, vs4, d4, ds4, p4, q4, rfl, rfl, rfl, h4, r4⟩ := trodAll_cons r3
  obtain ⟨rfl, rfl, rfl⟩ := trodAll_nil r4
  obtain rfl : args = #[v0, v1, v2, v3, v4] := by cases args; simp_all
  obtain ⟨rfl, rfl⟩ := trodVars_none hV
  obtain ⟨a0, rfl, rfl, rfl, w0⟩ := open_int Tryd.underlying3 (hval 0 3 v0 rfl rfl) h0
  obtain ⟨a1, rfl, rfl, rfl, w1⟩ := open_int Tryd.underlying3 (hval 1 3 v1 rfl rfl) h1
  obtain ⟨a2, rfl, rfl, rfl, w2⟩ := open_int Tryd.underlying3 (hval 2 3 v2 rfl rfl) h2
  obtain ⟨a3, rfl, rfl, rfl, w3⟩ := open_int Tryd.underlying3 (hval 3 3 v3 rfl rfl) h3
  obtain ⟨b4, rfl, rfl, rfl, w4⟩ := open_string Tryd.underlying9 (hval 4 9 v4 rfl rfl) h4
  clear hA0 hval0
  obtain ⟨k, hk⟩ := Pure.LayoutTells a0 a1 a2 a3 b4 w0 w1 w2 w3 w4
  refine (P.entrepotlaw07_LayoutTells.callsT k a0 a1 a2 a3 b4 true W (tab_of_laid hL) hk ⟨rfl⟩).mono ?_
  rintro e W' ⟨rfl, bel0⟩
  have bel : Below W.heap.size W W' := bel0
  exact ⟨_, rfl, _, _, _, [], _, [], hW', trodAll_mk1 (shut_bool Tryd.underlying4 _), (trodAll_cons_mk (shut_int Tryd.underlying3 w0) (trodAll_cons_mk (shut_int Tryd.underlying3 w1) (trodAll_cons_mk (shut_int Tryd.underlying3 w2) (trodAll_cons_mk (shut_int Tryd.underlying3 w3) (trodAll_cons_mk (shut_string Tryd.underlying9 w4) trodAll_mk0))))), rfl, bel.frame _, fun h => by cases h⟩
theorem over : Rows.layoutTellsRow.holds Tryd.pinned (OpenSpec.ofChange Rows.layoutTellsSpec) :=
  OpenClaim.holds_of_wide 8 Tryd.f8 rfl rfl rfl rfl rfl rfl rfl ⟨rfl, rfl, rfl, rfl, rfl⟩ rfl rfl rfl rfl rfl (by kernel_rfl) Tryd.func8 (by kernel_rfl)
    (of_decide_eq_true (by kernel_rfl)) (by unfold Func.isWrapper; first | (rw [if_pos (by decide +kernel)]; kernel_rfl) | (rw [if_neg (by decide +kernel)]; exact ⟨rfl, rfl⟩))
    (fun os started H enc _ => lifted os started H enc)
theorem card : Rows.LayoutTellsCardSaid :=
  Claim7.holds_tied_plain_at .later [] [.listed, .data] true (true, "c633817730339a54b13736df6396b1afe9853af729893853c135cac259ff6350") false over (fun _ h => by cases h) (by kernel_rfl) (fun _ h => by cases h) layoutTells_row_tie rfl ⟨rfl, rfl⟩ (by kernel_rfl) rfl
    (fun f fn hf hfn => by
      obtain rfl : f = 8 := Option.some.inj ((show Tryd.prog.funcNamed "entrepot/entrepotlaw07.LayoutTells" = some 8 by kernel_rfl).symm.trans hf) |>.symm
      obtain rfl : fn = Tryd.f8 := (Option.some.inj (Tryd.func8.symm.trans hfn)).symm
      refine ⟨by kernel_rfl, fun j t ht => ?_⟩
      rw [Tryd.params8] at ht
      have hm : t ∈ ([3, 3, 3, 3, 9] : List Nat) := by simpa using Array.mem_of_getElem? ht
      have ha : ([3, 3, 3, 3, 9] : List Nat).all (fun t => !(Tryd.prog.wantsStandIn t)) = true := by kernel_rfl
      have hw : Tryd.prog.wantsStandIn t = false := by simpa using List.all_eq_true.1 ha t hm
      exact hw)
    (by kernel_rfl)
theorem proved : Rows.LayoutTellsCardSaid := card
#print axioms proved
end Go.Proofs.YtdgdhmglcpkkiaaDoor.layoutTells
namespace Go.Proofs.YtdgdhmglcpkkiaaDoor
/-- The row, under a short name, for the claim. -/
theorem layoutTells_holds : Rows.LayoutTellsCardSaid := layoutTells.proved
end Go.Proofs.YtdgdhmglcpkkiaaDoor
