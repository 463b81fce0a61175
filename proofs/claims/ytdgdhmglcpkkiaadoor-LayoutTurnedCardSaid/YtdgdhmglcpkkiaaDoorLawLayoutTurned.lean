/- For all arguments the law LayoutTurned returns true and leaves its arguments as they were; no condition -/
import Derived.Test.YtdgdhmglcpkkiaaDoorRows
import Derived.Test.YtdgdhmglcpkkiaaDoorPureLayoutTurned
import Derived.Test.YtdgdhmglcpkkiaaDoorGOpenRow
import Derived.WalkKit
import Derived.ProofKit
import Derived.OpenShut
import Derived.ChangeOld
import Derived.Below
import Derived.Test.YtdgdhmglcpkkiaaDoorGLaid
import Derived.Test.YtdgdhmglcpkkiaaDoorTie
import Derived.Test.YtdgdhmglcpkkiaaDoorCards
import Derived.SevenTiedAt
namespace Go.Proofs.YtdgdhmglcpkkiaaDoor.layoutTurned
open Go.ChangeShapes Go.WideShapes Go.ChangeAt Go.RowKit Go.Proofs.YtdgdhmglcpkkiaaDoorW.PrintWords
theorem own : ownKnob Tryd.prog.godebug = none := by kernel_rfl
theorem laidOut : laidOutB Tryd.prog = true := by kernel_rfl
set_option maxRecDepth 100000 in
theorem lifted (os : Os) (started : os.Started) (H : Type) (enc : TypeId × Value → H) :
    ReturnsInHanded {} Tryd.checked os 7 .any (fun w args => (Rows.layoutTurnedSpec.pre enc Tryd.prog Tryd.f7 Rows.layoutTurnedRow.domain false w args ∧ laidMetH Tryd.prog laidList w) ∧ sizedMet enc Tryd.prog Tryd.f7 (OpenSpec.ofChange Rows.layoutTurnedSpec) false w args) (Rows.layoutTurnedSpec.post enc Tryd.prog Tryd.f7 false true false false) := by
  refine returnsInHanded_of_change_and (C := Tryd.checked) (X := (fun (w : World) (_ : Array Value) => laidMetH Tryd.prog laidList w)) (fun _ _ _ hh h => laidMetH_of_heap hh h) own started (by kernel_rfl) Tryd.func7
    (ChangeSpec.witness_shaped (enc := enc) (C := Tryd.checked) (X := (fun (w : World) (_ : Array Value) => laidMetH Tryd.prog laidList w)) false (laidWorld os) #[.int .u8 0, .slice none 0 0] 8 rfl (World.shaped_of_RefB (by kernel_rfl) (by kernel_rfl)) (by kernel_rfl) (by kernel_rfl) (by kernel_rfl) (laid_metH os _)) ?_
  intro W base args ds gs before hval0 hW hcnd _ hL _
  have hval : ∀ (j : Nat) t v, Tryd.f7.params[j]? = some t → args[j]? = some v → Value.okWide Tryd.prog W .any base t v := hval0
  have hW' := hW
  obtain ⟨p, q, hA0, hV, rfl, hfz, hnd⟩ := hW
  have hA : DataW.TrodAll enc Tryd.prog W 0 (fun _ => true) true Tryd.f7.params.toList args.toList ds p := hA0
  rw [Tryd.params7] at hA hval
  obtain ⟨v0, vs0, d0, ds0, p0, q0, hargs, rfl, rfl, h0, r0⟩ := trodAll_cons hA
  obtain ⟨v1, vs1, d1, ds1, p1, q1, rfl, rfl, rfl, h1, r1⟩ := trodAll_cons r0
  obtain ⟨rfl, rfl, rfl⟩ := trodAll_nil r1
  obtain rfl : args = #[v0, v1] := by cases args; simp_all
  obtain ⟨rfl, rfl⟩ := trodVars_none hV
  obtain ⟨a0, rfl, rfl, rfl, w0⟩ := open_int Tryd.underlying5 (hval 0 5 v0 rfl rfl) h0
  have k1 := h1
  have lt1 : ∀ x ∈ p1, x.block < W.heap.size := by obtain ⟨m, hm⟩ := k1; exact DataW.trod_lt m _ _ _ hm
  obtain ⟨l1, A1, c1, rfl, x1, y1, g1⟩ := Open.open_row (hval 1 22 v1 rfl rfl) h1
  clear hA0 hval0
  obtain ⟨k, hk⟩ := Pure.LayoutTurned a0 l1 w0 g1
  refine (P.entrepotlaw07_LayoutTurned.callsT k a0 A1 c1 l1 true W x1 y1 (tab_of_laid hL) hk ⟨rfl⟩).mono ?_
  rintro e W' ⟨rfl, bel0⟩
  have bel : Below W.heap.size W W' := bel0
  exact ⟨_, rfl, _, _, _, [], _, [], hW', trodAll_mk1 (shut_bool Tryd.underlying4 _), (trodAll_cons_mk (shut_int Tryd.underlying5 w0) (trodAll_cons_mk (Below.trod laidOut (by kernel_rfl) (of_decide_eq_true (by kernel_rfl)) k1 bel lt1) trodAll_mk0)), rfl, bel.frame _, fun h => by cases h⟩
theorem over : Rows.layoutTurnedRow.holds Tryd.pinned (OpenSpec.ofChange Rows.layoutTurnedSpec) :=
  OpenClaim.holds_of_wide 7 Tryd.f7 rfl rfl rfl rfl rfl rfl rfl ⟨rfl, rfl, rfl, rfl, rfl⟩ rfl rfl rfl rfl rfl (by kernel_rfl) Tryd.func7 (by kernel_rfl)
    (of_decide_eq_true (by kernel_rfl)) (by unfold Func.isWrapper; first | (rw [if_pos (by decide +kernel)]; kernel_rfl) | (rw [if_neg (by decide +kernel)]; exact ⟨rfl, rfl⟩))
    (fun os started H enc _ => lifted os started H enc)
theorem card : Rows.LayoutTurnedCardSaid :=
  Claim7.holds_tied_plain_at .later [] [.listed, .data] true (true, "c633817730339a54b13736df6396b1afe9853af729893853c135cac259ff6350") false over (fun _ h => by cases h) (by kernel_rfl) (fun _ h => by cases h) layoutTurned_row_tie rfl ⟨rfl, rfl⟩ (by kernel_rfl) rfl
    (fun f fn hf hfn => by
      obtain rfl : f = 7 := Option.some.inj ((show Tryd.prog.funcNamed "entrepot/entrepotlaw07.LayoutTurned" = some 7 by kernel_rfl).symm.trans hf) |>.symm
      obtain rfl : fn = Tryd.f7 := (Option.some.inj (Tryd.func7.symm.trans hfn)).symm
      refine ⟨by kernel_rfl, fun j t ht => ?_⟩
      rw [Tryd.params7] at ht
      have hm : t ∈ ([5, 22] : List Nat) := by simpa using Array.mem_of_getElem? ht
      have ha : ([5, 22] : List Nat).all (fun t => !(Tryd.prog.wantsStandIn t)) = true := by kernel_rfl
      have hw : Tryd.prog.wantsStandIn t = false := by simpa using List.all_eq_true.1 ha t hm
      exact hw)
    (by kernel_rfl)
theorem proved : Rows.LayoutTurnedCardSaid := card
#print axioms proved
end Go.Proofs.YtdgdhmglcpkkiaaDoor.layoutTurned
namespace Go.Proofs.YtdgdhmglcpkkiaaDoor
/-- The row, under a short name, for the claim. -/
theorem layoutTurned_holds : Rows.LayoutTurnedCardSaid := layoutTurned.proved
end Go.Proofs.YtdgdhmglcpkkiaaDoor
