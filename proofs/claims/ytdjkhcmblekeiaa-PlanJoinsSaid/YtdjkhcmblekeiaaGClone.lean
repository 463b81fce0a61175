/- slices.Clone of ints: a row of the same numbers, of its own. -/
import Derived.Lib.BufferMore
import Derived.Test.YtdjkhcmblekeiaaPx0
namespace Go.Proofs.Ytdjkhcmblekeiaa
open Go.RowKit Go.Proofs.YtdjkhcmblekeiaaW.PrintWords
set_option maxHeartbeats 4000000 in
set_option maxRecDepth 100000 in
theorem clone_some (ad : Addr) (c0 : Nat) (l0 : List Int) (w : World) (hr0 : Kd.C (Kd.int .i64) w (some ad) l0.length l0) (hl : l0.length ≤ 65536) :
    Calls Try.prog 25 #[.slice (some ad) l0.length c0] w fun e w' => ∃ v0_ : Value, e = .returned (v0_) ∧ Kd.R (Kd.int .i64) 3 w' w.heap.size (fun _ => True) v0_ l0 ∧ Below w.heap.size w w' := by
  have q0 := Lib.run_eql_slice_some_nil (P := Try.prog) w ad l0.length c0 Try.underlying33
  go_enter Try.func25, Try.ntmps25
  go_wp2_with (first | (refine Kd.R_lit (Kd.int .i64) w.heap.size 3 ?hg (N := 5) ?hd (xs := ([] : List Int)) (inner := []) (ok := fun _ => True) (okp := fun _ => True) ?hr ?hp (fun _ hk => hk) trivial (Below.refl _ w) (Nat.le_refl _) (by simp) ?_; (case hd => rfl); (case hg => rfl); (case hr => first | (go_simp; done) | (go_simp; rfl)); (case hp => exact Reps.none _ _); intro v1 w1 HR1 HB1 hg1 hat1; clear hg1 hat1; obtain ⟨A1, d1, e1⟩ := Kd.R_slice HR1; subst e1) |
    (refine Kd.R_append_rows (Kd.int .i64) (w0 := w) w.heap.size (by rfl) (.tmp 5) (.tmp 6) 33 3 (.int .i64 0) 8 rfl Try.underlying33 P.info3 rfl (by decide) (by omega) (.slice A1 ([] : List Int).length d1) ([] : List Int) l0 _ _ _ (fun _ => True) (fun _ => False) rfl rfl HR1 (Kd.C_below hr0 HB1) (fun _ _ h => h) (fun _ h => h.elim) (fun _ _ => trivial) HB1 (HB1.size) (by simp; omega) ?_; intro v2 w2 HR2 HB2 hg2 hat2; clear hg2 hat2))
  go_ret
  exact ⟨_, rfl, by simpa using HR2, HB2⟩
set_option maxHeartbeats 4000000 in
set_option maxRecDepth 100000 in
theorem clone_none (w : World) (n : Nat) (c : Nat) :
    Calls Try.prog 25 #[.slice none n c] w fun e w' => e = .returned (.slice none 0 0) ∧ Below w.heap.size w w' := by
  have q0 := Lib.run_eql_slice_nil_nil (P := Try.prog) w n c Try.underlying33
  go_enter Try.func25, Try.ntmps25
  go_wp2
  go_ret
  exact ⟨rfl, Below.refl _ _⟩
/-- What slices.Clone gives: the same numbers. -/
def slices_Clone_int_int.f (l0 : List Int) : Option (List Int) := if l0.length ≤ 65536 then some l0 else none
theorem slices_Clone_int_int.calls (A0 : Option Addr) (c0 : Nat) (l0 : List Int) (r : List Int) (w : World) (hr0 : Kd.C (Kd.int .i64) w A0 l0.length l0) (_ : l0.length ≤ c0) (h : slices_Clone_int_int.f l0 = some r) :
    Calls Try.prog 25 #[.slice A0 l0.length c0] w fun e w' => ∃ v0_ : Value, e = .returned (v0_) ∧ Kd.R (Kd.int .i64) 3 w' w.heap.size (fun _ => True) v0_ r ∧ Below w.heap.size w w' := by
  unfold slices_Clone_int_int.f at h
  split at h
  · rename_i hs
    have h := Option.some.inj h
    subst h
    cases A0 with
    | some ad => exact clone_some ad c0 l0 w hr0 hs
    | none =>
      have h0 : l0 = [] := by
        cases l0 with
        | nil => rfl
        | cons x l => obtain ⟨ad, e, _⟩ := hr0.2.2 (by simp); cases e
      subst h0
      refine (clone_none w _ c0).mono ?_
      rintro e w' ⟨rfl, hb⟩
      exact ⟨_, rfl, Kd.R_nil _ _ _ _ _, hb⟩
  · cases h
attribute [irreducible] slices_Clone_int_int.f
end Go.Proofs.Ytdjkhcmblekeiaa
