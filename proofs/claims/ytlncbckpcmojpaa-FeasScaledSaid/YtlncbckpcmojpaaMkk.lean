/- Texts of this session in one: canon.between: its contract.; canon.Norm: its closure, and the library's IndexFunc and ContainsFunc over an instance's nodes.; slices.Clone of nodes: a row of the same nodes, of its own. -/
import Derived.Test.YtlncbckpcmojpaaPx0
import Derived.Test.YtlncbckpcmojpaaMka
import Derived.Laws.RangeAny
import Derived.Lib.Hide
import Derived.Lib.OthersKept
import Derived.Lib.BufferMore
namespace Go.Proofs.Ytlncbckpcmojpaa.P
open Go.RowKit Go.Proofs.YtlncbckpcmojpaaW.PrintWords Go.Proofs.YtlncbckpcmojpaaW.PrintLast Go.Proofs.YtlncbckpcmojpaaW.PrintMore
attribute [local go_sem] max2_int min2_int max_two min_two max_three min_three max_four min_four   -- for this text's walks alone
set_option linter.unusedVariables false
set_option linter.unusedSimpArgs false

/-! ### canon_between: function 36 -/
def canon_between.f (a0 : Int) (a1 : Int) (a2 : Int) : Option (Bool) := if a1 ≤ a0 then (some (decide (a0 ≤ a2))) else (some false)
set_option maxHeartbeats 8000000 in
set_option maxRecDepth 100000 in
theorem canon_between.calls (a0 : Int) (a1 : Int) (a2 : Int) (r : Bool) (w : World) (h : canon_between.f a0 a1 a2 = some r) :
  Calls Try.prog 36 #[.int .i64 a0, .int .i64 a1, .int .i64 a2] w fun e w' => e = .returned (.bool r) ∧ Drawn0 w w' := by
 have H : (if a1 ≤ a0 then (some (decide (a0 ≤ a2))) else (some false)) = some r := h
 clear h
 by_cases c4 : a1 ≤ a0
 ·rw [if_pos c4] at H
  have c4b0 : decide (a1 ≤ a0) = true := decide_eq_true c4
  clear c4
  obtain rfl := Option.some.inj H
  go_enter Try.func36, Try.ntmps36
  go_wp2
  go_ret
  exact ⟨by first | rfl | (simp; done) | (simp [*]; done), by repeat (first | exact Drawn0.refl _ | apply Drawn0.step)⟩
 ·rw [if_neg c4] at H
  have c4b0 : decide (a1 ≤ a0) = false := decide_eq_false c4
  clear c4
  obtain rfl := Option.some.inj H
  go_enter Try.func36, Try.ntmps36
  go_wp2
  go_ret
  exact ⟨by first | rfl | (simp; done) | (simp [*]; done), by repeat (first | exact Drawn0.refl _ | apply Drawn0.step)⟩

end Go.Proofs.Ytlncbckpcmojpaa.P
namespace Go.Proofs.Ytlncbckpcmojpaa
open Go.RowKit Go.Proofs.YtlncbckpcmojpaaW.PrintWords Go.Proofs.YtlncbckpcmojpaaW.PrintLast Go.Proofs.YtlncbckpcmojpaaW.PrintMore
set_option linter.unusedVariables false
namespace CanonWalk
theorem between_f (a b c : Int) : P.canon_between.f a b c = some (decide (b ≤ a ∧ a ≤ c)) := by
  unfold P.canon_between.f
  by_cases h : b ≤ a
  · rw [if_pos h]; congr 1; rw [decide_eq_decide]; omega
  · rw [if_neg h, decide_eq_false (fun e => h e.1)]
theorem below_d {w : World} (n : Nat) : Below w.heap.size w (w.drewN n) := pw_below_drewN (Below.refl _ _) n
theorem between_c (a b c : Int) (w : World) : Calls Try.prog 36 #[.int .i64 a, .int .i64 b, .int .i64 c] w fun e w' => e = .returned (.bool (decide (b ≤ a ∧ a ≤ c))) ∧ Below w.heap.size w w' :=
  (P.canon_between.calls a b c _ w (between_f a b c)).mono (fun _ _ ⟨h, n, e⟩ => ⟨h, by rw [e]; exact below_d n⟩)
end CanonWalk
end Go.Proofs.Ytlncbckpcmojpaa
namespace Go.Proofs.Ytlncbckpcmojpaa
open Go.RowKit Go.Proofs.YtlncbckpcmojpaaW.PrintWords Go.Proofs.YtlncbckpcmojpaaW.PrintLast Go.Proofs.YtlncbckpcmojpaaW.PrintMore
set_option linter.unusedVariables false
namespace NodeFind
abbrev Node := P.S32
def aggN (d : Node) : Value := .agg #[.int .i64 d.f0, .int .i64 d.f1, .int .i64 d.f2, .int .i64 d.f3, .int .i64 d.f4, .int .i64 d.f5, .int .i64 d.f6]
def oddB (d : Node) : Bool := Int.tmod d.f0 10 != 0 || Int.tmod d.f1 10 != 0
set_option maxHeartbeats 1000000 in
theorem odd_c (d : Node) (w : World) : Calls Try.prog 35 #[aggN d] w fun e w' => e = .returned (.bool (oddB d)) ∧ Below w.heap.size w w' := by
  unfold aggN
  have hu := Try.underlying32
  by_cases h : Int.tmod d.f0 10 = 0
  · have h1 : (Int.tmod d.f0 10 != 0) = false := bne_eq_false_iff_eq.2 h
    have HN := Lib.hid (show oddB d = (Int.tmod d.f1 10 != 0) by unfold oddB; rw [h1]; rfl)
    clear h
    go_enter Try.func35, Try.ntmps35
    go_wp2
    go_ret
    exact ⟨by rw [HN.out]; rfl, (Below.refl _ _).alloc (Nat.le_refl _) _⟩
  · have h1 : (Int.tmod d.f0 10 != 0) = true := bne_iff_ne.2 h
    have HN := Lib.hid (show oddB d = true by unfold oddB; rw [h1]; rfl)
    clear h
    go_enter Try.func35, Try.ntmps35
    go_wp2
    go_ret
    exact ⟨by rw [HN.out]; rfl, (Below.refl _ _).alloc (Nat.le_refl _) _⟩

/-- What IndexFunc tells: the first place at which p holds, or -1. -/
def idx (p : Node → Bool) (l : List Node) : Int := if l.any p then (l.findIdx p : Int) else -1

theorem any_take_all {p : Node → Bool} {l : List Node} {k : Nat} (h : ∀ j, j < k → p (P.rd_T32 l j) = false) (hk : l.length ≤ k) : l.any p = false := by
  rw [List.any_eq_false]
  intro x hx
  obtain ⟨i, hi, rfl⟩ := List.getElem_of_mem hx
  have := h i (by omega)
  unfold P.rd_T32 at this
  rw [Int.toNat_natCast, List.getD_eq_getElem?_getD, List.getElem?_eq_getElem hi] at this
  simpa using this
theorem findIdx_at {p : Node → Bool} {l : List Node} {k : Nat} (h : ∀ j, j < k → p (P.rd_T32 l j) = false) (hk : k < l.length) (hp : p (P.rd_T32 l k) = true) : l.any p = true ∧ l.findIdx p = k := by
  have e : ∀ j, (hj : j < l.length) → P.rd_T32 l j = l[j] := fun j hj => by
    unfold P.rd_T32
    rw [Int.toNat_natCast, List.getD_eq_getElem?_getD, List.getElem?_eq_getElem hj]; rfl
  refine ⟨List.any_eq_true.2 ⟨l[k], List.getElem_mem hk, by rw [← e k hk]; exact hp⟩, ?_⟩
  refine (List.findIdx_eq hk).2 ⟨by rw [← e k hk]; exact hp, fun j hj => ?_⟩
  rw [← e j (by omega)]; exact h j hj

set_option maxRecDepth 100000 in
set_option maxHeartbeats 1000000 in
theorem indexFunc (g : Nat) (eg : ∀ args w, (callFunc g args).run Try.prog w = .ok (.enter g args) w) (p : Node → Bool) (hp : ∀ d W, Calls Try.prog g #[aggN d] W fun e w' => e = .returned (.bool (p d)) ∧ Below W.heap.size W w')
    (A : Option Addr) (c : Nat) (l : List Node) (w : World) (hr : Kd.C P.k32 w A l.length l) :
    Calls Try.prog 56 #[.slice A l.length c, .func (.func g) #[] #[]] w fun e w' => e = .returned (.int .i64 (idx p l)) ∧ Below w.heap.size w w' := by
  have hu := Try.underlying32
  have HR := Lib.hid hr
  have Hlen := hr.2.1
  clear hr
  have HP := Lib.hid hp
  clear hp
  go_enter Try.func56, Try.ntmps56
  go_wp2
  go_loopw [8] (fun v wr => ∃ k : Nat, v = .int .i64 k ∧ k ≤ l.length ∧ Aside0 (∀ j, j < k → p (P.rd_T32 l j) = false) ∧ Aside0 (Below w.heap.size w wr)) (fun v wr => l.length - (intOf v).toNat)
  case atStart => exact ⟨0, rfl, Nat.zero_le _, ⟨fun j hj => absurd hj (Nat.not_lt_zero _)⟩, ⟨Below.refl _ _⟩⟩
  case round =>
    obtain ⟨k, rfl, hk, hno, HB⟩ := hrel
    by_cases hlt : k < l.length
    · obtain ⟨ad, e, c0, c1, c2, c3, c4, c5, c6⟩ := P.at_T32 (Kd.C_below HR.out HB.out) k (by omega) (by omega)
      cases e
      rw [Int.toNat_natCast] at c0 c1 c2 c3 c4 c5 c6
      go_wp2_with (fail)
      refine (HP.out (P.rd_T32 l k) _).mono ?_
      rintro e w2 ⟨rfl, hb⟩
      have HB2 := Aside0.mk (HB.out.trans (hb.mono HB.out.size))
      clear hb c0 c1 c2 c3 c4 c5 c6
      cases hpk : p (P.rd_T32 l k) with
      | true =>
        have E := findIdx_at hno.out hlt hpk
        have E := Aside0.mk E
        clear hpk
        go_wp2
        go_ret
        exact ⟨by unfold idx; rw [E.out.1, E.out.2]; rfl, HB2.out⟩
      | false =>
        have Hn := Aside0.mk (show ∀ j, j < k + 1 → p (P.rd_T32 l j) = false from fun j hj => by
          by_cases h : j = k
          · rw [h]; exact hpk
          · exact hno.out j (by omega))
        clear hpk
        go_wp2
        go_roundw
        case rel => exact ⟨k + 1, by go_num, by omega, Hn, HB2⟩
        case measure => simp [intOf]; omega
    · go_wp2
      go_ret
      exact ⟨by unfold idx; rw [any_take_all hno.out (by omega)]; rfl, HB.out⟩

set_option maxHeartbeats 1000000 in
theorem containsFunc (g : Nat) (eg : ∀ args w, (callFunc g args).run Try.prog w = .ok (.enter g args) w) (p : Node → Bool) (hp : ∀ d W, Calls Try.prog g #[aggN d] W fun e w' => e = .returned (.bool (p d)) ∧ Below W.heap.size W w')
    (A : Option Addr) (c : Nat) (l : List Node) (w : World) (hr : Kd.C P.k32 w A l.length l) :
    Calls Try.prog 37 #[.slice A l.length c, .func (.func g) #[] #[]] w fun e w' => e = .returned (.bool (l.any p)) ∧ Below w.heap.size w w' := by
  have HC := Lib.hid (indexFunc g eg p hp A c l w hr)
  clear hp hr
  go_enter Try.func37, Try.ntmps37
  go_wp2_with (fail)
  refine HC.out.mono ?_
  rintro e w2 ⟨rfl, hb⟩
  have HB := Aside0.mk hb
  clear hb HC
  go_wp2
  go_ret
  refine ⟨?_, HB.out⟩
  unfold idx
  cases l.any p <;> simp

end NodeFind
end Go.Proofs.Ytlncbckpcmojpaa
namespace Go.Proofs.Ytlncbckpcmojpaa
open Go.RowKit Go.Proofs.YtlncbckpcmojpaaW.PrintWords
theorem info_node : (Try.prog.info? 32).map (fun i => (i.zero, i.size, i.bytes)) = some (some (.agg #[.int .i64 0, .int .i64 0, .int .i64 0, .int .i64 0, .int .i64 0, .int .i64 0, .int .i64 0]), 7, 56) := by kernel_rfl
set_option maxHeartbeats 4000000 in
set_option maxRecDepth 100000 in
theorem cloneN_some (ad : Addr) (c0 : Nat) (l0 : List P.S32) (w : World) (hr0 : Kd.C P.k32 w (some ad) l0.length l0) (hl : l0.length ≤ 65536) :
    Calls Try.prog 33 #[.slice (some ad) l0.length c0] w fun e w' => ∃ v0_ : Value, e = .returned (v0_) ∧ Kd.R P.k32 32 w' w.heap.size (fun _ => True) v0_ l0 ∧ Below w.heap.size w w' := by
  have q0 := Lib.run_eql_slice_some_nil (P := Try.prog) w ad l0.length c0 Try.underlying22
  go_enter Try.func33, Try.ntmps33
  go_wp2_with (first | (refine Kd.R_lit P.k32 w.heap.size 32 ?hg (N := 5) ?hd (xs := ([] : List P.S32)) (inner := []) (ok := fun _ => True) (okp := fun _ => True) ?hr ?hp (fun _ hk => hk) trivial (Below.refl _ w) (Nat.le_refl _) (by simp) ?_; (case hd => rfl); (case hg => rfl); (case hr => first | (go_simp; done) | (go_simp; rfl)); (case hp => exact Reps.none _ _); intro v1 w1 HR1 HB1 hg1 hat1; clear hg1 hat1; obtain ⟨A1, d1, e1⟩ := Kd.R_slice HR1; subst e1) |
    (refine Kd.R_append_rows P.k32 (w0 := w) w.heap.size (by rfl) (.tmp 5) (.tmp 6) 22 32 (.agg #[.int .i64 0, .int .i64 0, .int .i64 0, .int .i64 0, .int .i64 0, .int .i64 0, .int .i64 0]) 56 rfl Try.underlying22 info_node rfl (by decide) (by omega) (.slice A1 ([] : List P.S32).length d1) ([] : List P.S32) l0 _ _ _ (fun _ => True) (fun _ => False) rfl rfl HR1 (Kd.C_below hr0 HB1) (fun _ _ h => h) (fun _ h => h.elim) (fun _ _ => trivial) HB1 (HB1.size) (by simp; omega) ?_; intro v2 w2 HR2 HB2 hg2 hat2; clear hg2 hat2))
  go_ret
  exact ⟨_, rfl, by simpa using HR2, HB2⟩
set_option maxHeartbeats 4000000 in
set_option maxRecDepth 100000 in
theorem cloneN_none (w : World) (n : Nat) (c : Nat) :
    Calls Try.prog 33 #[.slice none n c] w fun e w' => e = .returned (.slice none 0 0) ∧ Below w.heap.size w w' := by
  have q0 := Lib.run_eql_slice_nil_nil (P := Try.prog) w n c Try.underlying22
  go_enter Try.func33, Try.ntmps33
  go_wp2
  go_ret
  exact ⟨rfl, Below.refl _ _⟩
/-- What slices.Clone gives: the same numbers. -/
def slices_Clone_Node.f (l0 : List P.S32) : Option (List P.S32) := if l0.length ≤ 65536 then some l0 else none
theorem slices_Clone_Node.calls (A0 : Option Addr) (c0 : Nat) (l0 : List P.S32) (r : List P.S32) (w : World) (hr0 : Kd.C P.k32 w A0 l0.length l0) (_ : l0.length ≤ c0) (h : slices_Clone_Node.f l0 = some r) :
    Calls Try.prog 33 #[.slice A0 l0.length c0] w fun e w' => ∃ v0_ : Value, e = .returned (v0_) ∧ Kd.R P.k32 32 w' w.heap.size (fun _ => True) v0_ r ∧ Below w.heap.size w w' := by
  unfold slices_Clone_Node.f at h
  split at h
  · rename_i hs
    have h := Option.some.inj h
    subst h
    cases A0 with
    | some ad => exact cloneN_some ad c0 l0 w hr0 hs
    | none =>
      have h0 : l0 = [] := by
        cases l0 with
        | nil => rfl
        | cons x l => obtain ⟨ad, e, _⟩ := hr0.2.2 (by simp); cases e
      subst h0
      refine (cloneN_none w _ c0).mono ?_
      rintro e w' ⟨rfl, hb⟩
      exact ⟨_, rfl, Kd.R_nil _ _ _ _ _, hb⟩
  · cases h
attribute [irreducible] slices_Clone_Node.f
end Go.Proofs.Ytlncbckpcmojpaa
