/- Texts of this session in one: slices.Clone of ints: a row of the same numbers, of its own.; slices.Clone of nodes: a row of the same nodes, of its own.; canon.Norm: its closure, and the library's IndexFunc and ContainsFunc over an instance's nodes.; canon.Norm: its walk.; canon.Same: its walk. -/
import Derived.Lib.BufferMore
import Derived.Test.YtfnnngoandpgkaaPx0
import Derived.Test.YtfnnngoandpgkaaMgb
import Derived.Test.YtfnnngoandpgkaaMga
import Derived.ChangeKeysEq
namespace Go.Proofs.Ytfnnngoandpgkaa
open Go.RowKit Go.Proofs.YtfnnngoandpgkaaW.PrintWords
set_option maxHeartbeats 4000000 in
set_option maxRecDepth 100000 in
theorem clone_some (ad : Addr) (c0 : Nat) (l0 : List Int) (w : World) (hr0 : Kd.C (Kd.int .i64) w (some ad) l0.length l0) (hl : l0.length ≤ 65536) :
    Calls Try.prog 43 #[.slice (some ad) l0.length c0] w fun e w' => ∃ v0_ : Value, e = .returned (v0_) ∧ Kd.R (Kd.int .i64) 3 w' w.heap.size (fun _ => True) v0_ l0 ∧ Below w.heap.size w w' := by
  have q0 := Lib.run_eql_slice_some_nil (P := Try.prog) w ad l0.length c0 Try.underlying23
  go_enter Try.func43, Try.ntmps43
  go_wp2_with (first | (refine Kd.R_lit (Kd.int .i64) w.heap.size 3 ?hg (N := 5) ?hd (xs := ([] : List Int)) (inner := []) (ok := fun _ => True) (okp := fun _ => True) ?hr ?hp (fun _ hk => hk) trivial (Below.refl _ w) (Nat.le_refl _) (by simp) ?_; (case hd => rfl); (case hg => rfl); (case hr => first | (go_simp; done) | (go_simp; rfl)); (case hp => exact Reps.none _ _); intro v1 w1 HR1 HB1 hg1 hat1; clear hg1 hat1; obtain ⟨A1, d1, e1⟩ := Kd.R_slice HR1; subst e1) |
    (refine Kd.R_append_rows (Kd.int .i64) (w0 := w) w.heap.size (by rfl) (.tmp 5) (.tmp 6) 23 3 (.int .i64 0) 8 rfl Try.underlying23 P.info3 rfl (by decide) (by omega) (.slice A1 ([] : List Int).length d1) ([] : List Int) l0 _ _ _ (fun _ => True) (fun _ => False) rfl rfl HR1 (Kd.C_below hr0 HB1) (fun _ _ h => h) (fun _ h => h.elim) (fun _ _ => trivial) HB1 (HB1.size) (by simp; omega) ?_; intro v2 w2 HR2 HB2 hg2 hat2; clear hg2 hat2))
  go_ret
  exact ⟨_, rfl, by simpa using HR2, HB2⟩
set_option maxHeartbeats 4000000 in
set_option maxRecDepth 100000 in
theorem clone_none (w : World) (n : Nat) (c : Nat) :
    Calls Try.prog 43 #[.slice none n c] w fun e w' => e = .returned (.slice none 0 0) ∧ Below w.heap.size w w' := by
  have q0 := Lib.run_eql_slice_nil_nil (P := Try.prog) w n c Try.underlying23
  go_enter Try.func43, Try.ntmps43
  go_wp2
  go_ret
  exact ⟨rfl, Below.refl _ _⟩
/-- What slices.Clone gives: the same numbers. -/
def slices_Clone_int_int.f (l0 : List Int) : Option (List Int) := if l0.length ≤ 65536 then some l0 else none
theorem slices_Clone_int_int.calls (A0 : Option Addr) (c0 : Nat) (l0 : List Int) (r : List Int) (w : World) (hr0 : Kd.C (Kd.int .i64) w A0 l0.length l0) (_ : l0.length ≤ c0) (h : slices_Clone_int_int.f l0 = some r) :
    Calls Try.prog 43 #[.slice A0 l0.length c0] w fun e w' => ∃ v0_ : Value, e = .returned (v0_) ∧ Kd.R (Kd.int .i64) 3 w' w.heap.size (fun _ => True) v0_ r ∧ Below w.heap.size w w' := by
  unfold slices_Clone_int_int.f at h
  split at h
  · rename_i hs
    have h := Option.some.inj h
    subst h
    cases A0 with
    | some ad => exact clone_some ad c0 l0 w hr0 hs
    | none =>
      have h0 : l0 = [] := by
        cases l0 with
        | nil => rfl
        | cons x l => obtain ⟨ad, e, _⟩ := hr0.2.2 (by simp); cases e
      subst h0
      refine (clone_none w _ c0).mono ?_
      rintro e w' ⟨rfl, hb⟩
      exact ⟨_, rfl, Kd.R_nil _ _ _ _ _, hb⟩
  · cases h
attribute [irreducible] slices_Clone_int_int.f
end Go.Proofs.Ytfnnngoandpgkaa
namespace Go.Proofs.Ytfnnngoandpgkaa
open Go.RowKit Go.Proofs.YtfnnngoandpgkaaW.PrintWords
theorem info_node : (Try.prog.info? 46).map (fun i => (i.zero, i.size, i.bytes)) = some (some (.agg #[.int .i64 0, .int .i64 0, .int .i64 0, .int .i64 0, .int .i64 0, .int .i64 0, .int .i64 0]), 7, 56) := by kernel_rfl
set_option maxHeartbeats 4000000 in
set_option maxRecDepth 100000 in
theorem cloneN_some (ad : Addr) (c0 : Nat) (l0 : List P.S46) (w : World) (hr0 : Kd.C P.k46 w (some ad) l0.length l0) (hl : l0.length ≤ 65536) :
    Calls Try.prog 42 #[.slice (some ad) l0.length c0] w fun e w' => ∃ v0_ : Value, e = .returned (v0_) ∧ Kd.R P.k46 46 w' w.heap.size (fun _ => True) v0_ l0 ∧ Below w.heap.size w w' := by
  have q0 := Lib.run_eql_slice_some_nil (P := Try.prog) w ad l0.length c0 Try.underlying22
  go_enter Try.func42, Try.ntmps42
  go_wp2_with (first | (refine Kd.R_lit P.k46 w.heap.size 46 ?hg (N := 5) ?hd (xs := ([] : List P.S46)) (inner := []) (ok := fun _ => True) (okp := fun _ => True) ?hr ?hp (fun _ hk => hk) trivial (Below.refl _ w) (Nat.le_refl _) (by simp) ?_; (case hd => rfl); (case hg => rfl); (case hr => first | (go_simp; done) | (go_simp; rfl)); (case hp => exact Reps.none _ _); intro v1 w1 HR1 HB1 hg1 hat1; clear hg1 hat1; obtain ⟨A1, d1, e1⟩ := Kd.R_slice HR1; subst e1) |
    (refine Kd.R_append_rows P.k46 (w0 := w) w.heap.size (by rfl) (.tmp 5) (.tmp 6) 22 46 (.agg #[.int .i64 0, .int .i64 0, .int .i64 0, .int .i64 0, .int .i64 0, .int .i64 0, .int .i64 0]) 56 rfl Try.underlying22 info_node rfl (by decide) (by omega) (.slice A1 ([] : List P.S46).length d1) ([] : List P.S46) l0 _ _ _ (fun _ => True) (fun _ => False) rfl rfl HR1 (Kd.C_below hr0 HB1) (fun _ _ h => h) (fun _ h => h.elim) (fun _ _ => trivial) HB1 (HB1.size) (by simp; omega) ?_; intro v2 w2 HR2 HB2 hg2 hat2; clear hg2 hat2))
  go_ret
  exact ⟨_, rfl, by simpa using HR2, HB2⟩
set_option maxHeartbeats 4000000 in
set_option maxRecDepth 100000 in
theorem cloneN_none (w : World) (n : Nat) (c : Nat) :
    Calls Try.prog 42 #[.slice none n c] w fun e w' => e = .returned (.slice none 0 0) ∧ Below w.heap.size w w' := by
  have q0 := Lib.run_eql_slice_nil_nil (P := Try.prog) w n c Try.underlying22
  go_enter Try.func42, Try.ntmps42
  go_wp2
  go_ret
  exact ⟨rfl, Below.refl _ _⟩
/-- What slices.Clone gives: the same numbers. -/
def slices_Clone_Node.f (l0 : List P.S46) : Option (List P.S46) := if l0.length ≤ 65536 then some l0 else none
theorem slices_Clone_Node.calls (A0 : Option Addr) (c0 : Nat) (l0 : List P.S46) (r : List P.S46) (w : World) (hr0 : Kd.C P.k46 w A0 l0.length l0) (_ : l0.length ≤ c0) (h : slices_Clone_Node.f l0 = some r) :
    Calls Try.prog 42 #[.slice A0 l0.length c0] w fun e w' => ∃ v0_ : Value, e = .returned (v0_) ∧ Kd.R P.k46 46 w' w.heap.size (fun _ => True) v0_ r ∧ Below w.heap.size w w' := by
  unfold slices_Clone_Node.f at h
  split at h
  · rename_i hs
    have h := Option.some.inj h
    subst h
    cases A0 with
    | some ad => exact cloneN_some ad c0 l0 w hr0 hs
    | none =>
      have h0 : l0 = [] := by
        cases l0 with
        | nil => rfl
        | cons x l => obtain ⟨ad, e, _⟩ := hr0.2.2 (by simp); cases e
      subst h0
      refine (cloneN_none w _ c0).mono ?_
      rintro e w' ⟨rfl, hb⟩
      exact ⟨_, rfl, Kd.R_nil _ _ _ _ _, hb⟩
  · cases h
attribute [irreducible] slices_Clone_Node.f
end Go.Proofs.Ytfnnngoandpgkaa
namespace Go.Proofs.Ytfnnngoandpgkaa
open Go.RowKit Go.Proofs.YtfnnngoandpgkaaW.PrintWords Go.Proofs.YtfnnngoandpgkaaW.PrintLast Go.Proofs.YtfnnngoandpgkaaW.PrintMore
set_option linter.unusedVariables false
namespace NodeFind
abbrev Node := P.S46
def aggN (d : Node) : Value := .agg #[.int .i64 d.f0, .int .i64 d.f1, .int .i64 d.f2, .int .i64 d.f3, .int .i64 d.f4, .int .i64 d.f5, .int .i64 d.f6]
def oddB (d : Node) : Bool := Int.tmod d.f0 10 != 0 || Int.tmod d.f1 10 != 0
set_option maxHeartbeats 1000000 in
theorem odd_c (d : Node) (w : World) : Calls Try.prog 44 #[aggN d] w fun e w' => e = .returned (.bool (oddB d)) ∧ Below w.heap.size w w' := by
  unfold aggN
  have hu := Try.underlying46
  by_cases h : Int.tmod d.f0 10 = 0
  · have h1 : (Int.tmod d.f0 10 != 0) = false := bne_eq_false_iff_eq.2 h
    have HN := Lib.hid (show oddB d = (Int.tmod d.f1 10 != 0) by unfold oddB; rw [h1]; rfl)
    clear h
    go_enter Try.func44, Try.ntmps44
    go_wp2
    go_ret
    exact ⟨by rw [HN.out]; rfl, (Below.refl _ _).alloc (Nat.le_refl _) _⟩
  · have h1 : (Int.tmod d.f0 10 != 0) = true := bne_iff_ne.2 h
    have HN := Lib.hid (show oddB d = true by unfold oddB; rw [h1]; rfl)
    clear h
    go_enter Try.func44, Try.ntmps44
    go_wp2
    go_ret
    exact ⟨by rw [HN.out]; rfl, (Below.refl _ _).alloc (Nat.le_refl _) _⟩

/-- What IndexFunc tells: the first place at which p holds, or -1. -/
def idx (p : Node → Bool) (l : List Node) : Int := if l.any p then (l.findIdx p : Int) else -1

theorem any_take_all {p : Node → Bool} {l : List Node} {k : Nat} (h : ∀ j, j < k → p (P.rd_T46 l j) = false) (hk : l.length ≤ k) : l.any p = false := by
  rw [List.any_eq_false]
  intro x hx
  obtain ⟨i, hi, rfl⟩ := List.getElem_of_mem hx
  have := h i (by omega)
  unfold P.rd_T46 at this
  rw [Int.toNat_natCast, List.getD_eq_getElem?_getD, List.getElem?_eq_getElem hi] at this
  simpa using this
theorem findIdx_at {p : Node → Bool} {l : List Node} {k : Nat} (h : ∀ j, j < k → p (P.rd_T46 l j) = false) (hk : k < l.length) (hp : p (P.rd_T46 l k) = true) : l.any p = true ∧ l.findIdx p = k := by
  have e : ∀ j, (hj : j < l.length) → P.rd_T46 l j = l[j] := fun j hj => by
    unfold P.rd_T46
    rw [Int.toNat_natCast, List.getD_eq_getElem?_getD, List.getElem?_eq_getElem hj]; rfl
  refine ⟨List.any_eq_true.2 ⟨l[k], List.getElem_mem hk, by rw [← e k hk]; exact hp⟩, ?_⟩
  refine (List.findIdx_eq hk).2 ⟨by rw [← e k hk]; exact hp, fun j hj => ?_⟩
  rw [← e j (by omega)]; exact h j hj

set_option maxRecDepth 100000 in
set_option maxHeartbeats 1000000 in
theorem indexFunc (g : Nat) (eg : ∀ args w, (callFunc g args).run Try.prog w = .ok (.enter g args) w) (p : Node → Bool) (hp : ∀ d W, Calls Try.prog g #[aggN d] W fun e w' => e = .returned (.bool (p d)) ∧ Below W.heap.size W w')
    (A : Option Addr) (c : Nat) (l : List Node) (w : World) (hr : Kd.C P.k46 w A l.length l) :
    Calls Try.prog 55 #[.slice A l.length c, .func (.func g) #[] #[]] w fun e w' => e = .returned (.int .i64 (idx p l)) ∧ Below w.heap.size w w' := by
  have hu := Try.underlying46
  have HR := Lib.hid hr
  have Hlen := hr.2.1
  clear hr
  have HP := Lib.hid hp
  clear hp
  go_enter Try.func55, Try.ntmps55
  go_wp2
  go_loopw [8] (fun v wr => ∃ k : Nat, v = .int .i64 k ∧ k ≤ l.length ∧ Aside0 (∀ j, j < k → p (P.rd_T46 l j) = false) ∧ Aside0 (Below w.heap.size w wr)) (fun v wr => l.length - (intOf v).toNat)
  case atStart => exact ⟨0, rfl, Nat.zero_le _, ⟨fun j hj => absurd hj (Nat.not_lt_zero _)⟩, ⟨Below.refl _ _⟩⟩
  case round =>
    obtain ⟨k, rfl, hk, hno, HB⟩ := hrel
    by_cases hlt : k < l.length
    · obtain ⟨ad, e, c0, c1, c2, c3, c4, c5, c6⟩ := P.at_T46 (Kd.C_below HR.out HB.out) k (by omega) (by omega)
      cases e
      rw [Int.toNat_natCast] at c0 c1 c2 c3 c4 c5 c6
      go_wp2_with (fail)
      refine (HP.out (P.rd_T46 l k) _).mono ?_
      rintro e w2 ⟨rfl, hb⟩
      have HB2 := Aside0.mk (HB.out.trans (hb.mono HB.out.size))
      clear hb c0 c1 c2 c3 c4 c5 c6
      cases hpk : p (P.rd_T46 l k) with
      | true =>
        have E := findIdx_at hno.out hlt hpk
        have E := Aside0.mk E
        clear hpk
        go_wp2
        go_ret
        exact ⟨by unfold idx; rw [E.out.1, E.out.2]; rfl, HB2.out⟩
      | false =>
        have Hn := Aside0.mk (show ∀ j, j < k + 1 → p (P.rd_T46 l j) = false from fun j hj => by
          by_cases h : j = k
          · rw [h]; exact hpk
          · exact hno.out j (by omega))
        clear hpk
        go_wp2
        go_roundw
        case rel => exact ⟨k + 1, by go_num, by omega, Hn, HB2⟩
        case measure => simp [intOf]; omega
    · go_wp2
      go_ret
      exact ⟨by unfold idx; rw [any_take_all hno.out (by omega)]; rfl, HB.out⟩

set_option maxHeartbeats 1000000 in
theorem containsFunc (g : Nat) (eg : ∀ args w, (callFunc g args).run Try.prog w = .ok (.enter g args) w) (p : Node → Bool) (hp : ∀ d W, Calls Try.prog g #[aggN d] W fun e w' => e = .returned (.bool (p d)) ∧ Below W.heap.size W w')
    (A : Option Addr) (c : Nat) (l : List Node) (w : World) (hr : Kd.C P.k46 w A l.length l) :
    Calls Try.prog 45 #[.slice A l.length c, .func (.func g) #[] #[]] w fun e w' => e = .returned (.bool (l.any p)) ∧ Below w.heap.size w w' := by
  have HC := Lib.hid (indexFunc g eg p hp A c l w hr)
  clear hp hr
  go_enter Try.func45, Try.ntmps45
  go_wp2_with (fail)
  refine HC.out.mono ?_
  rintro e w2 ⟨rfl, hb⟩
  have HB := Aside0.mk hb
  clear hb HC
  go_wp2
  go_ret
  refine ⟨?_, HB.out⟩
  unfold idx
  cases l.any p <;> simp

end NodeFind
end Go.Proofs.Ytfnnngoandpgkaa
namespace Go.Proofs.Ytfnnngoandpgkaa
open Go.RowKit Go.Proofs.YtfnnngoandpgkaaW.PrintWords Go.Proofs.YtfnnngoandpgkaaW.PrintLast Go.Proofs.YtfnnngoandpgkaaW.PrintMore
set_option linter.unusedVariables false
set_option linter.unusedSimpArgs false
namespace CanonNorm
open P NodeFind
abbrev Node := S46
abbrev rdN (l : List Node) (i : Int) : Node := rd_T46 l i
def div10 (d : Node) : Node := ⟨wrap64 (Int.tdiv d.f0 10), wrap64 (Int.tdiv d.f1 10), d.f2, d.f3, d.f4, d.f5, d.f6⟩
def okScale (sc : Int) : Bool := decide (1 ≤ sc ∧ sc ≤ 6)
/-- The normal form's scale and nodes, k rounds at most. -/
def normGo : Nat → Int → List Node → Int × List Node
  | 0, sc, ns => (sc, ns)
  | k + 1, sc, ns => if okScale sc = true ∧ ns.any oddB = false then normGo k (sc - 1) (ns.map div10) else (sc, ns)
theorem normGo_end {k : Nat} {sc : Int} {ns : List Node} (h : ¬ (okScale sc = true ∧ ns.any oddB = false)) : normGo k sc ns = (sc, ns) := by
  cases k with
  | zero => rfl
  | succ k => exact if_neg h
theorem normGo_step {k : Nat} {sc : Int} {ns : List Node} (hk : 1 ≤ sc → sc ≤ 6 → sc ≤ k) (h1 : okScale sc = true) (h2 : ns.any oddB = false) : ∃ m, normGo k sc ns = normGo m (sc - 1) (ns.map div10) ∧ (1 ≤ sc - 1 → sc - 1 ≤ 6 → sc - 1 ≤ (m : Int)) := by
  have := of_decide_eq_true h1
  cases k with
  | zero => have := hk this.1 this.2; omega
  | succ k => exact ⟨k, if_pos ⟨h1, h2⟩, fun a b => by have := hk (by omega) (by omega); omega⟩
theorem scale_c (sc : Int) (w : World) : Calls Try.prog 25 #[.int .i64 sc, .int .i64 1, .int .i64 6] w fun e w' => e = .returned (.bool (okScale sc)) ∧ Below w.heap.size w w' := CanonWalk.between_c sc 1 6 w
theorem contains_c (A : Option Addr) (c : Nat) (l : List Node) (w : World) (hr : Kd.C P.k46 w A l.length l) :
    Calls Try.prog 45 #[.slice A l.length c, .func (.func 44) #[] #[]] w fun e w' => e = .returned (.bool (l.any oddB)) ∧ Below w.heap.size w w' :=
  containsFunc 44 (enters_ Try.func44 (by kernel_rfl) rfl) oddB odd_c A c l w hr
structure Top where
  nm : ByteArray
  kd : Int
  mt : Int
  cp : Int
  fl : Int
  mx : List Int
/-- Norm's state: the instance's block, its rows. -/
def NSt (x : Top) (w : World) (v1 v2 : Value) (sc : Int) (L : List Node) (W : World) : Prop :=
  W.heap[w.heap.size]? = some (.cells #[.string x.nm, .int .i64 x.kd, .int .i64 x.mt, .int .i64 sc, .int .i64 x.cp, .int .i64 x.fl, v1, v2] 25 (0, 0)) ∧
  W.heap[w.heap.size + 1]? = some (.cells #[.string ByteArray.empty, .int .i64 0, .int .i64 0, .int .i64 0, .int .i64 0, .int .i64 0, .slice none 0 0, .slice none 0 0] 25 (0, 0)) ∧
  Kd.R k46 46 W w.heap.size (fun _ => True) v1 L ∧ Kd.R (Kd.int .i64) 3 W w.heap.size (fun _ => True) v2 x.mx ∧ Below w.heap.size w W
theorem NSt.below {x : Top} {w : World} {v1 v2 : Value} {sc : Int} {L : List Node} {W W' : World} (h : NSt x w v1 v2 sc L W) (hb : Below W.heap.size W W') : NSt x w v1 v2 sc L W' :=
  ⟨blk_below h.1 hb, blk_below h.2.1 hb, Kd.R_below h.2.2.1 hb, Kd.R_below h.2.2.2.1 hb, below_step h.2.2.2.2 hb⟩
theorem NSt.scale {x : Top} {w : World} {v1 v2 : Value} {sc : Int} {L : List Node} {W : World} (h : NSt x w v1 v2 sc L W) (s : Int) : NSt x w v1 v2 s L (W.setCell ⟨w.heap.size, 3, none⟩ (.int .i64 s)) :=
  ⟨blk_put h.1 3 _ rfl, blk_far h.2.1 (by show w.heap.size + 1 ≠ w.heap.size; omega) _, Kd.R_set h.2.2.1 h.1 (by decide) _ _, Kd.R_set h.2.2.2.1 h.1 (by decide) _ _, below_set h.2.2.2.2 (Nat.le_refl _)⟩
theorem NSt.cells {x : Top} {w : World} {v1 v2 : Value} {sc : Int} {L : List Node} {W : World} (h : NSt x w v1 v2 sc L W) : W.cell? ⟨w.heap.size, 3, none⟩ = some (.int .i64 sc) ∧ W.cell? ⟨w.heap.size, 6, none⟩ = some v1 ∧ W.frozen? ⟨w.heap.size, 3, none⟩ = false :=
  ⟨(blk_cell h.1 3).trans rfl, (blk_cell h.1 6).trans rfl, blk_frozen h.1 3⟩
theorem NSt.row {x : Top} {w : World} {g n c : Nat} {v2 : Value} {sc : Int} {L : List Node} {W : World} (h : NSt x w (.slice (some ⟨g, 0, none⟩) n c) v2 sc L W) : w.heap.size ≠ g ∧ w.heap.size + 1 ≠ g ∧ w.heap.size ≤ g ∧ ∃ cells, W.heap[g]? = some (.cells cells 46 (0, 0)) := by
  obtain ⟨h1, h2, h3, _, _⟩ := h
  obtain ⟨cells, hc⟩ := Kd.R_typed h3 g rfl
  exact ⟨blk_ne h1 hc (by decide), blk_ne h2 hc (by decide), Kd.R_base h3 g rfl, cells, hc⟩
theorem NSt.put0 {x : Top} {w : World} {g n c : Nat} {v2 : Value} {sc : Int} {L : List Node} {W : World} (h : NSt x w (.slice (some ⟨g, 0, none⟩) n c) v2 sc L W) (i : Nat) (hi : i < n) :
    W.cell? ⟨g, i * 7, none⟩ = some (.int .i64 (rdN L i).f0) ∧ W.frozen? ⟨g, i * 7, none⟩ = false ∧ ∀ a : Int, NSt x w (.slice (some ⟨g, 0, none⟩) n c) v2 sc (L.set i ⟨a, (rdN L i).f1, (rdN L i).f2, (rdN L i).f3, (rdN L i).f4, (rdN L i).f5, (rdN L i).f6⟩) (W.setCell ⟨g, i * 7, none⟩ (.int .i64 a)) := by
  obtain ⟨n1, n2, hb, cells, hc⟩ := h.row
  obtain ⟨h1, h2, h3, h4, h5⟩ := h
  obtain ⟨ce, hcl, hM, hcc, hfr⟩ := Kd.R_elem h3 z46 (i : Int) (by omega) (by omega)
  obtain rfl := k46_openM hM
  refine ⟨hcc 0 _ rfl, hfr 0, fun a => ?_⟩
  have hs := Kd.R_seg h3 (i : Int) (by omega) (by omega) (seg := [.int .i64 a]) (j := 0) hcl hcc (show 1 ≤ 7 from by decide) (x' := (⟨a, (rdN L i).f1, (rdN L i).f2, (rdN L i).f3, (rdN L i).f4, (rdN L i).f5, (rdN L i).f6⟩ : Node)) (k46_mkM _ _ _ (⟨a, (rdN L i).f1, (rdN L i).f2, (rdN L i).f3, (rdN L i).f4, (rdN L i).f5, (rdN L i).f6⟩ : Node)) (fun _ hk => hk)
  exact ⟨blk_far h1 n1 _, blk_far h2 n2 _, hs.1, Kd.R_set h4 hc (by decide) _ _, below_set h5 hb⟩
theorem NSt.put1 {x : Top} {w : World} {g n c : Nat} {v2 : Value} {sc : Int} {L : List Node} {W : World} (h : NSt x w (.slice (some ⟨g, 0, none⟩) n c) v2 sc L W) (i : Nat) (hi : i < n) :
    W.cell? ⟨g, i * 7 + 1, none⟩ = some (.int .i64 (rdN L i).f1) ∧ W.frozen? ⟨g, i * 7 + 1, none⟩ = false ∧ ∀ a : Int, NSt x w (.slice (some ⟨g, 0, none⟩) n c) v2 sc (L.set i ⟨(rdN L i).f0, a, (rdN L i).f2, (rdN L i).f3, (rdN L i).f4, (rdN L i).f5, (rdN L i).f6⟩) (W.setCell ⟨g, i * 7 + 1, none⟩ (.int .i64 a)) := by
  obtain ⟨n1, n2, hb, cells, hc⟩ := h.row
  obtain ⟨h1, h2, h3, h4, h5⟩ := h
  obtain ⟨ce, hcl, hM, hcc, hfr⟩ := Kd.R_elem h3 z46 (i : Int) (by omega) (by omega)
  obtain rfl := k46_openM hM
  refine ⟨hcc 1 _ rfl, hfr 1, fun a => ?_⟩
  have hs := Kd.R_seg h3 (i : Int) (by omega) (by omega) (seg := [.int .i64 a]) (j := 1) hcl hcc (show 2 ≤ 7 from by decide) (x' := (⟨(rdN L i).f0, a, (rdN L i).f2, (rdN L i).f3, (rdN L i).f4, (rdN L i).f5, (rdN L i).f6⟩ : Node)) (k46_mkM _ _ _ (⟨(rdN L i).f0, a, (rdN L i).f2, (rdN L i).f3, (rdN L i).f4, (rdN L i).f5, (rdN L i).f6⟩ : Node)) (fun _ hk => hk)
  exact ⟨blk_far h1 n1 _, blk_far h2 n2 _, hs.1, Kd.R_set h4 hc (by decide) _ _, below_set h5 hb⟩
theorem NSt.out {x : Top} {w : World} {v1 v2 : Value} {sc : Int} {L : List Node} {W : World} (h : NSt x w v1 v2 sc L W) :
    ((((((((W.setCell ⟨w.heap.size + 1, 0, none⟩ (.string x.nm)).setCell ⟨w.heap.size + 1, 1, none⟩ (.int .i64 x.kd)).setCell ⟨w.heap.size + 1, 2, none⟩ (.int .i64 x.mt)).setCell ⟨w.heap.size + 1, 3, none⟩ (.int .i64 sc)).setCell ⟨w.heap.size + 1, 4, none⟩ (.int .i64 x.cp)).setCell ⟨w.heap.size + 1, 5, none⟩ (.int .i64 x.fl)).setCell ⟨w.heap.size + 1, 6, none⟩ v1).setCell ⟨w.heap.size + 1, 7, none⟩ v2).heap[w.heap.size + 1]? = some (.cells #[.string x.nm, .int .i64 x.kd, .int .i64 x.mt, .int .i64 sc, .int .i64 x.cp, .int .i64 x.fl, v1, v2] 25 (0, 0)) ∧
    Kd.R k46 46 ((((((((W.setCell ⟨w.heap.size + 1, 0, none⟩ (.string x.nm)).setCell ⟨w.heap.size + 1, 1, none⟩ (.int .i64 x.kd)).setCell ⟨w.heap.size + 1, 2, none⟩ (.int .i64 x.mt)).setCell ⟨w.heap.size + 1, 3, none⟩ (.int .i64 sc)).setCell ⟨w.heap.size + 1, 4, none⟩ (.int .i64 x.cp)).setCell ⟨w.heap.size + 1, 5, none⟩ (.int .i64 x.fl)).setCell ⟨w.heap.size + 1, 6, none⟩ v1).setCell ⟨w.heap.size + 1, 7, none⟩ v2) w.heap.size (fun _ => True) v1 L ∧ Kd.R (Kd.int .i64) 3 ((((((((W.setCell ⟨w.heap.size + 1, 0, none⟩ (.string x.nm)).setCell ⟨w.heap.size + 1, 1, none⟩ (.int .i64 x.kd)).setCell ⟨w.heap.size + 1, 2, none⟩ (.int .i64 x.mt)).setCell ⟨w.heap.size + 1, 3, none⟩ (.int .i64 sc)).setCell ⟨w.heap.size + 1, 4, none⟩ (.int .i64 x.cp)).setCell ⟨w.heap.size + 1, 5, none⟩ (.int .i64 x.fl)).setCell ⟨w.heap.size + 1, 6, none⟩ v1).setCell ⟨w.heap.size + 1, 7, none⟩ v2) w.heap.size (fun _ => True) v2 x.mx ∧ Below w.heap.size w ((((((((W.setCell ⟨w.heap.size + 1, 0, none⟩ (.string x.nm)).setCell ⟨w.heap.size + 1, 1, none⟩ (.int .i64 x.kd)).setCell ⟨w.heap.size + 1, 2, none⟩ (.int .i64 x.mt)).setCell ⟨w.heap.size + 1, 3, none⟩ (.int .i64 sc)).setCell ⟨w.heap.size + 1, 4, none⟩ (.int .i64 x.cp)).setCell ⟨w.heap.size + 1, 5, none⟩ (.int .i64 x.fl)).setCell ⟨w.heap.size + 1, 6, none⟩ v1).setCell ⟨w.heap.size + 1, 7, none⟩ v2) := by
  have c0 := blk_put (cs' := #[.string x.nm, .int .i64 0, .int .i64 0, .int .i64 0, .int .i64 0, .int .i64 0, .slice none 0 0, .slice none 0 0]) h.2.1 0 (.string x.nm) rfl
  have a0 := Kd.R_set h.2.2.1 h.2.1 (by decide) 0 (.string x.nm)
  have b0 := Kd.R_set h.2.2.2.1 h.2.1 (by decide) 0 (.string x.nm)
  have c1 := blk_put (cs' := #[.string x.nm, .int .i64 x.kd, .int .i64 0, .int .i64 0, .int .i64 0, .int .i64 0, .slice none 0 0, .slice none 0 0]) c0 1 (.int .i64 x.kd) rfl
  have a1 := Kd.R_set a0 c0 (by decide) 1 (.int .i64 x.kd)
  have b1 := Kd.R_set b0 c0 (by decide) 1 (.int .i64 x.kd)
  have c2 := blk_put (cs' := #[.string x.nm, .int .i64 x.kd, .int .i64 x.mt, .int .i64 0, .int .i64 0, .int .i64 0, .slice none 0 0, .slice none 0 0]) c1 2 (.int .i64 x.mt) rfl
  have a2 := Kd.R_set a1 c1 (by decide) 2 (.int .i64 x.mt)
  have b2 := Kd.R_set b1 c1 (by decide) 2 (.int .i64 x.mt)
  have c3 := blk_put (cs' := #[.string x.nm, .int .i64 x.kd, .int .i64 x.mt, .int .i64 sc, .int .i64 0, .int .i64 0, .slice none 0 0, .slice none 0 0]) c2 3 (.int .i64 sc) rfl
  have a3 := Kd.R_set a2 c2 (by decide) 3 (.int .i64 sc)
  have b3 := Kd.R_set b2 c2 (by decide) 3 (.int .i64 sc)
  have c4 := blk_put (cs' := #[.string x.nm, .int .i64 x.kd, .int .i64 x.mt, .int .i64 sc, .int .i64 x.cp, .int .i64 0, .slice none 0 0, .slice none 0 0]) c3 4 (.int .i64 x.cp) rfl
  have a4 := Kd.R_set a3 c3 (by decide) 4 (.int .i64 x.cp)
  have b4 := Kd.R_set b3 c3 (by decide) 4 (.int .i64 x.cp)
  have c5 := blk_put (cs' := #[.string x.nm, .int .i64 x.kd, .int .i64 x.mt, .int .i64 sc, .int .i64 x.cp, .int .i64 x.fl, .slice none 0 0, .slice none 0 0]) c4 5 (.int .i64 x.fl) rfl
  have a5 := Kd.R_set a4 c4 (by decide) 5 (.int .i64 x.fl)
  have b5 := Kd.R_set b4 c4 (by decide) 5 (.int .i64 x.fl)
  have c6 := blk_put (cs' := #[.string x.nm, .int .i64 x.kd, .int .i64 x.mt, .int .i64 sc, .int .i64 x.cp, .int .i64 x.fl, v1, .slice none 0 0]) c5 6 v1 rfl
  have a6 := Kd.R_set a5 c5 (by decide) 6 v1
  have b6 := Kd.R_set b5 c5 (by decide) 6 v1
  have c7 := blk_put (cs' := #[.string x.nm, .int .i64 x.kd, .int .i64 x.mt, .int .i64 sc, .int .i64 x.cp, .int .i64 x.fl, v1, v2]) c6 7 v2 rfl
  have a7 := Kd.R_set a6 c6 (by decide) 7 v2
  have b7 := Kd.R_set b6 c6 (by decide) 7 v2
  exact ⟨c7, a7, b7, (below_set (j := 7) (v := v2) (below_set (j := 6) (v := v1) (below_set (j := 5) (v := (.int .i64 x.fl)) (below_set (j := 4) (v := (.int .i64 x.cp)) (below_set (j := 3) (v := (.int .i64 sc)) (below_set (j := 2) (v := (.int .i64 x.mt)) (below_set (j := 1) (v := (.int .i64 x.kd)) (below_set (j := 0) (v := (.string x.nm)) h.2.2.2.2 (Nat.le_succ _)) (Nat.le_succ _)) (Nat.le_succ _)) (Nat.le_succ _)) (Nat.le_succ _)) (Nat.le_succ _)) (Nat.le_succ _)) (Nat.le_succ _))⟩
theorem rd_mid (a b : List Node) (x : Node) {i : Nat} (h : a.length = i) : rdN (a ++ x :: b) (i : Int) = x := by
  unfold rdN rd_T46
  rw [Int.toNat_natCast, List.getD_eq_getElem?_getD, List.getElem?_append_right (by omega), h]; simp
theorem set_mid (a b : List Node) (x y : Node) {i : Nat} (h : a.length = i) : (a ++ x :: b).set i y = a ++ y :: b := by
  rw [List.set_append_right _ _ (by omega), h]; simp
theorem pre_len {L : List Node} {i : Nat} (h : i < L.length) : ((L.take i).map div10).length = i := by rw [List.length_map, List.length_take]; omega
theorem mid_at {L : List Node} {i : Nat} (h : i < L.length) : rdN ((L.take i).map div10 ++ L.drop i) (i : Int) = L[i] := by
  rw [List.drop_eq_getElem_cons h, rd_mid _ _ _ (pre_len h)]
theorem mid_set {L : List Node} {i : Nat} (h : i < L.length) (d : Node) : ((L.take i).map div10 ++ L.drop i).set i d = (L.take i).map div10 ++ d :: L.drop (i + 1) := by
  rw [List.drop_eq_getElem_cons h, set_mid _ _ _ _ (pre_len h)]
theorem mid_step {L : List Node} {i : Nat} (h : i < L.length) : (L.take i).map div10 ++ div10 L[i] :: L.drop (i + 1) = (L.take (i + 1)).map div10 ++ L.drop (i + 1) := by
  rw [List.take_succ_eq_append_getElem h, List.map_append, List.append_assoc]; rfl
theorem put_two {x : Top} {w : World} {g c : Nat} {v2 : Value} {sc : Int} {L : List Node} {W : World} {i : Nat} (h : NSt x w (.slice (some ⟨g, 0, none⟩) L.length c) v2 sc ((L.take i).map div10 ++ L.drop i) W) (hi : i < L.length) :
    W.cell? ⟨g, i * 7, none⟩ = some (.int .i64 L[i].f0) ∧ W.frozen? ⟨g, i * 7, none⟩ = false ∧ W.cell? ⟨g, i * 7 + 1, none⟩ = some (.int .i64 L[i].f1) ∧ W.frozen? ⟨g, i * 7 + 1, none⟩ = false ∧
      NSt x w (.slice (some ⟨g, 0, none⟩) L.length c) v2 sc ((L.take (i + 1)).map div10 ++ L.drop (i + 1)) ((W.setCell ⟨g, i * 7, none⟩ (.int .i64 (wrap64 (Int.tdiv L[i].f0 10)))).setCell ⟨g, i * 7 + 1, none⟩ (.int .i64 (wrap64 (Int.tdiv L[i].f1 10)))) := by
  obtain ⟨a0, a1, a2⟩ := h.put0 i hi
  obtain ⟨b0, b1, _⟩ := h.put1 i hi
  rw [mid_at hi] at a0 b0
  refine ⟨a0, a1, b0, b1, ?_⟩
  have h2 := a2 (wrap64 (Int.tdiv L[i].f0 10))
  rw [mid_at hi, mid_set hi] at h2
  obtain ⟨_, _, c2⟩ := h2.put1 i hi
  have h3 := c2 (wrap64 (Int.tdiv L[i].f1 10))
  have e1 : ∀ d : Node, rdN ((L.take i).map div10 ++ d :: L.drop (i + 1)) (i : Int) = d := fun d => rd_mid _ _ _ (pre_len hi)
  have e2 : ∀ d e : Node, ((L.take i).map div10 ++ d :: L.drop (i + 1)).set i e = (L.take i).map div10 ++ e :: L.drop (i + 1) := fun d e => set_mid _ _ _ _ (pre_len hi)
  rw [e1, e2] at h3
  rw [← mid_step hi]
  exact h3
set_option maxHeartbeats 4000000 in
set_option maxRecDepth 100000 in
theorem norm_c (nm : ByteArray) (kd mt sc cp fl : Int) (A : Option Addr) (c : Nat) (ns : List Node) (B : Option Addr) (e0 : Nat) (mx : List Int) (w : World) (hn : ns.length ≤ 65536) (hl : mx.length ≤ 65536)
    (hr : Kd.C k46 w A ns.length ns) (hc : ns.length ≤ c) (hm : Kd.C (Kd.int .i64) w B mx.length mx) (hd : mx.length ≤ e0) :
    Calls Try.prog 18 #[.agg #[.string nm, .int .i64 kd, .int .i64 mt, .int .i64 sc, .int .i64 cp, .int .i64 fl, .slice A ns.length c, .slice B mx.length e0]] w fun e w' => ∃ v1 v2, e = .returned (.agg #[.string nm, .int .i64 kd, .int .i64 mt, .int .i64 (normGo 6 sc ns).1, .int .i64 cp, .int .i64 fl, v1, v2]) ∧
      Kd.R k46 46 w' w.heap.size (fun _ => True) v1 (normGo 6 sc ns).2 ∧ Kd.R (Kd.int .i64) 3 w' w.heap.size (fun _ => True) v2 mx ∧ Below w.heap.size w w' := by
  have HCN := Lib.hid (slices_Clone_Node.calls A c ns ns)
  have HCI := Lib.hid (slices_Clone_int_int.calls B e0 mx mx)
  have hF1 := Lib.hid (show slices_Clone_Node.f ns = some ns by unfold slices_Clone_Node.f; exact if_pos hn)
  have hF2 := Lib.hid (show slices_Clone_int_int.f mx = some mx by unfold slices_Clone_int_int.f; exact if_pos hl)
  have HR := Lib.hid hr
  have HM := Lib.hid hm
  have HL := Lib.hid (And.intro (And.intro hn hl) (And.intro hc hd))
  clear hr hm hn hl hc hd
  have BK0 := blk_alloc (heap_alloc_new w (.cells #[.string nm, .int .i64 kd, .int .i64 mt, .int .i64 sc, .int .i64 cp, .int .i64 fl, .slice A ns.length c, .slice B mx.length e0] 25)) (.cells #[.string ByteArray.empty, .int .i64 0, .int .i64 0, .int .i64 0, .int .i64 0, .int .i64 0, .slice none 0 0, .slice none 0 0] 25)
  have BZ0 := heap_alloc_new (w.alloc (.cells #[.string nm, .int .i64 kd, .int .i64 mt, .int .i64 sc, .int .i64 cp, .int .i64 fl, .slice A ns.length c, .slice B mx.length e0] 25)) (.cells #[.string ByteArray.empty, .int .i64 0, .int .i64 0, .int .i64 0, .int .i64 0, .int .i64 0, .slice none 0 0, .slice none 0 0] 25)
  have HB0 := below_alloc (below_alloc (Below.refl w.heap.size w) (.cells #[.string nm, .int .i64 kd, .int .i64 mt, .int .i64 sc, .int .i64 cp, .int .i64 fl, .slice A ns.length c, .slice B mx.length e0] 25)) (.cells #[.string ByteArray.empty, .int .i64 0, .int .i64 0, .int .i64 0, .int .i64 0, .int .i64 0, .slice none 0 0, .slice none 0 0] 25)
  rw [World.size_alloc] at BZ0
  have BK := BK0
  have BZ := BZ0
  have HB := HB0
  clear BK0 BZ0 HB0
  have HBK := Lib.hid BK
  have HBZ := Lib.hid BZ
  have HHB := Lib.hid HB
  clear BK BZ HB
  go_enter Try.func18, Try.ntmps18
  go_wp2_with fail
  have BK := HBK.out
  have BZ := HBZ.out
  have HB := HHB.out
  clear HBK HBZ HHB
  -- REGION
  refine start_ (n := 10) (S := fun w' => w'.cell? ⟨w.heap.size, 6, none⟩ = some (.slice A ns.length c) ∧ w'.cell? ⟨w.heap.size, 7, none⟩ = some (.slice B mx.length e0) ∧ w'.heap[w.heap.size]? = some (.cells #[.string nm, .int .i64 kd, .int .i64 mt, .int .i64 sc, .int .i64 cp, .int .i64 fl, .slice A ns.length c, .slice B mx.length e0] 25 (0, 0)) ∧ w'.heap[w.heap.size + 1]? = some (.cells #[.string ByteArray.empty, .int .i64 0, .int .i64 0, .int .i64 0, .int .i64 0, .int .i64 0, .slice none 0 0, .slice none 0 0] 25 (0, 0)) ∧ Below w.heap.size w w') (ds := [7, 9]) #[false, false, false, false, false, false, false, false, false, false] (by kernel_rfl) rfl rfl ⟨(blk_cell (blk_drew BK) 6).trans rfl, (blk_cell (blk_drew BK) 7).trans rfl, blk_drew BK, blk_drew BZ, below_drew1 HB⟩ (fun hHeld => ?_)
  refine pure_ (i := 0) (N := some 5) (v := ?_) (a' := ?_) #[true, false, false, false, false, false, false, false, false, false] rfl rfl (by kernel_rfl) (fun _ _ _ h => h) (Or.inl ⟨by rfl, ?_⟩) ?_ ?_
  rotate_left
  · intro w'
    go_simp
    with_reducible rfl
  rotate_left
  · simp only [Act.put, List.setIfInBounds_toArray, List.set_cons_zero, List.set_cons_succ, i64_w, i32_w]
    rfl
  refine pure_ (i := 3) (N := some 8) (v := ?_) (a' := ?_) #[true, false, false, true, false, false, false, false, false, false] rfl rfl (by kernel_rfl) (fun _ _ _ h => h) (Or.inl ⟨by rfl, ?_⟩) ?_ ?_
  rotate_left
  · intro w'
    go_simp
    with_reducible rfl
  rotate_left
  · simp only [Act.put, List.setIfInBounds_toArray, List.set_cons_zero, List.set_cons_succ, i64_w, i32_w]
    rfl
  refine take_ (i := 1) (N := some 6) (v := ?_) (a' := ?_) #[true, true, false, true, false, false, false, false, false, false] rfl rfl (by kernel_rfl) (fun _ _ _ h => h) (Or.inl ⟨by rfl, ?_⟩) hHeld ?_ ?_
  rotate_left
  · rintro w' ⟨s0, s1, s2, s3, s4⟩
    go_simp
    with_reducible rfl
  rotate_left
  · simp only [Act.put, List.setIfInBounds_toArray, List.set_cons_zero, List.set_cons_succ, i64_w, i32_w]
    rfl
  refine take_ (i := 4) (N := some 9) (v := ?_) (a' := ?_) #[true, true, false, true, true, false, false, false, false, false] rfl rfl (by kernel_rfl) (fun _ _ _ h => h) (Or.inl ⟨by rfl, ?_⟩) hHeld ?_ ?_
  rotate_left
  · rintro w' ⟨s0, s1, s2, s3, s4⟩
    go_simp
    with_reducible rfl
  rotate_left
  · simp only [Act.put, List.setIfInBounds_toArray, List.set_cons_zero, List.set_cons_succ, i64_w, i32_w]
    rfl
  refine one_ (i := 2) (N := some 7) #[true, true, true, true, true, false, false, false, false, false] rfl rfl (by kernel_rfl) (by decide) (fun K hK => ?_)
  refine goes_ Try.func42 (by kernel_rfl) rfl #[.slice A ns.length c] (by rfl) rfl rfl (by simp only [List.map_toArray, List.map_cons, List.map_nil]; rfl) ?_
  with_reducible refine (HCN.out _ (Kd.C_below HR.out hHeld.2.2.2.2) HL.out.2.1 hF1.out).mono ?_
  rintro e w2 ⟨v1, rfl, ho1, hb⟩
  refine ⟨_, rfl, ?_⟩
  obtain ⟨A1, c1, e1⟩ := Kd.R_slice ho1
  subst e1
  have HO1 := Aside0.mk (Kd.R_lower ho1 (below_size hHeld.2.2.2.2))
  have hb1 := hb
  clear ho1 hb
  refine hK.out _ _ ⟨(blk_cell (blk_below hHeld.2.2.1 hb1) 6).trans rfl, (blk_cell (blk_below hHeld.2.2.1 hb1) 7).trans rfl, blk_below hHeld.2.2.1 hb1, blk_below hHeld.2.2.2.1 hb1, below_step hHeld.2.2.2.2 hb1⟩ (fun hHeld2 => ?_)
  clear hHeld
  have hHeld := hHeld2
  clear hHeld2
  clear hK K
  refine norm_ (a' := ?_) ?_ ?_
  rotate_left
  · show Act.put _ (some 7) _ = _
    simp only [Act.put, List.setIfInBounds_toArray, List.set_cons_zero, List.set_cons_succ, i64_w, i32_w]
    rfl
  refine pure_ (i := 6) (N := some 11) (v := ?_) (a' := ?_) #[true, true, true, true, true, false, true, false, false, false] rfl rfl (by kernel_rfl) (fun _ _ _ h => h) (Or.inl ⟨by rfl, ?_⟩) ?_ ?_
  rotate_left
  · intro w'
    go_simp
    with_reducible rfl
  rotate_left
  · simp only [Act.put, List.setIfInBounds_toArray, List.set_cons_zero, List.set_cons_succ, i64_w, i32_w]
    rfl
  refine one_ (i := 5) (N := some 10) #[true, true, true, true, true, true, true, false, false, false] rfl rfl (by kernel_rfl) (by decide) (fun K hK => ?_)
  refine goes_ Try.func43 (by kernel_rfl) rfl #[.slice B mx.length e0] (by rfl) rfl rfl (by simp only [List.map_toArray, List.map_cons, List.map_nil]; rfl) ?_
  with_reducible refine (HCI.out _ (Kd.C_below HM.out hHeld.2.2.2.2) HL.out.2.2 hF2.out).mono ?_
  rintro e w3 ⟨v2, rfl, ho2, hb⟩
  refine ⟨_, rfl, ?_⟩
  obtain ⟨B1, d1, e2⟩ := Kd.R_slice ho2
  subst e2
  have HO2 := Aside0.mk (Kd.R_lower ho2 (below_size hHeld.2.2.2.2))
  have HO1b := Aside0.mk (Kd.R_below HO1.out hb)
  have hb2 := hb
  have BK3 := Aside0.mk (blk_below hHeld.2.2.1 hb)
  have BZ3 := Aside0.mk (blk_below hHeld.2.2.2.1 hb)
  have HB3 := Aside0.mk (below_step hHeld.2.2.2.2 hb)
  clear ho2 hb HO1
  refine hK.out _ _ ⟨(blk_cell (blk_below hHeld.2.2.1 hb2) 6).trans rfl, (blk_cell (blk_below hHeld.2.2.1 hb2) 7).trans rfl, blk_below hHeld.2.2.1 hb2, blk_below hHeld.2.2.2.1 hb2, below_step hHeld.2.2.2.2 hb2⟩ (fun hHeld2 => ?_)
  clear hHeld
  have hHeld := hHeld2
  clear hHeld2
  clear hK K
  refine norm_ (a' := ?_) ?_ ?_
  rotate_left
  · show Act.put _ (some 10) _ = _
    simp only [Act.put, List.setIfInBounds_toArray, List.set_cons_zero, List.set_cons_succ, i64_w, i32_w]
    rfl
  refine last_ (i := 7) (N := none) #[true, true, true, true, true, true, true, true, false, false] rfl rfl (by kernel_rfl) (by decide) (fun K hK => ?_)
  have q1 : w3.cell? ⟨w.heap.size, 6, none⟩ = some (.slice A ns.length c) := (blk_cell BK3.out 6).trans rfl
  have q2 := blk_frozen BK3.out 6
  refine skip_ (w1 := ?_) (by rfl) rfl ?_ ?_
  rotate_left
  · go_simp
    rfl
  refine hK.out _ _ ?_
  clear hK K
  refine pure_ (i := 8) (N := some 12) (v := ?_) (a' := ?_) #[true, true, true, true, true, true, true, true, true, false] rfl rfl (by kernel_rfl) (fun _ _ _ h => h) (Or.inl ⟨by rfl, ?_⟩) ?_ ?_
  rotate_left
  · intro w'
    go_simp
    with_reducible rfl
  rotate_left
  · simp only [Act.put, List.setIfInBounds_toArray, List.set_cons_zero, List.set_cons_succ, i64_w, i32_w]
    rfl
  refine last_ (i := 9) (N := none) #[true, true, true, true, true, true, true, true, true, true] rfl rfl (by kernel_rfl) (by decide) (fun K hK => ?_)
  have BK4 := Aside0.mk (blk_put (cs' := #[.string nm, .int .i64 kd, .int .i64 mt, .int .i64 sc, .int .i64 cp, .int .i64 fl, .slice A1 ns.length c1, .slice B mx.length e0]) BK3.out 6 _ rfl)
  have q3 : (w3.setCell ⟨w.heap.size, 6, none⟩ (.slice A1 ns.length c1)).cell? ⟨w.heap.size, 7, none⟩ = some (.slice B mx.length e0) := (blk_cell BK4.out 7).trans rfl
  have q4 := blk_frozen BK4.out 7
  refine skip_ (w1 := ?_) (by rfl) rfl ?_ ?_
  rotate_left
  · go_simp
    rfl
  refine hK.out _ _ ?_
  clear hK K
  refine done_ (by kernel_rfl) ?_

  -- END
  clear q1 q2 q3 q4
  have HS := Aside0.mk (show NSt ⟨nm, kd, mt, cp, fl, mx⟩ w (.slice A1 ns.length c1) (.slice B1 mx.length d1) sc ns ((w3.setCell ⟨w.heap.size, 6, none⟩ (.slice A1 ns.length c1)).setCell ⟨w.heap.size, 7, none⟩ (.slice B1 mx.length d1)) from
    ⟨blk_put BK4.out 7 _ rfl, blk_far (blk_far BZ3.out (by show w.heap.size + 1 ≠ w.heap.size; omega) _) (by show w.heap.size + 1 ≠ w.heap.size; omega) _, Kd.R_set (Kd.R_set HO1b.out BK3.out (by decide) _ _) BK4.out (by decide) _ _, Kd.R_set (Kd.R_set HO2.out BK3.out (by decide) _ _) BK4.out (by decide) _ _, below_set (below_set HB3.out (Nat.le_refl _)) (Nat.le_refl _)⟩)
  clear BK BZ HB BK3 BZ3 HB3 BK4 HO1b HO2 hF1 hF2 HCN HCI HR HM
  generalize (w3.setCell ⟨w.heap.size, 6, none⟩ (.slice A1 ns.length c1)).setCell ⟨w.heap.size, 7, none⟩ (.slice B1 mx.length d1) = W0 at *
  clear hHeld
  obtain ⟨n0, hn0⟩ : ∃ n0 : Nat, ns.length = n0 := ⟨_, rfl⟩
  have HN0 := Aside0.mk hn0
  have hnb : n0 ≤ 65536 := by have := HL.out.1.1; omega
  have HG := Aside0.mk (show ∃ k : Nat, normGo k sc ns = normGo 6 sc ns ∧ (1 ≤ sc → sc ≤ 6 → sc ≤ (k : Int)) from ⟨6, rfl, fun _ h => by omega⟩)
  rw [hn0] at HS ⊢
  generalize hR : normGo 6 sc ns = res at *
  have HRS := Lib.hid hR
  clear hR hn0
  go_wp2_with fail
  go_loopw [] (fun wr => ∃ (s : Int) (L : List Node), Aside0 (NSt ⟨nm, kd, mt, cp, fl, mx⟩ w (.slice A1 n0 c1) (.slice B1 mx.length d1) s L wr) ∧ Aside0 (L.length = n0) ∧ Aside0 (∃ k : Nat, normGo k s L = res ∧ (1 ≤ s → s ≤ 6 → s ≤ (k : Int)))) (fun wr => (intOf ((wr.cell? ⟨w.heap.size, 3, none⟩).getD undef)).toNat)
  case atStart => exact ⟨sc, ns, HS, HN0, HG⟩
  case round =>
    obtain ⟨s, L, H1, H2, H3⟩ := hrel
    clear HS HN0 HG
    have HC := Aside0.mk (scale_c s)
    obtain ⟨x3, x6, f3⟩ := H1.out.cells
    cases hsc : okScale s with
    | false =>
      have HE := Aside0.mk (show res = (s, L) from by obtain ⟨k, e, _⟩ := H3.out; rw [← e]; exact normGo_end (fun h => by rw [hsc] at h; cases h.1))
      rw [hsc] at HC
      clear hsc
      go_wp2_with fail
      refine (HC.out _).mono ?_
      rintro e w5 ⟨rfl, hb⟩
      have H4 := Aside0.mk (H1.out.below hb)
      clear hb H1 x3 x6 f3 HC
      have hx := H4.out.1
      have hz := H4.out.2.1
      obtain ⟨y0, y1, y2, y3, y4, y5, y6, y7, f0, f1, f2, f3, f4, f5, f6, f7⟩ := blk8_ hx
      obtain ⟨z0, z1, z2, z3, z4, z5, z6, z7, g0, g1, g2, g3, g4, g5, g6, g7⟩ := blk8_ hz
      clear f0 f1 f2 f3 f4 f5 f6 f7 hx hz
      go_wp2
      clear y0 y1 y2 y3 y4 y5 y6 y7 z0 z1 z2 z3 z4 z5 z6 z7 g0 g1 g2 g3 g4 g5 g6 g7
      have HO := H4.out.out
      simp only at HO
      generalize ((((((((w5.setCell ⟨w.heap.size + 1, 0, none⟩ (.string nm)).setCell ⟨w.heap.size + 1, 1, none⟩ (.int .i64 kd)).setCell ⟨w.heap.size + 1, 2, none⟩ (.int .i64 mt)).setCell ⟨w.heap.size + 1, 3, none⟩ (.int .i64 s)).setCell ⟨w.heap.size + 1, 4, none⟩ (.int .i64 cp)).setCell ⟨w.heap.size + 1, 5, none⟩ (.int .i64 fl)).setCell ⟨w.heap.size + 1, 6, none⟩ (.slice A1 n0 c1)).setCell ⟨w.heap.size + 1, 7, none⟩ (.slice B1 mx.length d1)) = WF at *
      obtain ⟨ho, hR1, hR2, hB⟩ := HO
      obtain ⟨q0, q1, q2, q3, q4, q5, q6, q7, h0, h1, h2, h3, h4, h5, h6, h7⟩ := blk8_ ho
      clear H4 h0 h1 h2 h3 h4 h5 h6 h7
      refine bodyPost_ret (by simp [results, Try.results18, go_sem, q0, q1, q2, q3, q4, q5, q6, q7]; rfl) rfl ?_
      rw [HRS.out, HE.out]
      exact ⟨_, _, rfl, hR1, hR2, hB⟩
    | true =>
      rw [hsc] at HC
      cases hodd : L.any oddB with
      | true =>
        have HE := Aside0.mk (show res = (s, L) from by obtain ⟨k, e, _⟩ := H3.out; rw [← e]; exact normGo_end (fun h => by rw [hodd] at h; cases h.2))
        have HF := Aside0.mk (contains_c A1 c1 L)
        rw [hodd, H2.out] at HF
        clear hodd hsc
        go_wp2_with fail
        refine (HC.out _).mono ?_
        rintro e w5 ⟨rfl, hb⟩
        have H4 := Aside0.mk (H1.out.below hb)
        clear hb H1 x3 x6 f3 HC
        obtain ⟨x3, x6, f3⟩ := H4.out.cells
        go_wp2_with fail
        refine (HF.out _ (by have := (Kd.R_reads' H4.out.2.2.1).2.2; rw [H2.out] at this; exact this)).mono ?_
        rintro e w5 ⟨rfl, hb⟩
        have H5 := Aside0.mk (H4.out.below hb)
        clear hb H4 x3 x6 f3 HF
        have H4 := H5
        clear H5
        have hx := H4.out.1
        have hz := H4.out.2.1
        obtain ⟨y0, y1, y2, y3, y4, y5, y6, y7, f0, f1, f2, f3, f4, f5, f6, f7⟩ := blk8_ hx
        obtain ⟨z0, z1, z2, z3, z4, z5, z6, z7, g0, g1, g2, g3, g4, g5, g6, g7⟩ := blk8_ hz
        clear f0 f1 f2 f3 f4 f5 f6 f7 hx hz
        go_wp2
        clear y0 y1 y2 y3 y4 y5 y6 y7 z0 z1 z2 z3 z4 z5 z6 z7 g0 g1 g2 g3 g4 g5 g6 g7
        have HO := H4.out.out
        simp only at HO
        generalize ((((((((w5.setCell ⟨w.heap.size + 1, 0, none⟩ (.string nm)).setCell ⟨w.heap.size + 1, 1, none⟩ (.int .i64 kd)).setCell ⟨w.heap.size + 1, 2, none⟩ (.int .i64 mt)).setCell ⟨w.heap.size + 1, 3, none⟩ (.int .i64 s)).setCell ⟨w.heap.size + 1, 4, none⟩ (.int .i64 cp)).setCell ⟨w.heap.size + 1, 5, none⟩ (.int .i64 fl)).setCell ⟨w.heap.size + 1, 6, none⟩ (.slice A1 n0 c1)).setCell ⟨w.heap.size + 1, 7, none⟩ (.slice B1 mx.length d1)) = WF at *
        obtain ⟨ho, hR1, hR2, hB⟩ := HO
        obtain ⟨q0, q1, q2, q3, q4, q5, q6, q7, h0, h1, h2, h3, h4, h5, h6, h7⟩ := blk8_ ho
        clear H4 h0 h1 h2 h3 h4 h5 h6 h7
        refine bodyPost_ret (by simp [results, Try.results18, go_sem, q0, q1, q2, q3, q4, q5, q6, q7]; rfl) rfl ?_
        rw [HRS.out, HE.out]
        exact ⟨_, _, rfl, hR1, hR2, hB⟩
      | false =>
        have HF := Aside0.mk (contains_c A1 c1 L)
        have HP := Aside0.mk (show ∃ m : Nat, normGo m (s - 1) (L.map div10) = res ∧ (1 ≤ s - 1 → s - 1 ≤ 6 → s - 1 ≤ (m : Int)) from by
          obtain ⟨k, e, hk⟩ := H3.out
          obtain ⟨m, e2, h2⟩ := normGo_step hk hsc hodd
          exact ⟨m, e2 ▸ e, h2⟩)
        have hs1 : 1 ≤ s := (of_decide_eq_true hsc).1
        have hs6 : s ≤ 6 := (of_decide_eq_true hsc).2
        have hw : wrap64 (s - 1) = s - 1 := by unfold wrap64; omega
        rw [hodd, H2.out] at HF
        clear hodd hsc
        go_wp2_with fail
        refine (HC.out _).mono ?_
        rintro e w5 ⟨rfl, hb⟩
        have H4 := Aside0.mk (H1.out.below hb)
        clear hb H1 HC
        obtain ⟨y3, y6, g3⟩ := H4.out.cells
        go_wp2_with fail
        refine (HF.out _ (by have := (Kd.R_reads' H4.out.2.2.1).2.2; rw [H2.out] at this; exact this)).mono ?_
        rintro e w6 ⟨rfl, hb⟩
        have H5 := Aside0.mk (H4.out.below hb)
        clear hb H4 y3 y6 g3 HF
        obtain ⟨y3, y6, g3⟩ := H5.out.cells
        have H6 := Aside0.mk (H5.out.scale (s - 1))
        have H7 := Aside0.mk (show NSt ⟨nm, kd, mt, cp, fl, mx⟩ w (.slice A1 n0 c1) (.slice B1 mx.length d1) (s - 1) ((L.take 0).map div10 ++ L.drop 0) (w6.setCell ⟨w.heap.size, 3, none⟩ (.int .i64 (s - 1))) from H6.out)
        clear H6 H5
        go_wp2_with fail
        go_loopw [30] (fun v wq => ∃ i : Nat, v = .int .i64 i ∧ i ≤ n0 ∧ Aside0 (NSt ⟨nm, kd, mt, cp, fl, mx⟩ w (.slice A1 n0 c1) (.slice B1 mx.length d1) (s - 1) ((L.take i).map div10 ++ L.drop i) wq)) (fun v _ => n0 - (intOf v).toNat)
        case atStart => exact ⟨0, rfl, Nat.zero_le _, H7⟩
        case round =>
          obtain ⟨i, rfl, hi, HI⟩ := hrel
          clear H7 y3 y6 g3
          by_cases hlt : i < n0
          · obtain ⟨g, cap, eg, _, _, _⟩ := Kd.R_form HI.out.2.2.1 (by simp only [List.length_append, List.length_map, List.length_take, List.length_drop]; have := H2.out; omega)
            injection eg with eg1 eg2 eg3
            subst eg1
            clear eg2 eg3
            have HI2 := Aside0.mk (put_two (L := L) (i := i) (by have h := HI.out; rw [← H2.out] at h; exact h) (by rw [H2.out]; exact hlt))
            obtain ⟨n1, n2, n3, _⟩ := HI.out.row
            have n1' := n1.symm
            obtain ⟨p3, p6, _⟩ := HI.out.cells
            obtain ⟨c0, f0, c1', f1, HJ⟩ := HI2.out
            have HJ := Aside0.mk HJ
            clear HI HI2 n2 n3
            generalize hd : L[i]'(by rw [H2.out]; exact hlt) = d at *
            clear hd
            go_wp2_with fail
            go_roundw
            case rel => exact ⟨i + 1, by go_num, by omega, ⟨by have h := HJ.out; rw [H2.out] at h; exact h⟩⟩
            case measure => simp [intOf]; omega
          · have HE := Aside0.mk (show NSt ⟨nm, kd, mt, cp, fl, mx⟩ w (.slice A1 n0 c1) (.slice B1 mx.length d1) (s - 1) (L.map div10) wr from by
              have h := HI.out
              rwa [List.take_of_length_le (by rw [H2.out]; omega), List.drop_of_length_le (by rw [H2.out]; omega), List.append_nil] at h)
            clear HI
            go_wp2_with fail
            go_roundw
            case rel => exact ⟨s - 1, L.map div10, HE, ⟨by rw [List.length_map]; exact H2.out⟩, HP⟩
            case measure => rw [HE.out.cells.1, x3]; simp [intOf]; omega
end CanonNorm
open CanonNorm P Go.Proofs.YtfnnngoandpgkaaW.PrintWords
/-- What canon.Norm computes. -/
def canon_Norm.f (nm : ByteArray) (kd mt sc cp fl : Int) (ns : List CanonNorm.Node) (mx : List Int) : Option (ByteArray × Int × Int × Int × Int × Int × List CanonNorm.Node × List Int) :=
  if ns.length ≤ 65536 ∧ mx.length ≤ 65536 then some (nm, kd, mt, (normGo 6 sc ns).1, cp, fl, (normGo 6 sc ns).2, mx) else none
theorem canon_Norm.calls (nm : ByteArray) (kd mt sc cp fl : Int) (A : Option Addr) (c : Nat) (ns : List CanonNorm.Node) (B : Option Addr) (e0 : Nat) (mx : List Int) (r1 : ByteArray) (r2 r3 r4 r5 r6 : Int) (r7 : List CanonNorm.Node) (r8 : List Int) (w : World)
    (hr : Kd.C k46 w A ns.length ns) (hc : ns.length ≤ c) (hm : Kd.C (Kd.int .i64) w B mx.length mx) (hd : mx.length ≤ e0) (h : canon_Norm.f nm kd mt sc cp fl ns mx = some (r1, r2, r3, r4, r5, r6, r7, r8)) :
    Calls Try.prog 18 #[.agg #[.string nm, .int .i64 kd, .int .i64 mt, .int .i64 sc, .int .i64 cp, .int .i64 fl, .slice A ns.length c, .slice B mx.length e0]] w fun e w' => ∃ v1 v2 : Value, e = .returned (.agg #[.string r1, .int .i64 r2, .int .i64 r3, .int .i64 r4, .int .i64 r5, .int .i64 r6, v1, v2]) ∧
      Kd.R k46 46 w' w.heap.size (fun _ => True) v1 r7 ∧ Kd.R (Kd.int .i64) 3 w' w.heap.size (fun _ => True) v2 r8 ∧ Below w.heap.size w w' := by
  unfold canon_Norm.f at h
  split at h
  · rename_i hs
    have h := Option.some.inj h
    simp only [Prod.mk.injEq] at h
    obtain ⟨rfl, rfl, rfl, rfl, rfl, rfl, rfl, rfl⟩ := h
    exact norm_c nm kd mt sc cp fl A c ns B e0 mx w hs.1 hs.2 hr hc hm hd
  · cases h
attribute [irreducible] canon_Norm.f
end Go.Proofs.Ytfnnngoandpgkaa
namespace Go.Proofs.Ytfnnngoandpgkaa
open Go.RowKit Go.Proofs.YtfnnngoandpgkaaW.PrintWords Go.Proofs.YtfnnngoandpgkaaW.PrintLast Go.Proofs.YtfnnngoandpgkaaW.PrintMore
set_option linter.unusedVariables false
set_option linter.unusedSimpArgs false
namespace CanonSame
open P
abbrev Node := S46
abbrev rdN (l : List Node) (i : Int) : Node := rd_T46 l i
def eqN (a b : Node) : Bool := a.f0 == b.f0 && a.f1 == b.f1 && a.f2 == b.f2 && a.f3 == b.f3 && a.f4 == b.f4 && a.f5 == b.f5 && a.f6 == b.f6
theorem eqN_iff (a b : Node) : eqN a b = true ↔ a = b := by
  obtain ⟨a0, a1, a2, a3, a4, a5, a6⟩ := a
  obtain ⟨b0, b1, b2, b3, b4, b5, b6⟩ := b
  simp [eqN, and_assoc]
instance : DecidableEq Node := fun a b => decidable_of_iff _ (eqN_iff a b)
theorem rdN_at {l : List Node} {i : Nat} (h : i < l.length) : rdN l (i : Int) = l[i] := by
  unfold rdN rd_T46
  rw [Int.toNat_natCast, List.getD_eq_getElem?_getD, List.getElem?_eq_getElem h]; rfl
theorem rd_at {l : List Int} {i : Nat} (h : i < l.length) : rd l (i : Int) = l[i] := by
  unfold rd
  rw [Int.toNat_natCast, List.getD_eq_getElem?_getD, List.getElem?_eq_getElem h]; rfl
theorem not_all (a b : Node) : (!(a.f0 == b.f0) || (!(a.f1 == b.f1) || (!(a.f2 == b.f2) || (!(a.f3 == b.f3) || (!(a.f4 == b.f4) || (!(a.f5 == b.f5) || (!(a.f6 == b.f6)))))))) = !(eqN a b) := by
  unfold eqN
  simp only [Bool.not_and, Bool.or_assoc]
theorem nodes_from {l0 l1 : List Node} (hl : l0.length = l1.length) (hz : l0.length ≤ 65536) (d : Nat) : ∀ i : Nat, i + d = l0.length → l0.take i = l1.take i → Ev (fun k => canon_Node_46.l0 k l0 l1 (l0.length : Int) (i : Int)) (decide (l0 = l1)) := by
  induction d with
  | zero =>
    intro i hi he
    refine Ev.step (fun _ => canon_Node_46.l0.eq_2 ..) (Ev.neg (by omega) (Ev.this ?_))
    rw [List.take_of_length_le (by omega), List.take_of_length_le (by omega)] at he
    rw [decide_eq_true he]
  | succ d ih =>
    intro i hi he
    have h0 : i < l0.length := by omega
    have h1 : i < l1.length := by omega
    have e2 : wrap64 ((i : Int) + 1) = ((i + 1 : Nat) : Int) := by unfold wrap64; omega
    refine Ev.step (fun _ => canon_Node_46.l0.eq_2 ..) (Ev.pos (by omega) (Ev.pos (by omega) (Ev.pos (by omega) (Ev.pos (by omega) ?_))))
    have r0 : rd_T46 l0 (i : Int) = l0[i] := rdN_at h0
    have r1 : rd_T46 l1 (i : Int) = l1[i] := rdN_at h1
    rw [r0, r1, e2, not_all]
    by_cases hx : l0[i] = l1[i]
    · refine Ev.neg (by rw [(eqN_iff _ _).2 hx]; simp) (ih (i + 1) (by omega) (by rw [List.take_succ_eq_append_getElem h0, List.take_succ_eq_append_getElem h1, he, hx]))
    · have hne : l0 ≠ l1 := fun e => hx (by subst e; rfl)
      refine Ev.pos (by cases h : eqN l0[i] l1[i] with | true => exact absurd ((eqN_iff _ _).1 h) hx | false => rfl) (Ev.this ?_)
      rw [decide_eq_false hne]
theorem nodes_ev {l0 l1 : List Node} (hz : l0.length ≤ 65536) : Ev (fun k => canon_Node_46.f k l0 l1) (decide (l0 = l1)) := by
  unfold canon_Node_46.f
  by_cases hl : l0.length = l1.length
  · exact Ev.pos (by omega) (nodes_from hl hz l0.length 0 (by omega) rfl)
  · refine Ev.neg (by omega) (Ev.this ?_)
    rw [decide_eq_false (fun e => hl (by rw [e]))]
theorem ints_from {l0 l1 : List Int} (hl : l0.length = l1.length) (hz : l0.length ≤ 65536) (d : Nat) : ∀ i : Nat, i + d = l0.length → l0.take i = l1.take i → Ev (fun k => slices_Equal_int_int.l0 k l0 l1 (l0.length : Int) (i : Int)) (decide (l0 = l1)) := by
  induction d with
  | zero =>
    intro i hi he
    refine Ev.step (fun _ => slices_Equal_int_int.l0.eq_2 ..) (Ev.neg (by omega) (Ev.this ?_))
    rw [List.take_of_length_le (by omega), List.take_of_length_le (by omega)] at he
    rw [decide_eq_true he]
  | succ d ih =>
    intro i hi he
    have h0 : i < l0.length := by omega
    have h1 : i < l1.length := by omega
    have e2 : wrap64 ((i : Int) + 1) = ((i + 1 : Nat) : Int) := by unfold wrap64; omega
    refine Ev.step (fun _ => slices_Equal_int_int.l0.eq_2 ..) (Ev.pos (by omega) (Ev.pos (by omega) (Ev.pos (by omega) (Ev.pos (by omega) ?_))))
    rw [rd_at h0, rd_at h1, e2]
    by_cases hx : l0[i] = l1[i]
    · exact Ev.pos hx (ih (i + 1) (by omega) (by rw [List.take_succ_eq_append_getElem h0, List.take_succ_eq_append_getElem h1, he, hx]))
    · have hne : l0 ≠ l1 := fun e => hx (by subst e; rfl)
      refine Ev.neg hx (Ev.this ?_)
      rw [decide_eq_false hne]
theorem ints_ev {l0 l1 : List Int} (hz : l0.length ≤ 65536) : Ev (fun k => slices_Equal_int_int.f k l0 l1) (decide (l0 = l1)) := by
  unfold slices_Equal_int_int.f
  by_cases hl : l0.length = l1.length
  · exact Ev.pos (by omega) (ints_from hl hz l0.length 0 (by omega) rfl)
  · refine Ev.neg (by omega) (Ev.this ?_)
    rw [decide_eq_false (fun e => hl (by rw [e]))]
def sameNodes (a b : List Node) : Bool := decide (a = b)
def sameInts (a b : List Int) : Bool := decide (a = b)
theorem nodes_c (A : Option Addr) (c : Nat) (l : List Node) (B : Option Addr) (e0 : Nat) (m : List Node) (w : World) (hz : l.length ≤ 65536) (h0 : Kd.C k46 w A l.length l) (c0 : l.length ≤ c) (h1 : Kd.C k46 w B m.length m) (c1 : m.length ≤ e0) :
    Calls Try.prog 46 #[.slice A l.length c, .slice B m.length e0] w fun e w' => e = .returned (.bool (sameNodes l m)) ∧ Below w.heap.size w w' := by
  obtain ⟨K, hK⟩ := nodes_ev (l0 := l) (l1 := m) hz
  exact (canon_Node_46.calls K A c l B e0 m _ w h0 c0 h1 c1 (hK K (Nat.le_refl _))).mono (fun _ _ ⟨h, n, e⟩ => ⟨h, by rw [e]; exact CanonWalk.below_d n⟩)
theorem ints_c (A : Option Addr) (c : Nat) (l : List Int) (B : Option Addr) (e0 : Nat) (m : List Int) (w : World) (hz : l.length ≤ 65536) (h0 : Kd.C (Kd.int .i64) w A l.length l) (c0 : l.length ≤ c) (h1 : Kd.C (Kd.int .i64) w B m.length m) (c1 : m.length ≤ e0) :
    Calls Try.prog 47 #[.slice A l.length c, .slice B m.length e0] w fun e w' => e = .returned (.bool (sameInts l m)) ∧ Below w.heap.size w w' := by
  obtain ⟨K, hK⟩ := ints_ev (l0 := l) (l1 := m) hz
  exact (slices_Equal_int_int.calls K A c l B e0 m _ w h0 c0 h1 c1 (hK K (Nat.le_refl _))).mono (fun _ _ ⟨h, n, e⟩ => ⟨h, by rw [e]; exact CanonWalk.below_d n⟩)
def five (a b c d e a' b' c' d' e' : Int) : Bool := a == a' && (b == b' && (c == c' && (d == d' && e == e')))
theorem int_run (d : Nat) (a b : Int) (w : World) : (Op.equalIn (d + 1) 3 (.int .i64 a) (.int .i64 b)).run Try.prog w = .ok (a == b) w := by go_simp
theorem eqi_cons {P : Program} {d : Nat} {e n : Nat} {xs ys : Array Value} {i : Nat} {is : List Nat} {a b : Value} {r s : Bool} {w : World} (ha : (part e xs (i * n)).run P w = .ok a w) (hb : (part e ys (i * n)).run P w = .ok b w) (he : (Op.equalIn d e a b).run P w = .ok r w) (hr : (Op.eqItems d e n xs ys is).run P w = .ok s w) : (Op.eqItems d e n xs ys (i :: is)).run P w = .ok (r && s) w := by
  rw [Op.eqItems]
  simp only [Sem.run_bind, ha, hb, he, Result.andThen_ok]
  cases r
  · simp
  · simpa using hr
theorem eq_five (a b c d e a' b' c' d' e' : Int) (w : World) : (Op.equalIn 10000 67 (.agg #[.int .i64 a, .int .i64 b, .int .i64 c, .int .i64 d, .int .i64 e]) (.agg #[.int .i64 a', .int .i64 b', .int .i64 c', .int .i64 d', .int .i64 e'])).run Try.prog w = .ok (five a b c d e a' b' c' d' e') w := by
  obtain ⟨i, hi⟩ : ∃ i, Try.prog.info? 3 = some i := by
    have h := P.info3
    cases h2 : Try.prog.info? 3 with
    | none => rw [h2] at h; cases h
    | some i => exact ⟨i, rfl⟩
  have hc : Try.prog.cellsOf 3 = 1 := by kernel_rfl
  show (Op.equalIn (9999 + 1) _ _ _).run _ _ = _
  rw [run_equalIn_array (d := 9999) (hu := Try.underlying67) (hi := hi), hc, show List.range 5 = [0, 1, 2, 3, 4] from rfl]
  unfold five
  refine eqi_cons (by go_simp) (by go_simp) (int_run 9998 _ _ _) ?_
  refine eqi_cons (by go_simp) (by go_simp) (int_run 9998 _ _ _) ?_
  refine eqi_cons (by go_simp) (by go_simp) (int_run 9998 _ _ _) ?_
  refine eqi_cons (by go_simp) (by go_simp) (int_run 9998 _ _ _) ?_
  have h := eqi_cons (P := Try.prog) (d := 9999) (e := 3) (n := 1) (xs := #[.int .i64 a, .int .i64 b, .int .i64 c, .int .i64 d, .int .i64 e]) (ys := #[.int .i64 a', .int .i64 b', .int .i64 c', .int .i64 d', .int .i64 e']) (i := 4) (is := []) (by go_simp) (by go_simp) (int_run 9998 e e' w) (s := true) (by simp [Op.eqItems])
  rwa [Bool.and_true] at h
set_option maxHeartbeats 4000000 in
set_option maxRecDepth 100000 in
theorem same_c (nm : ByteArray) (kd mt sc cp fl : Int) (A : Option Addr) (c : Nat) (ns : List Node) (B : Option Addr) (e0 : Nat) (mx : List Int) (nm' : ByteArray) (kd' mt' sc' cp' fl' : Int) (A' : Option Addr) (c' : Nat) (ns' : List Node) (B' : Option Addr) (e0' : Nat) (mx' : List Int) (w : World) (hz : ns.length ≤ 65536) (hy : mx.length ≤ 65536)
    (h0 : Kd.C k46 w A ns.length ns) (c0 : ns.length ≤ c) (h1 : Kd.C (Kd.int .i64) w B mx.length mx) (c1 : mx.length ≤ e0) (h2 : Kd.C k46 w A' ns'.length ns') (c2 : ns'.length ≤ c') (h3 : Kd.C (Kd.int .i64) w B' mx'.length mx') (c3 : mx'.length ≤ e0') :
    Calls Try.prog 20 #[.agg #[.string nm, .int .i64 kd, .int .i64 mt, .int .i64 sc, .int .i64 cp, .int .i64 fl, .slice A ns.length c, .slice B mx.length e0], .agg #[.string nm', .int .i64 kd', .int .i64 mt', .int .i64 sc', .int .i64 cp', .int .i64 fl', .slice A' ns'.length c', .slice B' mx'.length e0']] w fun e w' => e = .returned (.bool (sameNodes ns ns' && (sameInts mx mx' && (decide (nm.toList = nm'.toList) && five kd mt sc cp fl kd' mt' sc' cp' fl')))) ∧ Below w.heap.size w w' := by
  have b0 := blk_alloc (heap_alloc_new w (.cells #[.string nm, .int .i64 kd, .int .i64 mt, .int .i64 sc, .int .i64 cp, .int .i64 fl, .slice A ns.length c, .slice B mx.length e0] 25)) (.cells #[.string nm', .int .i64 kd', .int .i64 mt', .int .i64 sc', .int .i64 cp', .int .i64 fl', .slice A' ns'.length c', .slice B' mx'.length e0'] 25)
  have b1 := heap_alloc_new (w.alloc (.cells #[.string nm, .int .i64 kd, .int .i64 mt, .int .i64 sc, .int .i64 cp, .int .i64 fl, .slice A ns.length c, .slice B mx.length e0] 25)) (.cells #[.string nm', .int .i64 kd', .int .i64 mt', .int .i64 sc', .int .i64 cp', .int .i64 fl', .slice A' ns'.length c', .slice B' mx'.length e0'] 25)
  rw [World.size_alloc] at b1
  have hB0 := below_alloc (below_alloc (Below.refl w.heap.size w) (.cells #[.string nm, .int .i64 kd, .int .i64 mt, .int .i64 sc, .int .i64 cp, .int .i64 fl, .slice A ns.length c, .slice B mx.length e0] 25)) (.cells #[.string nm', .int .i64 kd', .int .i64 mt', .int .i64 sc', .int .i64 cp', .int .i64 fl', .slice A' ns'.length c', .slice B' mx'.length e0'] 25)
  have HN := Lib.hid (fun W (hB : Below w.heap.size w W) => nodes_c A c ns A' c' ns' W hz (Kd.C_below h0 hB) c0 (Kd.C_below h2 hB) c2)
  have HI := Lib.hid (fun W (hB : Below w.heap.size w W) => ints_c B e0 mx B' e0' mx' W hy (Kd.C_below h1 hB) c1 (Kd.C_below h3 hB) c3)
  have HB := Aside0.mk hB0
  have HX := Aside0.mk b0
  have HY := Aside0.mk b1
  clear h0 h1 h2 h3 c0 c1 c2 c3 b0 b1 hB0 hz hy
  cases hn : sameNodes ns ns' with
  | false =>
    rw [hn] at HN
    clear hn
    go_enter Try.func20, Try.ntmps20
    go_wp2_with fail
    refine (HN.out _ HB.out).mono ?_
    rintro e w2 ⟨rfl, hb⟩
    have HB2 := Aside0.mk (below_step HB.out hb)
    clear hb
    go_wp2
    go_ret
    exact ⟨rfl, HB2.out⟩
  | true =>
    rw [hn] at HN
    clear hn
    cases hm : sameInts mx mx' with
    | false =>
      rw [hm] at HI
      clear hm
      go_enter Try.func20, Try.ntmps20
      go_wp2_with fail
      refine (HN.out _ HB.out).mono ?_
      rintro e w2 ⟨rfl, hb⟩
      have HB2 := Aside0.mk (below_step HB.out hb)
      have hX2 := blk_below HX.out hb
      have hY2 := blk_below HY.out hb
      obtain ⟨y0, y1, y2, y3, y4, y5, y6, y7, f0, f1, f2, f3, f4, f5, f6, f7⟩ := blk8_ hX2
      obtain ⟨z0, z1, z2, z3, z4, z5, z6, z7, g0, g1, g2, g3, g4, g5, g6, g7⟩ := blk8_ hY2
      clear hb y0 y1 y2 y3 y4 y5 y6 z0 z1 z2 z3 z4 z5 z6 g0 g1 g2 g3 g4 g5 g6 g7 f0 f1 f2 f3 f4 f5 f6 f7 hX2 hY2 HX HY
      go_wp2_with fail
      refine (HI.out _ HB2.out).mono ?_
      rintro e w3 ⟨rfl, hb⟩
      have HB3 := Aside0.mk (below_step HB2.out hb)
      clear hb
      go_wp2
      go_ret
      exact ⟨rfl, HB3.out⟩
    | true =>
      rw [hm] at HI
      clear hm
      have HQ := Lib.hid (eq_five kd mt sc cp fl kd' mt' sc' cp' fl')
      by_cases hnm : nm.toList = nm'.toList
      case neg =>
        have HD := Lib.hid (decide_eq_false hnm)
        go_enter Try.func20, Try.ntmps20
        go_wp2_with fail
        refine (HN.out _ HB.out).mono ?_
        rintro e w2 ⟨rfl, hb⟩
        have HB2 := Aside0.mk (below_step HB.out hb)
        have hX2 := blk_below HX.out hb
        have hY2 := blk_below HY.out hb
        obtain ⟨y0, y1, y2, y3, y4, y5, y6, y7, f0, f1, f2, f3, f4, f5, f6, f7⟩ := blk8_ hX2
        obtain ⟨z0, z1, z2, z3, z4, z5, z6, z7, g0, g1, g2, g3, g4, g5, g6, g7⟩ := blk8_ hY2
        have HX2 := Aside0.mk hX2
        have HY2 := Aside0.mk hY2
        clear hb y0 y1 y2 y3 y4 y5 y6 z0 z1 z2 z3 z4 z5 z6 g0 g1 g2 g3 g4 g5 g6 g7 f0 f1 f2 f3 f4 f5 f6 f7 hX2 hY2 HX HY
        go_wp2_with fail
        refine (HI.out _ HB2.out).mono ?_
        rintro e w3 ⟨rfl, hb⟩
        have HB3 := Aside0.mk (below_step HB2.out hb)
        have hX2 := blk_below HX2.out hb
        have hY2 := blk_below HY2.out hb
        obtain ⟨y0, y1, y2, y3, y4, y5, y6, y7, f0, f1, f2, f3, f4, f5, f6, f7⟩ := blk8_ hX2
        obtain ⟨z0, z1, z2, z3, z4, z5, z6, z7, g0, g1, g2, g3, g4, g5, g6, g7⟩ := blk8_ hY2
        clear hb g0 g1 g2 g3 g4 g5 g6 g7 f0 f1 f2 f3 f4 f5 f6 f7 hX2 hY2
        go_wp2
        go_ret
        exact ⟨by rw [HD.out]; rfl, HB3.out⟩
      case pos =>
        have HD := Lib.hid (decide_eq_true hnm)
        go_enter Try.func20, Try.ntmps20
        go_wp2_with fail
        refine (HN.out _ HB.out).mono ?_
        rintro e w2 ⟨rfl, hb⟩
        have HB2 := Aside0.mk (below_step HB.out hb)
        have hX2 := blk_below HX.out hb
        have hY2 := blk_below HY.out hb
        obtain ⟨y0, y1, y2, y3, y4, y5, y6, y7, f0, f1, f2, f3, f4, f5, f6, f7⟩ := blk8_ hX2
        obtain ⟨z0, z1, z2, z3, z4, z5, z6, z7, g0, g1, g2, g3, g4, g5, g6, g7⟩ := blk8_ hY2
        have HX2 := Aside0.mk hX2
        have HY2 := Aside0.mk hY2
        clear hb y0 y1 y2 y3 y4 y5 y6 z0 z1 z2 z3 z4 z5 z6 g0 g1 g2 g3 g4 g5 g6 g7 f0 f1 f2 f3 f4 f5 f6 f7 hX2 hY2 HX HY
        go_wp2_with fail
        refine (HI.out _ HB2.out).mono ?_
        rintro e w3 ⟨rfl, hb⟩
        have HB3 := Aside0.mk (below_step HB2.out hb)
        have hX2 := blk_below HX2.out hb
        have hY2 := blk_below HY2.out hb
        obtain ⟨y0, y1, y2, y3, y4, y5, y6, y7, f0, f1, f2, f3, f4, f5, f6, f7⟩ := blk8_ hX2
        obtain ⟨z0, z1, z2, z3, z4, z5, z6, z7, g0, g1, g2, g3, g4, g5, g6, g7⟩ := blk8_ hY2
        clear hb g0 g1 g2 g3 g4 g5 g6 g7 f0 f1 f2 f3 f4 f5 f6 f7 hX2 hY2
        have hq := HQ.out w3
        go_wp2
        go_ret
        exact ⟨by rw [HD.out]; rfl, HB3.out⟩
end CanonSame
open CanonSame P Go.Proofs.YtfnnngoandpgkaaW.PrintWords
/-- What canon.Same computes. -/
def canon_Same.f (nm : ByteArray) (kd mt sc cp fl : Int) (ns : List CanonSame.Node) (mx : List Int) (nm' : ByteArray) (kd' mt' sc' cp' fl' : Int) (ns' : List CanonSame.Node) (mx' : List Int) : Option Bool :=
  if ns.length ≤ 65536 ∧ mx.length ≤ 65536 then some (sameNodes ns ns' && (sameInts mx mx' && (decide (nm.toList = nm'.toList) && five kd mt sc cp fl kd' mt' sc' cp' fl'))) else none
theorem canon_Same.calls (nm : ByteArray) (kd mt sc cp fl : Int) (A : Option Addr) (c : Nat) (ns : List CanonSame.Node) (B : Option Addr) (e0 : Nat) (mx : List Int) (nm' : ByteArray) (kd' mt' sc' cp' fl' : Int) (A' : Option Addr) (c' : Nat) (ns' : List CanonSame.Node) (B' : Option Addr) (e0' : Nat) (mx' : List Int) (r : Bool) (w : World)
    (h0 : Kd.C k46 w A ns.length ns) (c0 : ns.length ≤ c) (h1 : Kd.C (Kd.int .i64) w B mx.length mx) (c1 : mx.length ≤ e0) (h2 : Kd.C k46 w A' ns'.length ns') (c2 : ns'.length ≤ c') (h3 : Kd.C (Kd.int .i64) w B' mx'.length mx') (c3 : mx'.length ≤ e0') (h : canon_Same.f nm kd mt sc cp fl ns mx nm' kd' mt' sc' cp' fl' ns' mx' = some r) :
    Calls Try.prog 20 #[.agg #[.string nm, .int .i64 kd, .int .i64 mt, .int .i64 sc, .int .i64 cp, .int .i64 fl, .slice A ns.length c, .slice B mx.length e0], .agg #[.string nm', .int .i64 kd', .int .i64 mt', .int .i64 sc', .int .i64 cp', .int .i64 fl', .slice A' ns'.length c', .slice B' mx'.length e0']] w fun e w' => e = .returned (.bool r) ∧ Below w.heap.size w w' := by
  unfold canon_Same.f at h
  split at h
  · rename_i hs
    have h := Option.some.inj h
    subst h
    exact same_c nm kd mt sc cp fl A c ns B e0 mx nm' kd' mt' sc' cp' fl' A' c' ns' B' e0' mx' w hs.1 hs.2 h0 c0 h1 c1 h2 c2 h3 c3
  · cases h
attribute [irreducible] canon_Same.f
end Go.Proofs.Ytfnnngoandpgkaa
