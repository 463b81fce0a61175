/- express.Lacks: its closures, and the library's IndexFunc and ContainsFunc over an instance's nodes, for every predicate that lays blocks of its own alone. -/
import Derived.Test.YtmapllahhpdedaaPx0
import Derived.Lib.Hide
namespace Go.Proofs.Ytmapllahhpdedaa
open Go.RowKit Go.Proofs.YtmapllahhpdedaaW.PrintWords Go.Proofs.YtmapllahhpdedaaW.PrintLast Go.Proofs.YtmapllahhpdedaaW.PrintMore
namespace LacksWalk
abbrev Node := P.S40
def aggN (d : Node) : Value := .agg #[.int .i64 d.f0, .int .i64 d.f1, .int .i64 d.f2, .int .i64 d.f3, .int .i64 d.f4, .int .i64 d.f5, .int .i64 d.f6]

set_option maxHeartbeats 1000000 in
theorem demand_neg (d : Node) (w : World) : Calls Try.prog 18 #[aggN d] w fun e w' => e = .returned (.bool (decide (d.f2 < 0))) ∧ Below w.heap.size w w' := by
  unfold aggN
  have hu := Try.underlying40
  go_enter Try.func18, Try.ntmps18
  go_wp2
  go_ret
  exact ⟨rfl, (Below.refl _ _).alloc (Nat.le_refl _) _⟩
set_option maxHeartbeats 1000000 in
theorem mate_not (d : Node) (w : World) : Calls Try.prog 19 #[aggN d] w fun e w' => e = .returned (.bool (d.f6 != 0)) ∧ Below w.heap.size w w' := by
  unfold aggN
  have hu := Try.underlying40
  go_enter Try.func19, Try.ntmps19
  go_wp2
  go_ret
  exact ⟨rfl, (Below.refl _ _).alloc (Nat.le_refl _) _⟩
set_option maxHeartbeats 1000000 in
theorem service_not (d : Node) (w : World) : Calls Try.prog 23 #[aggN d] w fun e w' => e = .returned (.bool (d.f5 != 0)) ∧ Below w.heap.size w w' := by
  unfold aggN
  have hu := Try.underlying40
  go_enter Try.func23, Try.ntmps23
  go_wp2
  go_ret
  exact ⟨rfl, (Below.refl _ _).alloc (Nat.le_refl _) _⟩
set_option maxHeartbeats 1000000 in
theorem window_not (d : Node) (w : World) : Calls Try.prog 22 #[aggN d] w fun e w' => e = .returned (.bool (d.f3 != 0 || d.f4 != 0)) ∧ Below w.heap.size w w' := by
  unfold aggN
  have hu := Try.underlying40
  by_cases h : d.f3 = 0
  · have h1 : (d.f3 != 0) = false := bne_eq_false_iff_eq.2 h
    go_enter Try.func22, Try.ntmps22
    go_wp2
    go_ret
    exact ⟨by simp [h], (Below.refl _ _).alloc (Nat.le_refl _) _⟩
  · have h1 : (d.f3 != 0) = true := bne_iff_ne.2 h
    go_enter Try.func22, Try.ntmps22
    go_wp2
    go_ret
    exact ⟨by simp [h], (Below.refl _ _).alloc (Nat.le_refl _) _⟩

/-- What IndexFunc tells: the first place at which p holds, or -1. -/
def idx (p : Node → Bool) (l : List Node) : Int := if l.any p then (l.findIdx p : Int) else -1

theorem any_take_all {p : Node → Bool} {l : List Node} {k : Nat} (h : ∀ j, j < k → p (P.rd_T40 l j) = false) (hk : l.length ≤ k) : l.any p = false := by
  rw [List.any_eq_false]
  intro x hx
  obtain ⟨i, hi, rfl⟩ := List.getElem_of_mem hx
  have := h i (by omega)
  unfold P.rd_T40 at this
  rw [Int.toNat_natCast, List.getD_eq_getElem?_getD, List.getElem?_eq_getElem hi] at this
  simpa using this
theorem findIdx_at {p : Node → Bool} {l : List Node} {k : Nat} (h : ∀ j, j < k → p (P.rd_T40 l j) = false) (hk : k < l.length) (hp : p (P.rd_T40 l k) = true) : l.any p = true ∧ l.findIdx p = k := by
  have e : ∀ j, (hj : j < l.length) → P.rd_T40 l j = l[j] := fun j hj => by
    unfold P.rd_T40
    rw [Int.toNat_natCast, List.getD_eq_getElem?_getD, List.getElem?_eq_getElem hj]; rfl
  refine ⟨List.any_eq_true.2 ⟨l[k], List.getElem_mem hk, by rw [← e k hk]; exact hp⟩, ?_⟩
  refine (List.findIdx_eq hk).2 ⟨by rw [← e k hk]; exact hp, fun j hj => ?_⟩
  rw [← e j (by omega)]; exact h j hj

set_option maxRecDepth 100000 in
set_option maxHeartbeats 1000000 in
theorem indexFunc (g : Nat) (eg : ∀ args w, (callFunc g args).run Try.prog w = .ok (.enter g args) w) (p : Node → Bool) (hp : ∀ d W, Calls Try.prog g #[aggN d] W fun e w' => e = .returned (.bool (p d)) ∧ Below W.heap.size W w')
    (A : Option Addr) (c : Nat) (l : List Node) (w : World) (hr : Kd.C P.k40 w A l.length l) :
    Calls Try.prog 26 #[.slice A l.length c, .func (.func g) #[] #[]] w fun e w' => e = .returned (.int .i64 (idx p l)) ∧ Below w.heap.size w w' := by
  have hu := Try.underlying40
  have HR := Lib.hid hr
  have Hlen := hr.2.1
  clear hr
  have HP := Lib.hid hp
  clear hp
  go_enter Try.func26, Try.ntmps26
  go_wp2
  go_loopw [8] (fun v wr => ∃ k : Nat, v = .int .i64 k ∧ k ≤ l.length ∧ Aside0 (∀ j, j < k → p (P.rd_T40 l j) = false) ∧ Aside0 (Below w.heap.size w wr)) (fun v wr => l.length - (intOf v).toNat)
  case atStart => exact ⟨0, rfl, Nat.zero_le _, ⟨fun j hj => absurd hj (Nat.not_lt_zero _)⟩, ⟨Below.refl _ _⟩⟩
  case round =>
    obtain ⟨k, rfl, hk, hno, HB⟩ := hrel
    by_cases hlt : k < l.length
    · obtain ⟨ad, e, c0, c1, c2, c3, c4, c5, c6⟩ := P.at_T40 (Kd.C_below HR.out HB.out) k (by omega) (by omega)
      cases e
      rw [Int.toNat_natCast] at c0 c1 c2 c3 c4 c5 c6
      go_wp2_with (fail)
      refine (HP.out (P.rd_T40 l k) _).mono ?_
      rintro e w2 ⟨rfl, hb⟩
      have HB2 := Aside0.mk (HB.out.trans (hb.mono HB.out.size))
      clear hb c0 c1 c2 c3 c4 c5 c6
      cases hpk : p (P.rd_T40 l k) with
      | true =>
        have E := findIdx_at hno.out hlt hpk
        have E := Aside0.mk E
        clear hpk
        go_wp2
        go_ret
        exact ⟨by unfold idx; rw [E.out.1, E.out.2]; rfl, HB2.out⟩
      | false =>
        have Hn := Aside0.mk (show ∀ j, j < k + 1 → p (P.rd_T40 l j) = false from fun j hj => by
          by_cases h : j = k
          · rw [h]; exact hpk
          · exact hno.out j (by omega))
        clear hpk
        go_wp2
        go_roundw
        case rel => exact ⟨k + 1, by go_num, by omega, Hn, HB2⟩
        case measure => simp [intOf]; omega
    · go_wp2
      go_ret
      exact ⟨by unfold idx; rw [any_take_all hno.out (by omega)]; rfl, HB.out⟩

set_option maxHeartbeats 1000000 in
theorem containsFunc (g : Nat) (eg : ∀ args w, (callFunc g args).run Try.prog w = .ok (.enter g args) w) (p : Node → Bool) (hp : ∀ d W, Calls Try.prog g #[aggN d] W fun e w' => e = .returned (.bool (p d)) ∧ Below W.heap.size W w')
    (A : Option Addr) (c : Nat) (l : List Node) (w : World) (hr : Kd.C P.k40 w A l.length l) :
    Calls Try.prog 17 #[.slice A l.length c, .func (.func g) #[] #[]] w fun e w' => e = .returned (.bool (l.any p)) ∧ Below w.heap.size w w' := by
  have HC := Lib.hid (indexFunc g eg p hp A c l w hr)
  clear hp hr
  go_enter Try.func17, Try.ntmps17
  go_wp2_with (fail)
  refine HC.out.mono ?_
  rintro e w2 ⟨rfl, hb⟩
  have HB := Aside0.mk hb
  clear hb HC
  go_wp2
  go_ret
  refine ⟨?_, HB.out⟩
  unfold idx
  cases l.any p <;> simp

set_option maxHeartbeats 1000000 in
/-- Lacks$1: none of the nodes is such a one. -/
theorem none_such (g : Nat) (eg : ∀ args w, (callFunc g args).run Try.prog w = .ok (.enter g args) w) (p : Node → Bool) (hp : ∀ d W, Calls Try.prog g #[aggN d] W fun e w' => e = .returned (.bool (p d)) ∧ Below W.heap.size W w')
    (A : Option Addr) (c b : Nat) (l : List Node) (w : World) (hr : Kd.C P.k40 w A l.length l) (hb : w.cell? ⟨b, 6, none⟩ = some (.slice A l.length c)) :
    Calls Try.prog 16 #[.func (.func g) #[] #[], .pointer (some ⟨b, 0, none⟩)] w fun e w' => e = .returned (.bool (!(l.any p))) ∧ Below w.heap.size w w' := by
  have HC := Lib.hid (containsFunc g eg p hp A c l w hr)
  clear hp hr
  go_enter Try.func16, Try.ntmps16
  go_wp2_with (fail)
  refine HC.out.mono ?_
  rintro e w2 ⟨rfl, hb2⟩
  have HB := Aside0.mk hb2
  clear hb2 HC
  go_wp2
  go_ret
  exact ⟨rfl, HB.out⟩
end LacksWalk
end Go.Proofs.Ytmapllahhpdedaa
