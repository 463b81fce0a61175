/- Whether two plans have the same routes: slices.EqualFunc over slices.Equal: the walks, and the word that callers use. -/
import Derived.Test.YtdjkhcmblekeiaaGStops
import Derived.Test.YtdjkhcmblekeiaaPxSlicesEqualintint
namespace Go.Proofs.Ytdjkhcmblekeiaa
open Go.RowKit
namespace StopsWalk
open Go.RowKit Go.Shelf Go.Proofs.YtdjkhcmblekeiaaW.PrintWords P

theorem equal_loop {l0 l1 : List Int} (hl : l0.length = l1.length) (hz : l0.length ≤ 65536) (d : Nat) : ∀ (k i : Nat), i + d = l0.length → d < k → l0.take i = l1.take i → slices_Equal_int_int.l0 k l0 l1 (l0.length : Int) (i : Int) = some (l0 == l1) := by
  induction d with
  | zero =>
    intro k i hi hk he
    obtain ⟨k, rfl⟩ : ∃ m, k = m + 1 := ⟨k - 1, by omega⟩
    simp only [slices_Equal_int_int.l0]
    rw [if_neg (by omega)]
    rw [List.take_of_length_le (by omega), List.take_of_length_le (by omega)] at he
    rw [he]; simp
  | succ d ih =>
    intro k i hi hk he
    obtain ⟨k, rfl⟩ : ∃ m, k = m + 1 := ⟨k - 1, by omega⟩
    have h0 : i < l0.length := by omega
    have h1 : i < l1.length := by omega
    have r0 : rd l0 (i : Int) = l0[i] := by simp [rd, h0]
    have r1 : rd l1 (i : Int) = l1[i] := by simp [rd, h1]
    have e2 : wrap64 ((i : Int) + 1) = ((i + 1 : Nat) : Int) := by unfold wrap64; omega
    simp only [slices_Equal_int_int.l0]
    rw [if_pos (by omega), if_pos (by omega), if_pos (by omega), if_pos (by omega), r0, r1, e2]
    by_cases hx : l0[i] = l1[i]
    · rw [if_pos hx]
      exact ih k (i + 1) (by omega) (by omega) (by rw [List.take_succ_eq_append_getElem h0, List.take_succ_eq_append_getElem h1, he, hx])
    · rw [if_neg hx]
      have : l0 ≠ l1 := fun e => hx (by subst e; rfl)
      rw [beq_eq_false_iff_ne.2 this]
theorem equal_tells {l0 l1 : List Int} (hz : l0.length ≤ 65536) {k : Nat} (hk : l0.length < k) : slices_Equal_int_int.f k l0 l1 = some (l0 == l1) := by
  unfold slices_Equal_int_int.f
  by_cases hl : l0.length = l1.length
  · have := equal_loop hl hz l0.length k 0 (by omega) hk rfl
    simp [hl] at this ⊢
    exact this
  · have : l0 ≠ l1 := fun e => hl (by rw [e])
    rw [beq_eq_false_iff_ne.2 this, if_neg (by omega)]
set_option maxHeartbeats 4000000 in
set_option maxRecDepth 100000 in
theorem equalFunc (A0 : Option Addr) (c0 : Nat) (l0 : List (List Int)) (A1 : Option Addr) (c1 : Nat) (l1 : List (List Int)) (w : World) (hz : Small l0) (h0 : Kd.C (Kd.slice 3 (Kd.int .i64)) w A0 l0.length l0) (h1 : Kd.C (Kd.slice 3 (Kd.int .i64)) w A1 l1.length l1) :
    Calls Try.prog 26 #[.slice A0 l0.length c0, .slice A1 l1.length c1, .func (.func 27) #[] #[]] w fun e w' => e = .returned (.bool (l0 == l1)) ∧ Below w.heap.size w w' := by
  go_enter Try.func26, Try.ntmps26
  by_cases hl : l0.length = l1.length
  · have b0 : ((l0.length : Int) == (l1.length : Int)) = true := by simp [hl]
    have b1 : ((l0.length : Int) != (l1.length : Int)) = false := by simp [hl]
    have HL := Aside0.mk hl
    clear hl
    go_wp2
    go_loopw [17] (fun v wr => ∃ i : Nat, v = .int .i64 (i : Int) ∧ i ≤ l0.length ∧ l0.take i = l1.take i ∧ Below w.heap.size w wr) (fun v _ => l0.length - (intOf v).toNat)
    case atStart => exact ⟨0, rfl, Nat.zero_le _, rfl, Below.refl _ _⟩
    case round =>
      obtain ⟨i, rfl, hi, he, hB⟩ := hrel
      clear b0 b1
      by_cases hlt : i < l0.length
      · obtain ⟨ad0, A0', d0, rfl, x0, y0, z0⟩ := at_L1 h0 (i : Int) (by omega) (by omega)
        obtain ⟨ad1, A1', d1, rfl, x1, y1, z1⟩ := at_L1 h1 (i : Int) (by omega) (by have := HL.out; omega)
        have x0' := (hB.cell (World.block_lt_of_cell? w _ x0)).trans x0
        have x1' := (hB.cell (World.block_lt_of_cell? w _ x1)).trans x1
        clear x0 x1
        rw [Int.toNat_natCast] at x0' x1'
        have hzi := hz.2 i hlt
        have q0 : (i : Int) < (l0.length : Int) := by omega
        have hq1 : i < l1.length := by have := HL.out; omega
        have q1 : (i : Int) < (l1.length : Int) := by omega
        have E := equal_tells (l0 := rd_L1 l0 (i : Int)) (l1 := rd_L1 l1 (i : Int)) hzi (Nat.lt_succ_self _)
        have e0 : rd_L1 l0 (i : Int) = l0[i] := by unfold rd_L1; simp [hlt]
        have e1 : rd_L1 l1 (i : Int) = l1[i] := by unfold rd_L1; simp [hq1]
        have hT0 := List.take_succ_eq_append_getElem hlt
        have hT1 := List.take_succ_eq_append_getElem hq1
        have ew : wrap64 ((i : Int) + 1) = ((i + 1 : Nat) : Int) := by unfold wrap64; have := hz.1; omega
        clear hz hzi
        have Y0 := Aside0.mk e0
        have Y1 := Aside0.mk e1
        have T0 := Aside0.mk hT0
        have T1 := Aside0.mk hT1
        clear e0 e1 hT0 hT1
        by_cases hx : rd_L1 l0 (i : Int) = rd_L1 l1 (i : Int)
        · have hb : (rd_L1 l0 (i : Int) == rd_L1 l1 (i : Int)) = true := by simp [hx]
          rw [hb] at E
          have X := Aside0.mk hx
          clear hb hx
          go_wp2_with (go_at_call 27; refine (slices_Equal_int_int.calls _ A0' d0 _ A1' d1 _ true _ (Kd.C_below z0 hB) y0 (Kd.C_below z1 hB) y1 E).mono ?_; rintro e w' ⟨rfl, ⟨nd, rfl⟩⟩)
          rw [ew]
          go_roundw
          case rel => exact ⟨i + 1, rfl, hlt, by rw [T0.out, T1.out, he, ← Y0.out, ← Y1.out, X.out], pw_below_drewN hB nd⟩
          case measure => exact meas_lt hlt
        · have hb : (rd_L1 l0 (i : Int) == rd_L1 l1 (i : Int)) = false := beq_eq_false_iff_ne.2 hx
          rw [hb] at E
          clear hb
          have hne : (l0 == l1) = false := beq_eq_false_iff_ne.2 (fun e => hx (by rw [e]))
          go_wp2_with (go_at_call 27; refine (slices_Equal_int_int.calls _ A0' d0 _ A1' d1 _ false _ (Kd.C_below z0 hB) y0 (Kd.C_below z1 hB) y1 E).mono ?_; rintro e w' ⟨rfl, ⟨nd, rfl⟩⟩)
          go_ret
          exact ⟨congrArg (fun b => Ending.returned (Value.bool b)) hne.symm, pw_below_drewN hB nd⟩
      · obtain rfl : i = l0.length := by omega
        have heq : (l0 == l1) = true := by
          rw [List.take_of_length_le (Nat.le_refl _), List.take_of_length_le (by have := HL.out; omega)] at he
          rw [he]; simp
        go_wp2
        go_ret
        exact ⟨congrArg (fun b => Ending.returned (Value.bool b)) heq.symm, hB⟩
  · have b0 : ((l0.length : Int) == (l1.length : Int)) = false := by simp; omega
    have b1 : ((l0.length : Int) != (l1.length : Int)) = true := by simp; omega
    have hne : (l0 == l1) = false := beq_eq_false_iff_ne.2 (fun e => hl (by rw [e]))
    go_wp2
    go_ret
    exact ⟨congrArg (fun b => Ending.returned (Value.bool b)) hne.symm, Below.refl _ _⟩
set_option maxHeartbeats 4000000 in
set_option maxRecDepth 100000 in
theorem same_walk (A0 : Option Addr) (c0 : Nat) (l0 : List (List Int)) (A1 : Option Addr) (c1 : Nat) (l1 : List (List Int)) (w : World) (hz : Small l0) (h0 : Kd.C (Kd.slice 3 (Kd.int .i64)) w A0 l0.length l0) (h1 : Kd.C (Kd.slice 3 (Kd.int .i64)) w A1 l1.length l1) :
    Calls Try.prog 23 #[.agg #[.slice A0 l0.length c0], .agg #[.slice A1 l1.length c1]] w fun e w' => e = .returned (.bool (l0 == l1)) ∧ Below w.heap.size w w' := by
  have hB : Below w.heap.size w ((w.alloc (.cells #[.slice A0 l0.length c0] 24)).alloc (.cells #[.slice A1 l1.length c1] 24)) := ((Below.refl _ w).alloc (Nat.le_refl _) _).alloc (by simp) _
  have hc0 := ((Boxed.new w 24 (.slice A0 l0.length c0)).alloc (.cells #[.slice A1 l1.length c1] 24)).cell
  go_enter Try.func23, Try.ntmps23
  go_wp2_with (go_at_call 26; refine (equalFunc A0 c0 l0 A1 c1 l1 _ hz (Kd.C_below h0 hB) (Kd.C_below h1 hB)).mono ?_; rintro e w' ⟨rfl, hb⟩)
  go_ret
  exact ⟨rfl, hB.trans (hb.mono hB.size)⟩
end StopsWalk
open StopsWalk Go.Proofs.YtdjkhcmblekeiaaW.PrintWords
/-- What plan.Same computes. -/
def plan_Same.f (l0_0 : List (List Int)) (l1_0 : List (List Int)) : Option Bool := if smallB l0_0 = true then some (l0_0 == l1_0) else none
theorem plan_Same.calls (A0_0 : Option Addr) (c0_0 : Nat) (l0_0 : List (List Int)) (A1_0 : Option Addr) (c1_0 : Nat) (l1_0 : List (List Int)) (r : Bool) (w : World) (hr0_0 : Kd.C (Kd.slice 3 (Kd.int .i64)) w A0_0 l0_0.length l0_0) (_ : l0_0.length ≤ c0_0) (hr1_0 : Kd.C (Kd.slice 3 (Kd.int .i64)) w A1_0 l1_0.length l1_0) (_ : l1_0.length ≤ c1_0) (h : plan_Same.f l0_0 l1_0 = some r) :
    Calls Try.prog 23 #[.agg #[.slice A0_0 l0_0.length c0_0], .agg #[.slice A1_0 l1_0.length c1_0]] w fun e w' => e = .returned (.bool r) ∧ Below w.heap.size w w' := by
  unfold plan_Same.f at h
  split at h
  · rename_i hs
    have h := Option.some.inj h
    subst h
    exact same_walk A0_0 c0_0 l0_0 A1_0 c1_0 l1_0 w (small_of hs) hr0_0 hr1_0
  · cases h
attribute [irreducible] plan_Same.f
end Go.Proofs.Ytdjkhcmblekeiaa
