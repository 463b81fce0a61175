/- Whether a plan may be: not too long, and each stop a node's number: the walk, and the word that callers use. -/
import Derived.Test.YtdjkhcmblekeiaaGStops
import Derived.Test.YtdjkhcmblekeiaaPxPlanMany
namespace Go.Proofs.Ytdjkhcmblekeiaa
open Go.RowKit
namespace StopsWalk
open Go.RowKit Go.Shelf Go.Proofs.YtdjkhcmblekeiaaW.PrintWords RangeD AllWalk P
attribute [local go_sem] Oper.semAt_some

theorem upTo_small {rs : List (List Int)} (hz : Small rs) : ∀ i, i ≤ rs.length → (upTo rs i).length ≤ 65536 * i
  | 0, _ => by simp [upTo]
  | i + 1, h => by
    have h1 := upTo_small hz i (by omega)
    have h2 := hz.2 i (by omega)
    rw [upTo_succ, List.length_append, ofRoute_length]
    omega
theorem stops_small {rs : List (List Int)} (hz : Small rs) : (stopsOf rs).length ≤ 4294967296 := by
  have h1 := upTo_small hz rs.length (Nat.le_refl _)
  have h2 := Nat.mul_le_mul_left 65536 hz.1
  unfold stopsOf
  omega
theorem many_loop {rs : List (List Int)} (hz : Small rs) (d : Nat) : ∀ (k i : Nat), i + d = rs.length → d < k → plan_Many.l0 k ((upTo rs i).length : Int) rs (rs.length : Int) (i : Int) = some ((stopsOf rs).length : Int) := by
  induction d with
  | zero =>
    intro k i hi hk
    obtain ⟨k, rfl⟩ : ∃ m, k = m + 1 := ⟨k - 1, by omega⟩
    obtain rfl : i = rs.length := by omega
    simp only [plan_Many.l0]
    rw [if_neg (by omega)]; rfl
  | succ d ih =>
    intro k i hi hk
    obtain ⟨k, rfl⟩ : ∃ m, k = m + 1 := ⟨k - 1, by omega⟩
    simp only [plan_Many.l0]
    have h1 := upTo_small hz i (by omega)
    have h2 := hz.2 i (by omega)
    have h3 := hz.1
    have h4 := Nat.mul_le_mul_left 65536 (show i ≤ 65536 by omega)
    have e1 : wrap64 (((upTo rs i).length : Int) + ((rd_L1 rs (i : Int)).length : Int)) = ((upTo rs (i + 1)).length : Int) := by
      rw [upTo_succ, List.length_append, ofRoute_length]
      unfold wrap64; omega
    have e2 : wrap64 ((i : Int) + 1) = ((i + 1 : Nat) : Int) := by unfold wrap64; omega
    rw [if_pos (by omega), if_pos (by omega), if_pos (by omega), e1, e2]
    exact ih k (i + 1) (by omega) (by omega)
/-- How many stops a plan has. -/
theorem many_tells {rs : List (List Int)} (hz : Small rs) {k : Nat} (hk : rs.length < k) : plan_Many.f k rs = some ((stopsOf rs).length : Int) := by
  have := many_loop hz rs.length k 0 (by omega) hk
  unfold plan_Many.f
  simpa [upTo] using this

def bad (x : Stop) : Prop := x.2 < 0 ∨ 400 ≤ x.2
instance : DecidablePred bad := fun x => inferInstanceAs (Decidable (x.2 < 0 ∨ 400 ≤ x.2))
def allGood (l : List Stop) : Prop := ∀ y ∈ l, ¬ bad y
def someBad (l : List Stop) : Prop := ∃ y ∈ l, bad y
/-- The document's answer. -/
def checkOf (rs : List (List Int)) : Int := if 400 < rs.length ∨ 2000 < (stopsOf rs).length then 2 else if ∃ x ∈ stopsOf rs, bad x then 1 else 0

set_option maxRecDepth 100000 in
set_option maxHeartbeats 4000000 in
theorem check_in (A : Option Addr) (cap : Nat) (rs : List (List Int)) (w : World) (hz : Small rs) (hC : Kd.C (Kd.slice 3 (Kd.int .i64)) w A rs.length rs) (hcap : rs.length ≤ cap) :
    CallsIn Fence.wide 9 Try.prog 17 #[.agg #[.slice A rs.length cap]] w fun e W' => e = .returned (.int .i64 (checkOf rs)) ∧ Below w.heap.size w W' := by
  refine callsIn_of_wp_marks Try.func17 rfl trivial ?_ rfl
  simp only [Try.ntmps17, List.size_toArray, List.length_cons, List.length_nil, Nat.reduceAdd, Nat.reduceSub, Array.replicate_succ, Array.replicate_zero, List.push_toArray, List.append_toArray, List.nil_append, List.cons_append]
  have bP0 := (Boxed.new w 24 (.slice A rs.length cap)).alloc (.cells #[.int .i64 0] 40)
  have bE0 := Boxed.new (w.alloc (.cells #[.slice A rs.length cap] 24)) 40 (.int .i64 0)
  have hB0 : Below w.heap.size w ((w.alloc (.cells #[.slice A rs.length cap] 24)).alloc (.cells #[.int .i64 0] 40)) := ((Below.refl _ w).alloc (Nat.le_refl _) _).alloc (by simp) _
  simp only [World.size_alloc] at bE0
  have cP := bP0.cell
  by_cases h4 : 400 < rs.length
  · have q4 : decide (400 < (rs.length : Int)) = true := decide_eq_true (by omega)
    have c0 := bE0.cell
    have f0 := bE0.frozen
    gi_wp2
    refine ⟨trivial, ?_⟩
    gi_wp2
    refine ⟨.int .i64 2, by simp [results, Try.f17, go_sem], by rw [checkOf, if_pos (.inl h4)], ((Below.refl _ w).alloc (Nat.le_refl _) _).alloc (by simp) _⟩
  · have q4 : decide (400 < (rs.length : Int)) = false := decide_eq_false (by omega)
    have hm := many_tells hz (show rs.length < rs.length + 1 by omega)
    have hC1 : Kd.C (Kd.slice 3 (Kd.int .i64)) ((w.alloc (.cells #[.slice A rs.length cap] 24)).alloc (.cells #[.int .i64 0] 40)) A rs.length rs := Kd.C_below hC hB0
    have cE := bE0.cell
    have fE := bE0.frozen
    by_cases h5 : 2000 < (stopsOf rs).length
    · have q5 : decide (2000 < ((stopsOf rs).length : Int)) = true := decide_eq_true (by omega)
      gi_wp2_with (refine ⟨trivial, ?_⟩; gi_at_call 16; refine (callsIn_wide.2 (plan_Many.calls (rs.length + 1) A cap rs _ _ hC1 hcap hm)).mono ?_; rintro e w1 ⟨rfl, hb⟩; have bP1 : Boxed w1 w.heap.size 24 (.slice A rs.length cap) := (hb.block _ bP0.lt).trans bP0; have bE1 : Boxed w1 (w.heap.size + 1) 40 (.int .i64 0) := (hb.block _ bE0.lt).trans bE0; have hB1 : Below w.heap.size w w1 := hB0.trans (hb.mono hB0.size); clear bP0 bE0 cP cE fE hC1 hb hB0; have cP := bP1.cell; have cE := bE1.cell; have fE := bE1.frozen)
      have g0 := (bE1.set (.int .i64 2)).cell
      refine ⟨.int .i64 2, by simp [results, Try.f17, go_sem, g0], by rw [checkOf, if_pos (.inr h5)], hB1.setCell (p := ⟨w.heap.size + 1, 0, none⟩) (by simp) _⟩
    · have q5 : decide (2000 < ((stopsOf rs).length : Int)) = false := decide_eq_false (by omega)
      gi_wp2_with (first | (refine ⟨trivial, ?_⟩; gi_at_call 16; refine (callsIn_wide.2 (plan_Many.calls (rs.length + 1) A cap rs _ _ hC1 hcap hm)).mono ?_; rintro e w1 ⟨rfl, hb⟩; have bP1 : Boxed w1 w.heap.size 24 (.slice A rs.length cap) := (hb.block _ bP0.lt).trans bP0; have bE1 : Boxed w1 (w.heap.size + 1) 40 (.int .i64 0) := (hb.block _ bE0.lt).trans bE0; have hB1 : Below w.heap.size w w1 := hB0.trans (hb.mono hB0.size); clear bP0 bE0 cP cE fE hC1 hb hB0; have cP := bP1.cell; have cE := bE1.cell; have fE := bE1.frozen) | (refine ⟨trivial, ?_⟩; gi_at_call 24; refine (stops_in _ _ _ _ _).mono ?_; rintro e w' ⟨rfl, rfl⟩))
      have bE2 := bE1.alloc (.cells #[.slice A rs.length cap] 24)
      have bQ := Boxed.new w1 24 (.slice A rs.length cap)
      have hB2 := hB1.alloc hB1.size (.cells #[.slice A rs.length cap] 24)
      have hlt := bE1.lt
      have hsz : (w1.alloc (.cells #[.slice A rs.length cap] 24)).heap.size = w1.heap.size + 1 := by simp
      clear cP cE fE bE1 bP1 hB1 hm q4 q5
      generalize w1.alloc (.cells #[.slice A rs.length cap] 24) = V at *
      have hV := hB2.size
      have hV1 : w.heap.size + 1 < V.heap.size := by omega
      clear hsz
      refine wpIn_rangeFunc_D (gf := 28) (lb := #[.pointer (some ⟨w1.heap.size, 0, none⟩)]) rfl (enters_of Try.func28 (by kernel_rfl) rfl)
        (stops_seq 8 (by omega) _ A cap rs w V hz hC hB2 bQ) (Below.refl _ _) hV (fun _ => rfl)
        (fun pre W' => allGood pre ∧ Boxed W' (w.heap.size + 1) 40 (.int .i64 0) ∧ Below w.heap.size w W')
        (fun pre W' => someBad pre ∧ Boxed W' (w.heap.size + 1) 40 (.int .i64 1) ∧ Below w.heap.size w W')
        (OwnFrom.and (ownFrom_pure _ _) (OwnFrom.and (Own.from (boxed_own _ _ _) _) (ownFrom_below (Nat.le_refl _) hV)))
        (OwnFrom.and (ownFrom_pure _ _) (OwnFrom.and (Own.from (boxed_own _ _ _) _) (ownFrom_below (Nat.le_refl _) hV)))
        ⟨fun y h => (by cases h), bE2, hB2⟩
        (fun pre x a' W' => a' = { tmps := #[.agg #[.slice A rs.length cap], .pointer (some ⟨w.heap.size, 0, none⟩), .pointer (some ⟨w.heap.size + 1, 0, none⟩), undef, .int .i64 x.2, .pointer (some ⟨w.heap.size, 0, none⟩), .slice A rs.length cap, .int .i64 (rs.length : Int), .bool false, .bool false, .agg #[.slice A rs.length cap], .int .i64 ((stopsOf rs).length : Int), .bool false, .bool false, .agg #[.slice A rs.length cap], .func (.func 28) #[] #[.pointer (some ⟨w1.heap.size, 0, none⟩)], .agg #[.int .i64 (x.1.1 : Int), .int .i64 (x.1.2 : Int)], .int .i64 x.2, undef, undef, undef, undef, undef, undef], defers := [] } ∧
          allGood pre ∧ Boxed W' (w.heap.size + 1) 40 (.int .i64 0) ∧ Below w.heap.size w W')
        (fun pre x a' => OwnFrom.and (ownFrom_pure _ _) (OwnFrom.and (ownFrom_pure _ _) (OwnFrom.and (Own.from (boxed_own _ _ _) _) (ownFrom_below (Nat.le_refl _) hV))))
        ?assign ?body ?done ?stop
      case assign =>
        rintro l pre x W' K hI hK
        have hK' := hK _ W' (Below.refl _ _) (Above.refl _ _) ⟨rfl, hI⟩
        clear hK hI
        simp only [encS]
        gi_wp2
        exact hK'
      case body =>
        rintro l pre x a' W' hl ⟨rfl, hp, bE3, hB3⟩ hlen
        have cE := bE3.cell
        have fE := bE3.frozen
        have good : ¬ bad x → allGood (pre ++ [x]) := fun h y hy => by
          rcases List.mem_append.1 hy with hy | hy
          · exact hp y hy
          · simp at hy; subst hy; exact h
        have fin : bad x → Above V.heap.size W' (W'.setCell ⟨w.heap.size + 1, 0, none⟩ (.int .i64 1)) ∧ someBad (pre ++ [x]) ∧ Boxed (W'.setCell ⟨w.heap.size + 1, 0, none⟩ (.int .i64 1)) (w.heap.size + 1) 40 (.int .i64 1) ∧ Below w.heap.size w (W'.setCell ⟨w.heap.size + 1, 0, none⟩ (.int .i64 1)) := fun h =>
          ⟨(Above.refl _ W').setCell (p := ⟨_, 0, none⟩) (show w.heap.size + 1 < V.heap.size by omega) _, ⟨x, by simp, h⟩, bE3.set _, hB3.setCell (p := ⟨_, 0, none⟩) (show w.heap.size ≤ w.heap.size + 1 by omega) _⟩
        by_cases c0 : x.2 < 0
        · have d0 : decide (x.2 < 0) = true := decide_eq_true c0
          have F := Lib.hid (fin (.inl c0))
          clear fin good
          gi_wp2
          exact F.out
        · have d0 : decide (x.2 < 0) = false := decide_eq_false c0
          by_cases c1 : 400 ≤ x.2
          · have d1 : decide (400 ≤ x.2) = true := decide_eq_true c1
            have F := Lib.hid (fin (.inr c1))
            clear fin good
            gi_wp2
            exact F.out
          · have d1 : decide (400 ≤ x.2) = false := decide_eq_false c1
            have F := Lib.hid (good (fun h => h.elim c0 c1))
            clear fin good
            gi_wp2
            exact ⟨Above.refl _ _, Below.refl _ _, F.out, bE3, hB3⟩
      case done =>
        rintro D ys W' hD rfl ⟨hp, bE3, hB3⟩ hDd
        have cE := bE3.cell
        have fE := bE3.frozen
        have hDn : (W'.setCell ⟨w.heap.size + 1, 0, none⟩ (.int .i64 0)).heap[D]? = some (.deferred (some [])) :=
          (Above.refl D W').setCell (p := ⟨_, 0, none⟩) (show w.heap.size + 1 < D by omega) (.int .i64 0) D _ (Nat.le_refl _) hDd
        have g0 := ((bE3.set (.int .i64 0)).kept (grownBy_putObj' _ D (.deferred none)) (fun e => by have := Option.some.inj e; omega)).cell
        have hBe := (hB3.setCell (p := ⟨_, 0, none⟩) (show w.heap.size ≤ w.heap.size + 1 by omega) (.int .i64 0)).trans (belowK_b (w := w) (Nat.le_refl _) _ D _ (.deferred none) (by omega) hDn rfl rfl)
        have hr : checkOf rs = 0 := by rw [checkOf, if_neg (by omega), if_neg (fun ⟨y, hy, hb⟩ => hp y hy hb)]
        gi_wp2
        refine ⟨by simp, .inl ⟨_, _, rfl, run_takeDeferred hDn, .int .i64 0, ?_, by rw [hr], hBe⟩⟩
        simp [results, Try.f17, go_sem, g0]
      case stop =>
        rintro D pre W' hD hpre ⟨⟨x, hx, hb⟩, bE3, hB3⟩ hDd
        have g0 := (bE3.kept (grownBy_putObj' _ D (.deferred none)) (fun e => by have := Option.some.inj e; omega)).cell
        have hBe := hB3.trans (belowK_b (w := w) (Nat.le_refl _) W' D _ (.deferred none) (by omega) hDd rfl rfl)
        have hr : checkOf rs = 1 := by rw [checkOf, if_neg (by omega), if_pos ⟨x, hpre.subset hx, hb⟩]
        gi_wp2
        refine ⟨by simp, .inl ⟨_, _, rfl, run_takeDeferred hDd, .int .i64 1, ?_, by rw [hr], hBe⟩⟩
        simp [results, Try.f17, go_sem, g0]
end StopsWalk
open StopsWalk Go.Proofs.YtdjkhcmblekeiaaW.PrintWords
/-- What plan.Check computes. -/
def plan_Check.f (l0_0 : List (List Int)) : Option Int := if smallB l0_0 = true then some (checkOf l0_0) else none
theorem plan_Check.calls (A0_0 : Option Addr) (c0_0 : Nat) (l0_0 : List (List Int)) (r : Int) (w : World) (hr0_0 : Kd.C (Kd.slice 3 (Kd.int .i64)) w A0_0 l0_0.length l0_0) (hc0_0 : l0_0.length ≤ c0_0) (h : plan_Check.f l0_0 = some r) :
    Calls Try.prog 17 #[.agg #[.slice A0_0 l0_0.length c0_0]] w fun e w' => e = .returned (.int .i64 r) ∧ Below w.heap.size w w' := by
  unfold plan_Check.f at h
  split at h
  · rename_i hs
    have h := Option.some.inj h
    subst h
    exact callsIn_wide.1 (check_in A0_0 c0_0 l0_0 w (small_of hs) hr0_0 hc0_0)
  · cases h
attribute [irreducible] plan_Check.f
@[go_sem] theorem field_plan (A : Option Addr) (n c : Nat) (w : World) : (Instr.field 24 (.agg #[.slice A n c]) 0).run Try.prog w = .ok (.slice A n c) w := by
  simp [Instr.field, run_underlying Try.underlying24, part, asAgg, go_sem]
end Go.Proofs.Ytdjkhcmblekeiaa
