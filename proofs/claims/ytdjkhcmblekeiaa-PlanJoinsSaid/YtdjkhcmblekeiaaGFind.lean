/- Where a stop of a plan is: the first place, or none: the walk, and the word that callers use. -/
import Derived.Test.YtdjkhcmblekeiaaGStops
namespace Go.Proofs.Ytdjkhcmblekeiaa
open Go.RowKit
namespace StopsWalk
open Go.RowKit Go.Shelf Go.Proofs.YtdjkhcmblekeiaaW.PrintWords RangeD AllWalk P
attribute [local go_sem] Oper.semAt_some

theorem find_pre {l pre : List Stop} {s : Int} {x : Stop} (h : pre ++ [x] <+: l) (hn : ∀ y ∈ pre, y.2 ≠ s) (hx : x.2 = s) : l.find? (fun y => y.2 == s) = some x := by
  obtain ⟨t, rfl⟩ := h
  rw [List.append_assoc, List.find?_append, List.find?_eq_none.2 (by simpa using hn)]
  simp [hx]
def foundAt (o : Option Stop) : Value := match o with
  | some x => .tuple #[.int .i64 (x.1.1 : Int), .int .i64 (x.1.2 : Int), .bool true]
  | none => .tuple #[.int .i64 0, .int .i64 0, .bool false]

set_option maxRecDepth 100000 in
set_option maxHeartbeats 4000000 in
theorem find_in (A : Option Addr) (cap : Nat) (rs : List (List Int)) (s : Int) (w : World) (hz : Small rs) (hC : Kd.C (Kd.slice 3 (Kd.int .i64)) w A rs.length rs) :
    CallsIn Fence.wide 9 Try.prog 10 #[.agg #[.slice A rs.length cap], .int .i64 s] w fun e W' =>
      e = .returned (foundAt ((stopsOf rs).find? (fun y => y.2 == s))) ∧ Below w.heap.size w W' := by
  refine callsIn_of_wp_marks Try.func10 rfl trivial ?_ rfl
  simp only [Try.ntmps10, List.size_toArray, List.length_cons, List.length_nil, Nat.reduceAdd, Nat.reduceSub, Array.replicate_succ, Array.replicate_zero, List.push_toArray, List.append_toArray, List.nil_append, List.cons_append]
  gi_wp2_with (refine ⟨trivial, ?_⟩; gi_at_call 24; refine (stops_in _ _ _ _ _).mono ?_; rintro e w' ⟨rfl, rfl⟩)
  have bP := Boxed.new ((((w.alloc (.cells #[.slice A rs.length cap] 24)).alloc (.cells #[.int .i64 s] 3)).alloc (.cells #[.int .i64 0] 3)).alloc (.cells #[.int .i64 0] 3) |>.alloc (.cells #[.bool false] 4)) 24 (.slice A rs.length cap)
  have bS := (((Boxed.new (w.alloc (.cells #[.slice A rs.length cap] 24)) 3 (.int .i64 s)).alloc (.cells #[.int .i64 0] 3)).alloc (.cells #[.int .i64 0] 3) |>.alloc (.cells #[.bool false] 4)).alloc (.cells #[.slice A rs.length cap] 24)
  have b4 := ((Boxed.new ((w.alloc (.cells #[.slice A rs.length cap] 24)).alloc (.cells #[.int .i64 s] 3)) 3 (.int .i64 0)).alloc (.cells #[.int .i64 0] 3) |>.alloc (.cells #[.bool false] 4)).alloc (.cells #[.slice A rs.length cap] 24)
  have b5 := (Boxed.new (((w.alloc (.cells #[.slice A rs.length cap] 24)).alloc (.cells #[.int .i64 s] 3)).alloc (.cells #[.int .i64 0] 3)) 3 (.int .i64 0) |>.alloc (.cells #[.bool false] 4)).alloc (.cells #[.slice A rs.length cap] 24)
  have b6 := (Boxed.new ((((w.alloc (.cells #[.slice A rs.length cap] 24)).alloc (.cells #[.int .i64 s] 3)).alloc (.cells #[.int .i64 0] 3)).alloc (.cells #[.int .i64 0] 3)) 4 (.bool false)).alloc (.cells #[.slice A rs.length cap] 24)
  have hB0 : Below w.heap.size w ((((((w.alloc (.cells #[.slice A rs.length cap] 24)).alloc (.cells #[.int .i64 s] 3)).alloc (.cells #[.int .i64 0] 3)).alloc (.cells #[.int .i64 0] 3)).alloc (.cells #[.bool false] 4)).alloc (.cells #[.slice A rs.length cap] 24)) := by
    repeat (first | exact Below.refl _ _ | refine Below.alloc ?_ (by first | exact Nat.le_refl _ | (simp only [World.size_alloc]; omega)) _)
  have hsz : ((((((w.alloc (.cells #[.slice A rs.length cap] 24)).alloc (.cells #[.int .i64 s] 3)).alloc (.cells #[.int .i64 0] 3)).alloc (.cells #[.int .i64 0] 3)).alloc (.cells #[.bool false] 4)).alloc (.cells #[.slice A rs.length cap] 24)).heap.size = w.heap.size + 6 := by simp
  simp only [World.size_alloc] at bP bS b4 b5 b6
  generalize ((((((w.alloc (.cells #[.slice A rs.length cap] 24)).alloc (.cells #[.int .i64 s] 3)).alloc (.cells #[.int .i64 0] 3)).alloc (.cells #[.int .i64 0] 3)).alloc (.cells #[.bool false] 4)).alloc (.cells #[.slice A rs.length cap] 24)) = V at *
  have hV : w.heap.size ≤ V.heap.size := by omega
  refine wpIn_rangeFunc_D (gf := 28) (lb := #[.pointer (some ⟨w.heap.size + 1 + 1 + 1 + 1 + 1, 0, none⟩)]) rfl (enters_of Try.func28 (by kernel_rfl) rfl)
    (stops_seq 8 (by omega) _ A cap rs w V hz hC hB0 bP) (Below.refl _ _) hV (fun _ => rfl)
    (fun pre W' => (∀ y ∈ pre, y.2 ≠ s) ∧ (Boxed W' (w.heap.size + 1) 3 (.int .i64 s) ∧ Boxed W' (w.heap.size + 1 + 1) 3 (.int .i64 0) ∧ Boxed W' (w.heap.size + 1 + 1 + 1) 3 (.int .i64 0) ∧ Boxed W' (w.heap.size + 1 + 1 + 1 + 1) 4 (.bool false)) ∧ Below w.heap.size w W')
    (fun pre W' => ∃ pre' x, (pre = pre' ++ [x] ∧ (∀ y ∈ pre', y.2 ≠ s) ∧ x.2 = s) ∧ (Boxed W' (w.heap.size + 1 + 1) 3 (.int .i64 (x.1.1 : Int)) ∧ Boxed W' (w.heap.size + 1 + 1 + 1) 3 (.int .i64 (x.1.2 : Int)) ∧ Boxed W' (w.heap.size + 1 + 1 + 1 + 1) 4 (.bool true)) ∧ Below w.heap.size w W')
    (OwnFrom.and (ownFrom_pure _ _) (OwnFrom.and (OwnFrom.and (Own.from (boxed_own _ _ _) _) (OwnFrom.and (Own.from (boxed_own _ _ _) _) (OwnFrom.and (Own.from (boxed_own _ _ _) _) (Own.from (boxed_own _ _ _) _)))) (ownFrom_below (Nat.le_refl _) hV)))
    (fun pre X Y row ⟨pre', x, h1, h2, h3⟩ hg hr => ⟨pre', x, h1, OwnFrom.and (B := V.heap.size) (Own.from (boxed_own _ _ (fun (_ : Unit) => Value.int .i64 (x.1.1 : Int))) _) (OwnFrom.and (Own.from (boxed_own _ _ (fun (_ : Unit) => Value.int .i64 (x.1.2 : Int))) _) (Own.from (boxed_own _ _ (fun (_ : Unit) => Value.bool true)) _)) () X Y row h2 hg hr, ownFrom_below (β := Unit) (B := V.heap.size) (Nat.le_refl _) hV () X Y row h3 hg hr⟩)
    ⟨by simp, ⟨bS, b4, b5, b6⟩, hB0⟩
    (fun pre x a' W' => ∃ Bx, w.heap.size + 1 + 1 + 1 + 1 < Bx ∧ W'.heap[Bx]? = some (.cells #[.int .i64 (x.1.1 : Int), .int .i64 (x.1.2 : Int)] 53 (0, 0)) ∧
      a' = { tmps := #[.agg #[.slice A rs.length cap], .int .i64 s, .pointer (some ⟨w.heap.size, 0, none⟩), .pointer (some ⟨w.heap.size + 1, 0, none⟩), .pointer (some ⟨w.heap.size + 1 + 1, 0, none⟩), .pointer (some ⟨w.heap.size + 1 + 1 + 1, 0, none⟩), .pointer (some ⟨w.heap.size + 1 + 1 + 1 + 1, 0, none⟩), .pointer (some ⟨Bx, 0, none⟩), .int .i64 x.2, .agg #[.slice A rs.length cap], .func (.func 28) #[] #[.pointer (some ⟨w.heap.size + 1 + 1 + 1 + 1 + 1, 0, none⟩)], .agg #[.int .i64 (x.1.1 : Int), .int .i64 (x.1.2 : Int)], .int .i64 x.2, undef, undef, undef, undef, undef, undef, undef], defers := [] } ∧
      (∀ y ∈ pre, y.2 ≠ s) ∧ (Boxed W' (w.heap.size + 1) 3 (.int .i64 s) ∧ Boxed W' (w.heap.size + 1 + 1) 3 (.int .i64 0) ∧ Boxed W' (w.heap.size + 1 + 1 + 1) 3 (.int .i64 0) ∧ Boxed W' (w.heap.size + 1 + 1 + 1 + 1) 4 (.bool false)) ∧ Below w.heap.size w W')
    (fun pre x a' _ X Y row hs hg hr => by
      obtain ⟨Bx, e1, e2, e3, e4, e5, e6⟩ := hs
      refine ⟨Bx, e1, (hg.block Bx (Array.getElem?_eq_some_iff.1 e2).1 (fun e => ?_)).trans e2, e3, e4, OwnFrom.and (B := V.heap.size) (Own.from (boxed_own _ _ (fun (_ : Unit) => Value.int .i64 s)) _) (OwnFrom.and (Own.from (boxed_own _ _ (fun (_ : Unit) => Value.int .i64 0)) _) (OwnFrom.and (Own.from (boxed_own _ _ (fun (_ : Unit) => Value.int .i64 0)) _) (Own.from (boxed_own _ _ (fun (_ : Unit) => Value.bool false)) _))) () X Y row e5 hg hr, ownFrom_below (β := Unit) (B := V.heap.size) (Nat.le_refl _) hV () X Y row e6 hg hr⟩
      obtain ⟨_, o, ho, hc⟩ := hr Bx e.symm
      rw [e2] at ho; cases ho; cases hc)
    ?assign ?body ?done ?stop
  case assign =>
    rintro l pre x W' K ⟨hp, ⟨bS1, b41, b51, b61⟩, hB1⟩ hK
    have hK' := hK _ (W'.alloc (.cells #[.int .i64 (x.1.1 : Int), .int .i64 (x.1.2 : Int)] 53)) ((Below.refl _ W').alloc hB1.size _) ((Above.refl _ W').alloc _) ⟨W'.heap.size, b61.lt, World.alloc_heap_new W' _, rfl, hp, ⟨bS1.alloc _, b41.alloc _, b51.alloc _, b61.alloc _⟩, hB1.alloc hB1.size _⟩
    clear hK
    simp only [encS]
    gi_wp2
    exact hK'
  case body =>
    rintro l pre x a' W' hl ⟨Bx, e1, e2, rfl, hp, ⟨bS1, b41, b51, b61⟩, hB1⟩ hlen
    have cS := bS1.cell
    gi_wp2
    · have hx : x.2 = s := eq_of_beq (by assumption)
      have cx0 : W'.cell? ⟨Bx, 0, none⟩ = some (.int .i64 (x.1.1 : Int)) := by simp [World.cell?, e2]
      have cx1 : W'.cell? ⟨Bx, 1, none⟩ = some (.int .i64 (x.1.2 : Int)) := by simp [World.cell?, e2]
      have n4 : Bx ≠ w.heap.size + 1 + 1 := by omega
      have n5 : Bx ≠ w.heap.size + 1 + 1 + 1 := by omega
      have m4 := n4.symm
      have m5 := n5.symm
      have c4 := b41.cell
      have c5 := b51.cell
      have c6 := b61.cell
      have f4 := b41.frozen
      have f5 := b51.frozen
      have f6 := b61.frozen
      have fin : Above V.heap.size W' (((W'.setCell ⟨w.heap.size + 1 + 1, 0, none⟩ (.int .i64 (x.1.1 : Int))).setCell ⟨w.heap.size + 1 + 1 + 1, 0, none⟩ (.int .i64 (x.1.2 : Int))).setCell ⟨w.heap.size + 1 + 1 + 1 + 1, 0, none⟩ (.bool true)).drew ∧
          ∃ pre' x', (pre ++ [x] = pre' ++ [x'] ∧ (∀ y ∈ pre', y.2 ≠ s) ∧ x'.2 = s) ∧ (Boxed (((W'.setCell ⟨w.heap.size + 1 + 1, 0, none⟩ (.int .i64 (x.1.1 : Int))).setCell ⟨w.heap.size + 1 + 1 + 1, 0, none⟩ (.int .i64 (x.1.2 : Int))).setCell ⟨w.heap.size + 1 + 1 + 1 + 1, 0, none⟩ (.bool true)).drew (w.heap.size + 1 + 1) 3 (.int .i64 (x'.1.1 : Int)) ∧ Boxed (((W'.setCell ⟨w.heap.size + 1 + 1, 0, none⟩ (.int .i64 (x.1.1 : Int))).setCell ⟨w.heap.size + 1 + 1 + 1, 0, none⟩ (.int .i64 (x.1.2 : Int))).setCell ⟨w.heap.size + 1 + 1 + 1 + 1, 0, none⟩ (.bool true)).drew (w.heap.size + 1 + 1 + 1) 3 (.int .i64 (x'.1.2 : Int)) ∧ Boxed (((W'.setCell ⟨w.heap.size + 1 + 1, 0, none⟩ (.int .i64 (x.1.1 : Int))).setCell ⟨w.heap.size + 1 + 1 + 1, 0, none⟩ (.int .i64 (x.1.2 : Int))).setCell ⟨w.heap.size + 1 + 1 + 1 + 1, 0, none⟩ (.bool true)).drew (w.heap.size + 1 + 1 + 1 + 1) 4 (.bool true)) ∧
            Below w.heap.size w (((W'.setCell ⟨w.heap.size + 1 + 1, 0, none⟩ (.int .i64 (x.1.1 : Int))).setCell ⟨w.heap.size + 1 + 1 + 1, 0, none⟩ (.int .i64 (x.1.2 : Int))).setCell ⟨w.heap.size + 1 + 1 + 1 + 1, 0, none⟩ (.bool true)).drew := by
        refine ⟨((((Above.refl _ W').setCell (p := ⟨_, 0, none⟩) (show w.heap.size + 1 + 1 < V.heap.size by omega) _).setCell (p := ⟨_, 0, none⟩) (show w.heap.size + 1 + 1 + 1 < V.heap.size by omega) _).setCell (p := ⟨_, 0, none⟩) (show w.heap.size + 1 + 1 + 1 + 1 < V.heap.size by omega) _).drew, pre, x, ⟨rfl, hp, hx⟩,
          ⟨((b41.set _).other (by omega) _).other (by omega) _, ((b51.other (by omega) _).set _).other (by omega) _, ((b61.other (by omega) _).other (by omega) _).set _⟩,
          (((hB1.setCell (p := ⟨_, 0, none⟩) (show w.heap.size ≤ w.heap.size + 1 + 1 by omega) _).setCell (p := ⟨_, 0, none⟩) (show w.heap.size ≤ w.heap.size + 1 + 1 + 1 by omega) _).setCell (p := ⟨_, 0, none⟩) (show w.heap.size ≤ w.heap.size + 1 + 1 + 1 + 1 by omega) _).drew⟩
      gi_region
      all_goals gi_wp2
      all_goals exact fin
    · have hx : x.2 ≠ s := ne_of_beq_false (by assumption)
      refine ⟨Above.refl _ _, Below.refl _ _, fun y hy => ?_, ⟨bS1, b41, b51, b61⟩, hB1⟩
      rcases List.mem_append.1 hy with hy | hy
      · exact hp y hy
      · simp at hy; subst hy; exact hx
  case done =>
    rintro D ys W' hD rfl ⟨hp, ⟨bS1, b41, b51, b61⟩, hB1⟩ hDd
    have c4 := b41.cell
    have c5 := b51.cell
    have c6 := b61.cell
    have f4 := b41.frozen
    have f5 := b51.frozen
    have f6 := b61.frozen
    have hDn : (((W'.setCell ⟨w.heap.size + 1 + 1, 0, none⟩ (.int .i64 0)).setCell ⟨w.heap.size + 1 + 1 + 1, 0, none⟩ (.int .i64 0)).setCell ⟨w.heap.size + 1 + 1 + 1 + 1, 0, none⟩ (.bool false)).heap[D]? = some (.deferred (some [])) :=
      (((Above.refl D W').setCell (p := ⟨_, 0, none⟩) (show w.heap.size + 1 + 1 < D by omega) (.int .i64 0)).setCell (p := ⟨_, 0, none⟩) (show w.heap.size + 1 + 1 + 1 < D by omega) (.int .i64 0)).setCell (p := ⟨_, 0, none⟩) (show w.heap.size + 1 + 1 + 1 + 1 < D by omega) (.bool false) D _ (Nat.le_refl _) hDd
    gi_wp2
    refine ⟨by simp, .inl ⟨_, _, rfl, run_takeDeferred hDn, ?_⟩⟩
    have k4 := (((b41.set (.int .i64 0)).other (B' := w.heap.size + 1 + 1 + 1) (by omega) (.int .i64 0)).other (B' := w.heap.size + 1 + 1 + 1 + 1) (by omega) (.bool false)).kept (grownBy_putObj' _ D (.deferred none)) (fun e => by have := Option.some.inj e; omega)
    have k5 := (((b51.other (B' := w.heap.size + 1 + 1) (by omega) (.int .i64 0)).set (.int .i64 0)).other (B' := w.heap.size + 1 + 1 + 1 + 1) (by omega) (.bool false)).kept (grownBy_putObj' _ D (.deferred none)) (fun e => by have := Option.some.inj e; omega)
    have k6 := (((b61.other (B' := w.heap.size + 1 + 1) (by omega) (.int .i64 0)).other (B' := w.heap.size + 1 + 1 + 1) (by omega) (.int .i64 0)).set (.bool false)).kept (grownBy_putObj' _ D (.deferred none)) (fun e => by have := Option.some.inj e; omega)
    have g4 := k4.cell
    have g5 := k5.cell
    have g6 := k6.cell
    have hBe := (((hB1.setCell (p := ⟨_, 0, none⟩) (show w.heap.size ≤ w.heap.size + 1 + 1 by omega) (.int .i64 0)).setCell (p := ⟨_, 0, none⟩) (show w.heap.size ≤ w.heap.size + 1 + 1 + 1 by omega) (.int .i64 0)).setCell (p := ⟨_, 0, none⟩) (show w.heap.size ≤ w.heap.size + 1 + 1 + 1 + 1 by omega) (.bool false)).trans (belowK_b (w := w) (Nat.le_refl _) _ D _ (.deferred none) (by omega) hDn rfl rfl)
    rw [List.find?_eq_none.2 (by simpa using hp)]
    refine ⟨foundAt none, ?_, rfl, hBe⟩
    simp [results, Try.f10, go_sem, g4, g5, g6, foundAt]
  case stop =>
    rintro D pre W' hD hpre ⟨pre', x, ⟨rfl, hp, hx⟩, ⟨b41, b51, b61⟩, hB1⟩ hDd
    gi_wp2
    refine ⟨by simp, .inl ⟨_, _, rfl, run_takeDeferred hDd, ?_⟩⟩
    have g4 := (b41.kept (grownBy_putObj' _ D (.deferred none)) (fun e => by have := Option.some.inj e; omega)).cell
    have g5 := (b51.kept (grownBy_putObj' _ D (.deferred none)) (fun e => by have := Option.some.inj e; omega)).cell
    have g6 := (b61.kept (grownBy_putObj' _ D (.deferred none)) (fun e => by have := Option.some.inj e; omega)).cell
    have hBe := hB1.trans (belowK_b (w := w) (Nat.le_refl _) W' D _ (.deferred none) (by omega) hDd rfl rfl)
    rw [find_pre hpre hp hx]
    refine ⟨foundAt (some x), ?_, rfl, hBe⟩
    simp [results, Try.f10, go_sem, g4, g5, g6, foundAt]
end StopsWalk
open StopsWalk Go.Proofs.YtdjkhcmblekeiaaW.PrintWords
/-- What plan.Find computes. -/
def plan_Find.f (l0_0 : List (List Int)) (a1 : Int) : Option (Int × Int × Bool) :=
  if smallB l0_0 = true then some (match (stopsOf l0_0).find? (fun y => y.2 == a1) with | some x => ((x.1.1 : Int), (x.1.2 : Int), true) | none => (0, 0, false)) else none
theorem plan_Find.calls (A0_0 : Option Addr) (c0_0 : Nat) (l0_0 : List (List Int)) (a1 : Int) (r1 : Int) (r2 : Int) (r3 : Bool) (w : World) (hr0_0 : Kd.C (Kd.slice 3 (Kd.int .i64)) w A0_0 l0_0.length l0_0) (_ : l0_0.length ≤ c0_0) (h : plan_Find.f l0_0 a1 = some (r1, r2, r3)) :
    Calls Try.prog 10 #[.agg #[.slice A0_0 l0_0.length c0_0], .int .i64 a1] w fun e w' => e = .returned (.tuple #[.int .i64 r1, .int .i64 r2, .bool r3]) ∧ Below w.heap.size w w' := by
  unfold plan_Find.f at h
  split at h
  · rename_i hs
    have := callsIn_wide.1 (find_in A0_0 c0_0 l0_0 a1 w (small_of hs) hr0_0)
    refine this.mono ?_
    rintro e w' ⟨rfl, hb⟩
    refine ⟨?_, hb⟩
    have h := Option.some.inj h
    generalize (stopsOf l0_0).find? (fun y => y.2 == a1) = o at *
    cases o <;> cases h <;> rfl
  · cases h
attribute [irreducible] plan_Find.f
end Go.Proofs.Ytdjkhcmblekeiaa
