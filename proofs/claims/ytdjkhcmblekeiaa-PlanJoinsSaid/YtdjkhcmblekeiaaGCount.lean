/- How often each number is a stop of a plan: the walk, and the word that callers use. -/
import Derived.Test.YtdjkhcmblekeiaaGCheck
namespace Go.Proofs.Ytdjkhcmblekeiaa
open Go.RowKit
namespace StopsWalk
open Go.RowKit Go.Shelf Go.Proofs.YtdjkhcmblekeiaaW.PrintWords RangeD AllWalk P
attribute [local go_sem] Oper.semAt_some

/-- A block that holds these numbers. -/
def Rowed (W : World) (g : Nat) (cs : List Int) : Prop := W.heap[g]? = some (.cells (cs.map (Value.int .i64)).toArray 3 (0, 0))
theorem Rowed.lt {W : World} {g : Nat} {cs : List Int} (h : Rowed W g cs) : g < W.heap.size := (Array.getElem?_eq_some_iff.1 h).1
theorem Rowed.cell {W : World} {g : Nat} {cs : List Int} (h : Rowed W g cs) {j : Nat} (hj : j < cs.length) : W.cell? ⟨g, j, none⟩ = some (.int .i64 (cs.getD j 0)) := by
  simp [World.cell?, show W.heap[g]? = _ from h, hj]
theorem Rowed.frozen {W : World} {g : Nat} {cs : List Int} (h : Rowed W g cs) (j : Nat) : W.frozen? ⟨g, j, none⟩ = false := by simp [World.frozen?, show W.heap[g]? = _ from h]
theorem Rowed.set {W : World} {g : Nat} {cs : List Int} (h : Rowed W g cs) (j : Nat) (x : Int) : Rowed (W.setCell ⟨g, j, none⟩ (.int .i64 x)) g (cs.set j x) := by
  obtain ⟨hlt, hk⟩ := Array.getElem?_eq_some_iff.1 h
  show (W.heap.modify g _)[g]? = _
  rw [Array.getElem?_eq_getElem (by rw [Array.size_modify]; exact hlt), Array.getElem_modify_self, hk]
  simp
theorem Rowed.kept {W W' : World} {row : Option Nat} {g : Nat} {cs : List Int} (h : Rowed W g cs) (hg : W.grownBy W' row) (hne : some g ≠ row) : Rowed W' g cs := (hg.block g h.lt hne).trans h
theorem rowed_own {β : Type} (g : Nat) (f : β → List Int) : Own (fun s W => Rowed W g (f s)) := fun s X Y row hs hg hrow =>
  Rowed.kept hs hg (fun e' => by obtain ⟨o, ho, hc⟩ := hrow g e'.symm; rw [show X.heap[g]? = _ from hs] at ho; cases ho; cases hc)
theorem Rowed.owned {W : World} {g base : Nat} {cs : List Int} (h : Rowed W g cs) (hb : base ≤ g) (hl : cs.length ≤ 65536) : Kd.R (Kd.int .i64) 3 W base (fun _ => True) (.slice (some ⟨g, 0, none⟩) cs.length cs.length) cs :=
  Kd.R_of_own ⟨by simp [encs], .inr ⟨g, cs.length, _, rfl, hb, h, Nat.le_refl _, by unfold maxLen; omega, by simp, by rw [List.toList_toArray, Nat.mul_one, List.take_of_length_le (by simp)]; rfl⟩⟩ (fun _ _ => trivial)
theorem made_row (n : Nat) : madeCells (Value.int .i64 0).cells (n * 1) = ((List.replicate n (0 : Int)).map (Value.int .i64)).toArray := by
  apply Array.ext
  · simp [size_madeCells]
  · intro i h1 h2
    simp [madeCells, Value.cells, Nat.mod_one]
theorem wpListIn_make (W : World) {F : Fence} {n : Nat} {P : Program} {ops : Array Oper} {rest : List Oper} {o : Oper} {a : Act} {Q : Exit → Act → World → Prop} (hg : o.guard = none) (l c : Operand) (t e : TypeId) (hop : o.op = Op.makeSlice t l c) (i : TypeInfo) (bytes : Nat)
    (h1 : P.underlying t = some (.slice e)) (h2 : P.info? e = some i) (h3 : i.zero = some (.int .i64 0)) (h4 : i.size = 1) (h5 : i.bytes = bytes) (m : Nat) (hl : a.eval l = .int .i64 (m : Int)) (hc : a.eval c = .int .i64 (m : Int)) (b2 : bytes * m ≤ 281474976710656) (b3 : m ≤ 65536)
    (hK : wpListIn F n P ops Q rest (a.put o.dst (.slice (some ⟨W.heap.size, 0, none⟩) m m)) (W.alloc (.cells ((List.replicate m (0 : Int)).map (Value.int .i64)).toArray e))) : wpListIn F n P ops Q (o :: rest) a W := by
  refine wpListIn_plain hg fun K hK' => ?_
  have h6 : (i.bytes : Int) * (m : Int) ≤ 281474976710656 := by
    rw [h5]
    have h7 : ((bytes * m : Nat) : Int) ≤ 281474976710656 := by omega
    rwa [Int.natCast_mul] at h7
  have hr := run_make (P := P) W t e i (.int .i64 0) h1 h2 h3 .i64 .i64 (m : Int) (m : Int) (by omega) (by omega) h6 (by omega)
  simp only [Int.toNat_natCast, h4] at hr
  rw [made_row] at hr
  unfold Oper.wpIn
  refine ⟨?_, ?_⟩
  · simp [Oper.about, hop]
  · rw [Oper.semAt_plain F _ _ (by rw [hop]; intro c hc'; cases hc')]
    simp [execOp, hop, hl, hc, hr, Result.andThen]
    have := hK' _ _ hK
    simp only [List.map_replicate, List.toArray_replicate] at this
    exact this

/-- The counts when these stops have come. -/
def counts (n : Nat) (l : List Stop) : List Int := (List.range n).map fun (c : Nat) => ((l.countP (fun x => x.2 == (c : Int)) : Nat) : Int)
theorem counts_length (n : Nat) (l : List Stop) : (counts n l).length = n := by simp [counts]
theorem counts_nil (n : Nat) : counts n [] = List.replicate n 0 := by
  apply List.ext_getElem
  · simp [counts]
  · intro i h1 h2
    simp [counts]
theorem counts_getD (n : Nat) (l : List Stop) {j : Nat} (hj : j < n) : (counts n l).getD j 0 = ((l.countP (fun x => x.2 == (j : Int)) : Nat) : Int) := by simp [counts, hj]
theorem counts_in (n : Nat) (l : List Stop) (x : Stop) {j : Nat} (hj : j < n) (hx : x.2 = (j : Int)) : counts n (l ++ [x]) = (counts n l).set j ((counts n l).getD j 0 + 1) := by
  apply List.ext_getElem
  · simp [counts]
  · intro i h1 h2
    rw [List.getElem_set]
    split
    · rename_i e; subst e
      rw [counts_getD _ _ hj]
      simp [counts, List.countP_append, hx]
    · rename_i e
      have : ¬ (x.2 = (i : Int)) := by omega
      simp [counts, List.countP_append, this]
theorem counts_out (n : Nat) (l : List Stop) (x : Stop) (hx : ¬ (0 ≤ x.2 ∧ x.2 < (n : Int))) : counts n (l ++ [x]) = counts n l := by
  apply List.ext_getElem
  · simp [counts]
  · intro i h1 h2
    have hi : i < n := by simpa [counts] using h1
    have : ¬ (x.2 = (i : Int)) := by omega
    simp [counts, List.countP_append, this]

set_option maxRecDepth 100000 in
set_option maxHeartbeats 4000000 in
theorem count_low (A : Option Addr) (cap : Nat) (rs : List (List Int)) (n : Int) (w : World) (hn : n < 1 ∨ 400 < n) :
    CallsIn Fence.wide 9 Try.prog 14 #[.agg #[.slice A rs.length cap], .int .i64 n] w fun e W' => e = .returned (.slice none 0 0) ∧ Below w.heap.size w W' := by
  refine callsIn_of_wp_marks Try.func14 rfl trivial ?_ rfl
  simp only [Try.ntmps14, List.size_toArray, List.length_cons, List.length_nil, Nat.reduceAdd, Nat.reduceSub, Array.replicate_succ, Array.replicate_zero, List.push_toArray, List.append_toArray, List.nil_append, List.cons_append]
  have hB : Below w.heap.size w ((w.alloc (.cells #[.slice A rs.length cap] 24)).alloc (.cells #[.int .i64 n] 3)) := ((Below.refl _ w).alloc (Nat.le_refl _) _).alloc (by simp) _
  by_cases h1 : n < 1
  · have d1 : decide (n < 1) = true := decide_eq_true h1
    gi_wp2
    exact ⟨_, results_tmp rfl _ _ _, rfl, hB⟩
  · have d1 : decide (n < 1) = false := decide_eq_false h1
    have d2 : decide (400 < n) = true := decide_eq_true (hn.resolve_left h1)
    gi_wp2
    exact ⟨_, results_tmp rfl _ _ _, rfl, hB⟩
set_option maxRecDepth 100000 in
set_option maxHeartbeats 4000000 in
theorem count_in (A : Option Addr) (cap : Nat) (rs : List (List Int)) (n : Nat) (w : World) (hz : Small rs) (hC : Kd.C (Kd.slice 3 (Kd.int .i64)) w A rs.length rs) (h1 : 1 ≤ n) (h4 : n ≤ 400) :
    CallsIn Fence.wide 9 Try.prog 14 #[.agg #[.slice A rs.length cap], .int .i64 (n : Int)] w fun e W' => ∃ g, e = .returned (.slice (some ⟨g, 0, none⟩) n n) ∧ w.heap.size ≤ g ∧ Rowed W' g (counts n (stopsOf rs)) ∧ Below w.heap.size w W' := by
  refine callsIn_of_wp_marks Try.func14 rfl trivial ?_ rfl
  simp only [Try.ntmps14, List.size_toArray, List.length_cons, List.length_nil, Nat.reduceAdd, Nat.reduceSub, Array.replicate_succ, Array.replicate_zero, List.push_toArray, List.append_toArray, List.nil_append, List.cons_append]
  have d1 : decide ((n : Int) < 1) = false := decide_eq_false (by omega)
  have d2 : decide (400 < (n : Int)) = false := decide_eq_false (by omega)
  obtain ⟨i0, hi0, hz0, hz1, hz2⟩ := info_parts P.info3
  gi_wp2_with (first | (gi_at_make; refine wpListIn_make _ rfl _ _ _ 3 rfl i0 8 Try.underlying33 hi0 hz0 hz1 hz2 n rfl rfl (by omega) (by omega) ?_) | (refine ⟨trivial, ?_⟩; gi_at_call 24; refine (stops_in _ _ _ _ _).mono ?_; rintro e w' ⟨rfl, rfl⟩))
  obtain ⟨V, hVe⟩ : ∃ V, V = (((((w.alloc (.cells #[.slice A rs.length cap] 24)).alloc (.cells #[.int .i64 (n : Int)] 3)).alloc (.cells ((List.replicate n (0 : Int)).map (Value.int .i64)).toArray 3)).alloc (.cells #[.slice (some ⟨w.heap.size + 1 + 1, 0, none⟩) n n] 33)).alloc (.cells #[.slice A rs.length cap] 24)) := ⟨_, rfl⟩
  have bN : Boxed V (w.heap.size + 1) 3 (.int .i64 (n : Int)) := by
    have := (((Boxed.new (w.alloc (.cells #[.slice A rs.length cap] 24)) 3 (.int .i64 (n : Int))).alloc (.cells ((List.replicate n (0 : Int)).map (Value.int .i64)).toArray 3)).alloc (.cells #[.slice (some ⟨w.heap.size + 1 + 1, 0, none⟩) n n] 33)).alloc (.cells #[.slice A rs.length cap] 24)
    rw [World.size_alloc] at this
    rw [hVe]; exact this
  have bO : Boxed V (w.heap.size + 1 + 1 + 1) 33 (.slice (some ⟨w.heap.size + 1 + 1, 0, none⟩) n n) := by
    have := (Boxed.new (((w.alloc (.cells #[.slice A rs.length cap] 24)).alloc (.cells #[.int .i64 (n : Int)] 3)).alloc (.cells ((List.replicate n (0 : Int)).map (Value.int .i64)).toArray 3)) 33 (.slice (some ⟨w.heap.size + 1 + 1, 0, none⟩) n n)).alloc (.cells #[.slice A rs.length cap] 24)
    simp only [World.size_alloc] at this
    rw [hVe]; exact this
  have bQ : Boxed V (w.heap.size + 1 + 1 + 1 + 1) 24 (.slice A rs.length cap) := by
    have := Boxed.new ((((w.alloc (.cells #[.slice A rs.length cap] 24)).alloc (.cells #[.int .i64 (n : Int)] 3)).alloc (.cells ((List.replicate n (0 : Int)).map (Value.int .i64)).toArray 3)).alloc (.cells #[.slice (some ⟨w.heap.size + 1 + 1, 0, none⟩) n n] 33)) 24 (.slice A rs.length cap)
    simp only [World.size_alloc] at this
    rw [hVe]; exact this
  have bR : Rowed V (w.heap.size + 1 + 1) (counts n []) := by
    have h0 : Rowed (((w.alloc (.cells #[.slice A rs.length cap] 24)).alloc (.cells #[.int .i64 (n : Int)] 3)).alloc (.cells ((List.replicate n (0 : Int)).map (Value.int .i64)).toArray 3)) (w.heap.size + 1 + 1) (List.replicate n 0) := by
      have := World.alloc_heap_new ((w.alloc (.cells #[.slice A rs.length cap] 24)).alloc (.cells #[.int .i64 (n : Int)] 3)) (.cells ((List.replicate n (0 : Int)).map (Value.int .i64)).toArray 3)
      simp only [World.size_alloc] at this
      exact this
    rw [counts_nil, hVe]
    exact (h0.kept (World.grownBy_alloc _ (.cells #[.slice (some ⟨w.heap.size + 1 + 1, 0, none⟩) n n] 33) none) (by simp)).kept (World.grownBy_alloc _ (.cells #[.slice A rs.length cap] 24) none) (by simp)
  have hB0 : Below w.heap.size w V := by
    rw [hVe]
    repeat (first | exact Below.refl _ _ | refine Below.alloc ?_ (by first | exact Nat.le_refl _ | (simp only [World.size_alloc]; omega)) _)
  have hV := hB0.size
  have hV1 : w.heap.size + 1 + 1 + 1 < V.heap.size := bO.lt
  try simp only [List.map_replicate, List.toArray_replicate] at hVe
  try simp only [List.map_replicate, List.toArray_replicate]
  rw [← hVe]
  clear hVe
  refine wpIn_rangeFunc_D (gf := 28) (lb := #[.pointer (some ⟨w.heap.size + 1 + 1 + 1 + 1, 0, none⟩)]) rfl (enters_of Try.func28 (by kernel_rfl) rfl)
    (stops_seq 8 (by omega) _ A cap rs w V hz hC hB0 bQ) (Below.refl _ _) hV (fun _ => rfl)
    (fun pre W' => Boxed W' (w.heap.size + 1) 3 (.int .i64 (n : Int)) ∧ Boxed W' (w.heap.size + 1 + 1 + 1) 33 (.slice (some ⟨w.heap.size + 1 + 1, 0, none⟩) n n) ∧ Rowed W' (w.heap.size + 1 + 1) (counts n pre) ∧ Below w.heap.size w W')
    (fun _ _ => False)
    (OwnFrom.and (Own.from (boxed_own _ _ _) _) (OwnFrom.and (Own.from (boxed_own _ _ _) _) (OwnFrom.and (Own.from (rowed_own _ _) _) (ownFrom_below (Nat.le_refl _) hV))))
    (fun _ _ _ _ hs _ _ => hs)
    ⟨bN, bO, bR, hB0⟩
    (fun pre x a' W' => a' = { tmps := #[.agg #[.slice A rs.length cap], .int .i64 (n : Int), .pointer (some ⟨w.heap.size, 0, none⟩), .pointer (some ⟨w.heap.size + 1, 0, none⟩), .slice none 0 0, .pointer (some ⟨w.heap.size + 1 + 1 + 1, 0, none⟩), undef, .int .i64 x.2, .int .i64 (n : Int), .bool false, .bool false, .int .i64 (n : Int), .bool false, .bool false, .int .i64 (n : Int), .slice (some ⟨w.heap.size + 1 + 1, 0, none⟩) n n, .agg #[.slice A rs.length cap], .func (.func 28) #[] #[.pointer (some ⟨w.heap.size + 1 + 1 + 1 + 1, 0, none⟩)], .agg #[.int .i64 (x.1.1 : Int), .int .i64 (x.1.2 : Int)], .int .i64 x.2, undef, undef, undef, undef, undef, undef, undef, undef, undef, undef, undef, undef, undef, undef], defers := [] } ∧
      Boxed W' (w.heap.size + 1) 3 (.int .i64 (n : Int)) ∧ Boxed W' (w.heap.size + 1 + 1 + 1) 33 (.slice (some ⟨w.heap.size + 1 + 1, 0, none⟩) n n) ∧ Rowed W' (w.heap.size + 1 + 1) (counts n pre) ∧ Below w.heap.size w W')
    (fun pre x a' => OwnFrom.and (ownFrom_pure _ _) (OwnFrom.and (Own.from (boxed_own _ _ _) _) (OwnFrom.and (Own.from (boxed_own _ _ _) _) (OwnFrom.and (Own.from (rowed_own _ _) _) (ownFrom_below (Nat.le_refl _) hV)))))
    ?assign ?body ?done ?stop
  case assign =>
    rintro l pre x W' K hI hK
    have hK' := hK _ W' (Below.refl _ _) (Above.refl _ _) ⟨rfl, hI⟩
    clear hK hI
    simp only [encS]
    gi_wp2
    exact hK'
  case body =>
    rintro l pre x a' W' hl ⟨rfl, bN1, bO1, bR1, hB1⟩ hlen
    have cN := bN1.cell
    have cO := bO1.cell
    by_cases c0 : 0 ≤ x.2
    · have d0 : decide (0 ≤ x.2) = true := decide_eq_true c0
      by_cases c1 : x.2 < (n : Int)
      · have d3 : decide (x.2 < (n : Int)) = true := decide_eq_true c1
        obtain ⟨j, hj⟩ : ∃ j : Nat, x.2 = (j : Int) := ⟨x.2.toNat, by omega⟩
        rw [hj] at c0 c1 d0 d3 ⊢
        have hjn : j < n := by omega
        have cR := bR1.cell (j := j) (by rw [counts_length]; exact hjn)
        have fR := bR1.frozen j
        have hbound : (counts n pre).getD j 0 ≤ 4294967296 ∧ 0 ≤ (counts n pre).getD j 0 := by
          rw [counts_getD _ _ hjn]
          have h2 := stops_small hz
          have h3 := List.countP_le_length (p := fun x : Stop => x.2 == (j : Int)) (l := pre)
          omega
        have e1 : wrap64 ((counts n pre).getD j 0 + 1) = (counts n pre).getD j 0 + 1 := by unfold wrap64; omega
        have E := Lib.hid (counts_in n pre x hjn hj)
        have fin := Lib.hid (show Above V.heap.size W' (W'.setCell ⟨w.heap.size + 1 + 1, j, none⟩ (.int .i64 ((counts n pre).getD j 0 + 1))) ∧ Below w.heap.size W' (W'.setCell ⟨w.heap.size + 1 + 1, j, none⟩ (.int .i64 ((counts n pre).getD j 0 + 1))) ∧
            Boxed (W'.setCell ⟨w.heap.size + 1 + 1, j, none⟩ (.int .i64 ((counts n pre).getD j 0 + 1))) (w.heap.size + 1) 3 (.int .i64 (n : Int)) ∧ Boxed (W'.setCell ⟨w.heap.size + 1 + 1, j, none⟩ (.int .i64 ((counts n pre).getD j 0 + 1))) (w.heap.size + 1 + 1 + 1) 33 (.slice (some ⟨w.heap.size + 1 + 1, 0, none⟩) n n) ∧
            Rowed (W'.setCell ⟨w.heap.size + 1 + 1, j, none⟩ (.int .i64 ((counts n pre).getD j 0 + 1))) (w.heap.size + 1 + 1) (counts n (pre ++ [x])) ∧ Below w.heap.size w (W'.setCell ⟨w.heap.size + 1 + 1, j, none⟩ (.int .i64 ((counts n pre).getD j 0 + 1))) from
          ⟨(Above.refl _ W').setCell (p := ⟨_, j, none⟩) (show w.heap.size + 1 + 1 < V.heap.size by omega) _, (Below.refl _ W').setCell (p := ⟨_, j, none⟩) (show w.heap.size ≤ w.heap.size + 1 + 1 by omega) _,
            (Below.heap_setCell _ _ _ _ (show w.heap.size + 1 ≠ w.heap.size + 1 + 1 by omega)).trans bN1, (Below.heap_setCell _ _ _ _ (show w.heap.size + 1 + 1 + 1 ≠ w.heap.size + 1 + 1 by omega)).trans bO1,
            by rw [E.out]; exact bR1.set j _, hB1.setCell (p := ⟨_, j, none⟩) (show w.heap.size ≤ w.heap.size + 1 + 1 by omega) _⟩)
        generalize (counts n pre).getD j 0 = v at *
        gi_wp2
        exact fin.out
      · have d3 : decide (x.2 < (n : Int)) = false := decide_eq_false c1
        have E := Lib.hid (counts_out n pre x (fun h => c1 h.2))
        gi_wp2
        exact ⟨Above.refl _ _, Below.refl _ _, bN1, bO1, by rw [E.out]; exact bR1, hB1⟩
    · have d0 : decide (0 ≤ x.2) = false := decide_eq_false c0
      have E := Lib.hid (counts_out n pre x (fun h => c0 h.1))
      gi_wp2
      exact ⟨Above.refl _ _, Below.refl _ _, bN1, bO1, by rw [E.out]; exact bR1, hB1⟩
  case done =>
    rintro D ys W' hD rfl ⟨bN1, bO1, bR1, hB1⟩ hDd
    have cO := bO1.cell
    have hBe := hB1.trans (belowK_b (w := w) (Nat.le_refl _) W' D _ (.deferred none) (by omega) hDd rfl rfl)
    have bRe := bR1.kept (grownBy_putObj' W' D (.deferred none)) (fun e => by have := Option.some.inj e; omega)
    gi_wp2
    refine ⟨by simp, .inl ⟨_, _, rfl, run_takeDeferred hDd, _, results_tmp rfl _ _ _, _, rfl, by omega, bRe, hBe⟩⟩
  case stop =>
    rintro D pre W' hD hpre h hDd
    exact h.elim
end StopsWalk
open StopsWalk Go.Proofs.YtdjkhcmblekeiaaW.PrintWords
/-- What plan.Count computes. -/
def plan_Count.f (l0_0 : List (List Int)) (a1 : Int) : Option (List Int) := if smallB l0_0 = true then some (if a1 < 1 ∨ 400 < a1 then [] else counts a1.toNat (stopsOf l0_0)) else none
theorem plan_Count.calls (A0_0 : Option Addr) (c0_0 : Nat) (l0_0 : List (List Int)) (a1 : Int) (r : List Int) (w : World) (hr0_0 : Kd.C (Kd.slice 3 (Kd.int .i64)) w A0_0 l0_0.length l0_0) (_ : l0_0.length ≤ c0_0) (h : plan_Count.f l0_0 a1 = some r) :
    Calls Try.prog 14 #[.agg #[.slice A0_0 l0_0.length c0_0], .int .i64 a1] w fun e w' => ∃ v0_ : Value, e = .returned (v0_) ∧ Kd.R (Kd.int .i64) 3 w' w.heap.size (fun _ => True) v0_ r ∧ Below w.heap.size w w' := by
  unfold plan_Count.f at h
  split at h
  · rename_i hs
    have h := Option.some.inj h
    subst h
    by_cases hn : a1 < 1 ∨ 400 < a1
    · rw [if_pos hn]
      refine (callsIn_wide.1 (count_low A0_0 c0_0 l0_0 a1 w hn)).mono ?_
      rintro e w' ⟨rfl, hb⟩
      exact ⟨_, rfl, Kd.R_nil _ _ _ _ _, hb⟩
    · rw [if_neg hn]
      obtain ⟨n, rfl⟩ : ∃ n : Nat, a1 = (n : Int) := ⟨a1.toNat, by omega⟩
      refine (callsIn_wide.1 (count_in A0_0 c0_0 l0_0 n w (small_of hs) hr0_0 (by omega) (by omega))).mono ?_
      rintro e w' ⟨g, rfl, hg, hR, hb⟩
      have := hR.owned hg (by rw [counts_length]; omega)
      rw [counts_length] at this
      exact ⟨_, rfl, by rw [Int.toNat_natCast]; exact this, hb⟩
  · cases h
attribute [irreducible] plan_Count.f
end Go.Proofs.Ytdjkhcmblekeiaa
