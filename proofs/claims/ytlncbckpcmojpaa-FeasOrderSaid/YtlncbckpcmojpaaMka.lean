/- Texts of this session in one: Rounds without counting: what comes to its answer at all numbers of rounds from one on. Plain lemmas.; The cells of a block that is known whole, all at once.; A cell of another block, behind several writes to one block.; Whole square roots: plain lemmas on numbers, no program.; A range over an iterator whose loop variable lay ahead of the loop: what holds between the assignment and the body is to; slices.Clone of ints: a row of the same numbers, of its own.; What the reference of layer 8 asks of an instance: plain words.; How an argument that is plain data (numbers, strings, structs, slices of these, nested) reads in the print's words: one ; How an instance reads as an argument: its numbers, its name, its nodes and its matrix.; How a plan, and a row of ints, read as arguments. -/
import Derived.Test.YtlncbckpcmojpaaWWords
import Derived.WalkKit
import Derived.RangeFuncNested
import Derived.Test.YtlncbckpcmojpaaPx0
import Derived.Lib.BufferMore
import Derived.ProofKit
import Derived.Deep.Slices
namespace Go.Proofs.Ytlncbckpcmojpaa
open Go.RowKit Go.Proofs.YtlncbckpcmojpaaW.PrintWords
theorem Ev.pos {α : Type} {c : Prop} [Decidable c] {g f : Nat → Option α} {r : α} (h : c) (k : Ev g r) : Ev (fun n => if c then g n else f n) r := by
  obtain ⟨K, hK⟩ := k; exact ⟨K, fun n hn => (if_pos h).trans (hK n hn)⟩
theorem Ev.neg {α : Type} {c : Prop} [Decidable c] {g f : Nat → Option α} {r : α} (h : ¬ c) (k : Ev f r) : Ev (fun n => if c then g n else f n) r := by
  obtain ⟨K, hK⟩ := k; exact ⟨K, fun n hn => (if_neg h).trans (hK n hn)⟩
/-- A call that counts no rounds. -/
theorem Ev.bs {α β : Type} {a : Option α} {x : α} {f : Nat → α → Option β} {r : β} (h : a = some x) (k : Ev (fun n => f n x) r) : Ev (fun n => a.bind (f n)) r := by
  obtain ⟨K, hK⟩ := k; exact ⟨K, fun n hn => by subst h; exact hK n hn⟩
theorem Ev.this {α : Type} {a : Option α} {r : α} (h : a = some r) : Ev (fun _ => a) r := ⟨0, fun _ _ => h⟩
theorem Ev.at {α : Type} {g : Nat → Option α} {r : α} {K : Nat} (h : ∀ k, K ≤ k → g k = some r) : Ev g r := ⟨K, h⟩
end Go.Proofs.Ytlncbckpcmojpaa
namespace Go.Proofs.Ytlncbckpcmojpaa.P
open Go.RowKit Go.Proofs.YtlncbckpcmojpaaW.PrintWords
theorem blk1_ {w : World} {g : Nat} {t : TypeId} {v0 : Value} (h : w.heap[g]? = some (.cells #[v0] t (0, 0))) : w.cell? ⟨g, 0, none⟩ = some v0 ∧ w.frozen? ⟨g, 0, none⟩ = false :=
  ⟨(blk_cell h 0).trans rfl, blk_frozen h 0⟩
theorem blk7_ {w : World} {g : Nat} {t : TypeId} {v0 v1 v2 v3 v4 v5 v6 : Value} (h : w.heap[g]? = some (.cells #[v0, v1, v2, v3, v4, v5, v6] t (0, 0))) : w.cell? ⟨g, 0, none⟩ = some v0 ∧ w.cell? ⟨g, 1, none⟩ = some v1 ∧ w.cell? ⟨g, 2, none⟩ = some v2 ∧ w.cell? ⟨g, 3, none⟩ = some v3 ∧ w.cell? ⟨g, 4, none⟩ = some v4 ∧ w.cell? ⟨g, 5, none⟩ = some v5 ∧ w.cell? ⟨g, 6, none⟩ = some v6 ∧ w.frozen? ⟨g, 0, none⟩ = false ∧ w.frozen? ⟨g, 1, none⟩ = false ∧ w.frozen? ⟨g, 2, none⟩ = false ∧ w.frozen? ⟨g, 3, none⟩ = false ∧ w.frozen? ⟨g, 4, none⟩ = false ∧ w.frozen? ⟨g, 5, none⟩ = false ∧ w.frozen? ⟨g, 6, none⟩ = false :=
  ⟨(blk_cell h 0).trans rfl, (blk_cell h 1).trans rfl, (blk_cell h 2).trans rfl, (blk_cell h 3).trans rfl, (blk_cell h 4).trans rfl, (blk_cell h 5).trans rfl, (blk_cell h 6).trans rfl, blk_frozen h 0, blk_frozen h 1, blk_frozen h 2, blk_frozen h 3, blk_frozen h 4, blk_frozen h 5, blk_frozen h 6⟩
theorem blk8_ {w : World} {g : Nat} {t : TypeId} {v0 v1 v2 v3 v4 v5 v6 v7 : Value} (h : w.heap[g]? = some (.cells #[v0, v1, v2, v3, v4, v5, v6, v7] t (0, 0))) : w.cell? ⟨g, 0, none⟩ = some v0 ∧ w.cell? ⟨g, 1, none⟩ = some v1 ∧ w.cell? ⟨g, 2, none⟩ = some v2 ∧ w.cell? ⟨g, 3, none⟩ = some v3 ∧ w.cell? ⟨g, 4, none⟩ = some v4 ∧ w.cell? ⟨g, 5, none⟩ = some v5 ∧ w.cell? ⟨g, 6, none⟩ = some v6 ∧ w.cell? ⟨g, 7, none⟩ = some v7 ∧ w.frozen? ⟨g, 0, none⟩ = false ∧ w.frozen? ⟨g, 1, none⟩ = false ∧ w.frozen? ⟨g, 2, none⟩ = false ∧ w.frozen? ⟨g, 3, none⟩ = false ∧ w.frozen? ⟨g, 4, none⟩ = false ∧ w.frozen? ⟨g, 5, none⟩ = false ∧ w.frozen? ⟨g, 6, none⟩ = false ∧ w.frozen? ⟨g, 7, none⟩ = false :=
  ⟨(blk_cell h 0).trans rfl, (blk_cell h 1).trans rfl, (blk_cell h 2).trans rfl, (blk_cell h 3).trans rfl, (blk_cell h 4).trans rfl, (blk_cell h 5).trans rfl, (blk_cell h 6).trans rfl, (blk_cell h 7).trans rfl, blk_frozen h 0, blk_frozen h 1, blk_frozen h 2, blk_frozen h 3, blk_frozen h 4, blk_frozen h 5, blk_frozen h 6, blk_frozen h 7⟩
theorem blk9_ {w : World} {g : Nat} {t : TypeId} {v0 v1 v2 v3 v4 v5 v6 v7 v8 : Value} (h : w.heap[g]? = some (.cells #[v0, v1, v2, v3, v4, v5, v6, v7, v8] t (0, 0))) : w.cell? ⟨g, 0, none⟩ = some v0 ∧ w.cell? ⟨g, 1, none⟩ = some v1 ∧ w.cell? ⟨g, 2, none⟩ = some v2 ∧ w.cell? ⟨g, 3, none⟩ = some v3 ∧ w.cell? ⟨g, 4, none⟩ = some v4 ∧ w.cell? ⟨g, 5, none⟩ = some v5 ∧ w.cell? ⟨g, 6, none⟩ = some v6 ∧ w.cell? ⟨g, 7, none⟩ = some v7 ∧ w.cell? ⟨g, 8, none⟩ = some v8 ∧ w.frozen? ⟨g, 0, none⟩ = false ∧ w.frozen? ⟨g, 1, none⟩ = false ∧ w.frozen? ⟨g, 2, none⟩ = false ∧ w.frozen? ⟨g, 3, none⟩ = false ∧ w.frozen? ⟨g, 4, none⟩ = false ∧ w.frozen? ⟨g, 5, none⟩ = false ∧ w.frozen? ⟨g, 6, none⟩ = false ∧ w.frozen? ⟨g, 7, none⟩ = false ∧ w.frozen? ⟨g, 8, none⟩ = false :=
  ⟨(blk_cell h 0).trans rfl, (blk_cell h 1).trans rfl, (blk_cell h 2).trans rfl, (blk_cell h 3).trans rfl, (blk_cell h 4).trans rfl, (blk_cell h 5).trans rfl, (blk_cell h 6).trans rfl, (blk_cell h 7).trans rfl, (blk_cell h 8).trans rfl, blk_frozen h 0, blk_frozen h 1, blk_frozen h 2, blk_frozen h 3, blk_frozen h 4, blk_frozen h 5, blk_frozen h 6, blk_frozen h 7, blk_frozen h 8⟩
end Go.Proofs.Ytlncbckpcmojpaa.P
namespace Go.Proofs.Ytlncbckpcmojpaa.P
open Go.RowKit Go.Proofs.YtlncbckpcmojpaaW.PrintWords
/-- A block of seven, all written anew. -/
theorem put7 {w : World} {g : Nat} {t : TypeId} {v0 v1 v2 v3 v4 v5 v6 u0 u1 u2 u3 u4 u5 u6 : Value} (h : w.heap[g]? = some (.cells #[v0, v1, v2, v3, v4, v5, v6] t (0, 0))) : (((((((w.setCell ⟨g, 0, none⟩ u0).setCell ⟨g, 1, none⟩ u1).setCell ⟨g, 2, none⟩ u2).setCell ⟨g, 3, none⟩ u3).setCell ⟨g, 4, none⟩ u4).setCell ⟨g, 5, none⟩ u5).setCell ⟨g, 6, none⟩ u6).heap[g]? = some (.cells #[u0, u1, u2, u3, u4, u5, u6] t (0, 0)) :=
  blk_put (cs' := #[u0, u1, u2, u3, u4, u5, u6]) (blk_put (cs' := #[u0, u1, u2, u3, u4, u5, v6]) (blk_put (cs' := #[u0, u1, u2, u3, u4, v5, v6]) (blk_put (cs' := #[u0, u1, u2, u3, v4, v5, v6]) (blk_put (cs' := #[u0, u1, u2, v3, v4, v5, v6]) (blk_put (cs' := #[u0, u1, v2, v3, v4, v5, v6]) (blk_put (cs' := #[u0, v1, v2, v3, v4, v5, v6]) (h) 0 u0 rfl) 1 u1 rfl) 2 u2 rfl) 3 u3 rfl) 4 u4 rfl) 5 u5 rfl) 6 u6 rfl
theorem far7 {w : World} {g k : Nat} {t : TypeId} {cs : Array Value} {u0 u1 u2 u3 u4 u5 u6 : Value} (h : w.heap[k]? = some (.cells cs t (0, 0))) (hne : k ≠ g) : (((((((w.setCell ⟨g, 0, none⟩ u0).setCell ⟨g, 1, none⟩ u1).setCell ⟨g, 2, none⟩ u2).setCell ⟨g, 3, none⟩ u3).setCell ⟨g, 4, none⟩ u4).setCell ⟨g, 5, none⟩ u5).setCell ⟨g, 6, none⟩ u6).heap[k]? = some (.cells cs t (0, 0)) :=
  blk_far (p := ⟨g, 6, none⟩) (blk_far (p := ⟨g, 5, none⟩) (blk_far (p := ⟨g, 4, none⟩) (blk_far (p := ⟨g, 3, none⟩) (blk_far (p := ⟨g, 2, none⟩) (blk_far (p := ⟨g, 1, none⟩) (blk_far (p := ⟨g, 0, none⟩) (h) hne u0) hne u1) hne u2) hne u3) hne u4) hne u5) hne u6
theorem below7 {w0 w : World} {b g : Nat} {u0 u1 u2 u3 u4 u5 u6 : Value} (h : Below b w0 w) (hg : b ≤ g) : Below b w0 (((((((w.setCell ⟨g, 0, none⟩ u0).setCell ⟨g, 1, none⟩ u1).setCell ⟨g, 2, none⟩ u2).setCell ⟨g, 3, none⟩ u3).setCell ⟨g, 4, none⟩ u4).setCell ⟨g, 5, none⟩ u5).setCell ⟨g, 6, none⟩ u6) :=
  ((((((h.setCell (p := ⟨g, 0, none⟩) hg u0).setCell (p := ⟨g, 1, none⟩) hg u1).setCell (p := ⟨g, 2, none⟩) hg u2).setCell (p := ⟨g, 3, none⟩) hg u3).setCell (p := ⟨g, 4, none⟩) hg u4).setCell (p := ⟨g, 5, none⟩) hg u5).setCell (p := ⟨g, 6, none⟩) hg u6
end Go.Proofs.Ytlncbckpcmojpaa.P
namespace Go.Proofs.Ytlncbckpcmojpaa

/-- The greatest number whose square is n at most. -/
def isq : Nat → Nat
  | 0 => 0
  | n + 1 => if (isq n + 1) * (isq n + 1) ≤ n + 1 then isq n + 1 else isq n

theorem isq_both (n : Nat) : isq n * isq n ≤ n ∧ n < (isq n + 1) * (isq n + 1) := by
  induction n with
  | zero => simp [isq]
  | succ n ih =>
    obtain ⟨h1, h2⟩ := ih
    unfold isq
    split
    · rename_i h
      refine ⟨h, ?_⟩
      have e : (isq n + 1 + 1) * (isq n + 1 + 1) = (isq n + 1) * (isq n + 1) + 2 * (isq n + 1) + 1 := by
        simp only [Nat.add_mul, Nat.mul_add, Nat.mul_one, Nat.one_mul]; omega
      omega
    · rename_i h
      exact ⟨by omega, by omega⟩
theorem isq_le (n : Nat) : isq n * isq n ≤ n := (isq_both n).1
theorem isq_lt (n : Nat) : n < (isq n + 1) * (isq n + 1) := (isq_both n).2

theorem sq_mono {a b : Nat} (h : a ≤ b) : a * a ≤ b * b := Nat.mul_le_mul h h
/-- A number whose square is n at most is the root at most. -/
theorem le_isq {n q : Nat} (h : q * q ≤ n) : q ≤ isq n := by
  refine Nat.le_of_not_lt fun hlt => ?_
  have := sq_mono (show isq n + 1 ≤ q from hlt)
  have := isq_lt n
  omega
theorem isq_le_of {n q : Nat} (h : n < (q + 1) * (q + 1)) : isq n ≤ q := by
  refine Nat.le_of_not_lt fun hlt => ?_
  have := sq_mono (show q + 1 ≤ isq n from hlt)
  have := isq_le n
  omega
/-- One guess on: not below the root. -/
theorem guess_ge (n x : Nat) (hx : 1 ≤ x) : isq n ≤ (x + n / x) / 2 := by
  rw [Nat.le_div_iff_mul_le (by omega)]
  generalize hs : isq n = s
  have h1 : s * s ≤ n := by rw [← hs]; exact isq_le n
  by_cases h : 2 * s ≤ x
  · have := Nat.zero_le (n / x); generalize n / x = y at *; omega
  · have h2 : (2 * s - x) * x ≤ n := by
      refine Nat.le_trans ?_ h1
      obtain ⟨d, hd⟩ : ∃ d, 2 * s = x + d := ⟨2 * s - x, by omega⟩
      rw [show 2 * s - x = d from by omega]
      by_cases hc : d ≤ x
      · obtain ⟨e, rfl⟩ : ∃ e, x = d + e := ⟨x - d, by omega⟩
        obtain ⟨t, rfl⟩ : ∃ t, e = 2 * t := ⟨s - d, by omega⟩
        obtain rfl : s = d + t := by omega
        simp only [Nat.add_mul, Nat.mul_add]
        have : d * (2 * t) = d * t + t * d := by rw [Nat.mul_left_comm, Nat.mul_comm t d]; omega
        omega
      · obtain ⟨e, rfl⟩ : ∃ e, d = x + e := ⟨d - x, by omega⟩
        obtain ⟨t, rfl⟩ : ∃ t, e = 2 * t := ⟨s - x, by omega⟩
        obtain rfl : s = x + t := by omega
        simp only [Nat.add_mul, Nat.mul_add]
        have : 2 * t * x = x * t + t * x := by rw [Nat.mul_assoc, Nat.mul_comm x t]; omega
        omega
    have h3 : 2 * s - x ≤ n / x := (Nat.le_div_iff_mul_le (by omega)).2 h2
    omega
/-- Where guesses fall no more, the root is reached. -/
theorem guess_end {n x : Nat} (hx : 1 ≤ x) (hg : isq n ≤ x) (he : x ≤ (x + n / x) / 2) : isq n = x := by
  have h1 : x ≤ n / x := by omega
  have h2 : x * x ≤ n := (Nat.le_div_iff_mul_le (by omega)).1 h1
  exact Nat.le_antisymm hg (le_isq h2)
theorem guess_start {n L : Nat} (h : n < 2 ^ L) : isq n ≤ 2 ^ ((L + 1) / 2) := by
  refine isq_le_of (Nat.lt_of_lt_of_le h ?_)
  have h1 : 2 ^ L ≤ 2 ^ ((L + 1) / 2 + (L + 1) / 2) := Nat.pow_le_pow_right (by omega) (by omega)
  rw [Nat.pow_add] at h1
  have := sq_mono (show 2 ^ ((L + 1) / 2) ≤ 2 ^ ((L + 1) / 2) + 1 from by omega)
  omega
end Go.Proofs.Ytlncbckpcmojpaa
namespace Go.Proofs.Ytlncbckpcmojpaa
namespace RangeV
open Go.RowKit
variable {F : Fence} {n : Nat} {P : Program}

theorem wpIn_rangeFunc_assigns {α : Type} {g : Operand} {ps : Array Tmp} {assign body : Code} {Q : Exit → Act → World → Prop} {a : Act} {w : World}
    (hro : F.round = none) (h1 : 1 ≤ n) {gf : Nat} {lb : Array Value} (hg : a.eval g = .func (.func gf) #[] lb) (hFg : F.fn gf) (eg : ∀ args w, (callFunc gf args).run P w = .ok (.enter gf args) w)
    {encs : α → Array Value} {Kp : World → World → Prop} {S Sp : List α → Prop} {N : Nat} (hseq : SeqStopsK F (n - 1) P gf lb encs Kp S Sp N w)
    (hKt : ∀ {A B C : World}, Kp A B → Kp B C → Kp A C) (hKb : ∀ (W : World) (l : Nat) (o o' : Obj), w.heap.size ≤ l → W.heap[l]? = some o → o.isCells = false → o.isWalk = false → Kp W (W.putObj l o')) (hps : ∀ x, (encs x).size = ps.size)
    (I : List α → World → Prop) (hI : OwnFrom w.heap.size I) (h0 : I [] w) (Mid : List α → α → Act → World → Prop) (hMid : ∀ pre x a', OwnFrom w.heap.size (fun (_ : Unit) W => Mid pre x a' W))
    (hassign : ∀ (l : Nat) (pre : List α) (x : α) (W : World) (K : Act → World → Prop), I pre W → (∀ a' W', KeepsFrom w.heap.size W W' → Kp W W' → Mid pre x a' W' → K a' W') →
      assign.wpIn (F.inRound l) (n - 1 - 1) P (Exit.then K (fun _ _ _ => False)) { tmps := (ps.zip (encs x)).foldl (fun t (p, v) => t.setIfInBounds p v) a.tmps, defers := [] } W)
    (hbody : ∀ (l : Nat) (pre : List α) (x : α) (a' : Act) (W : World), Mid pre x a' W → pre.length < N → body.wpIn (F.inRound l) (n - 1 - 1) P (ownPostG w.heap.size Kp I (fun _ _ _ => False) (pre ++ [x]) W) a' W)
    (hdone : ∀ (D : Nat) (xs : List α) (W : World), w.heap.size ≤ D → S xs → I xs W → W.heap[D]? = some (.deferred (some [])) → Q .normal { a with defers := { target := .collected D, args := #[] } :: a.defers } W) :
    (Code.rangeFunc g ps assign body).wpIn F n P Q a w := by
  refine wpIn_rangeFunc fun fn hfn => ?_
  rw [hro]
  obtain ⟨rec, hrec⟩ : ∃ rec : LoopState → Option Code → Loop, rec = fun st pe => { state := st, pending := pe, fn, tmps := a.tmps, params := ps, assign, body, defers := w.heap.size } := ⟨_, rfl⟩
  obtain ⟨W1, hW1⟩ : ∃ W1, (w.alloc (.deferred (some []))).alloc (.loop (rec .ready none)) = W1 := ⟨_, rfl⟩
  have hL1 : W1.heap[w.heap.size + 1]? = some (.loop (rec .ready none)) := by
    have := World.alloc_heap_new (w.alloc (.deferred (some []))) (.loop (rec .ready none))
    rw [World.size_alloc] at this
    rw [← hW1]; exact this
  have hK1 : W1.heap[w.heap.size]? = some (.deferred (some [])) := by
    rw [← hW1]; exact (Below.heap_alloc _ _ _ (by simp)).trans (World.alloc_heap_new w _)
  have hI1 : I [] W1 := by rw [← hW1]; exact hI.alloc _ (hI.alloc _ h0)
  have hb1 : Below w.heap.size w W1 := by rw [← hW1]; exact ((Below.refl _ w).alloc (Nat.le_refl _) _).alloc (by simp) _
  refine ⟨w.heap.size + 1, [{ target := .collected w.heap.size, args := #[] }], W1, { target := .fn (.func gf) lb, args := #[.func (.yield (w.heap.size + 1)) #[] #[]] }, W1, gf,
    #[.func (.yield (w.heap.size + 1)) #[] #[]] ++ lb, W1, ?_, ?_, ?_, ?_, fun _ => h1, ?_⟩
  · rw [← hW1, hrec]; exact run_enterLoop_outer _ _ _ _ _
  · simp only [resolve, hg]
    simp [go_sem]
  · intro f' hf'; simp [Target.leads] at hf'; subst hf'; exact hFg
  · simp [invoke, go_sem, eg]
  · have hnw : ∀ {A B : World} {row : Option Nat}, (∀ r, row = some r → W1.heap.size ≤ r ∧ ∃ o : Obj, A.heap[r]? = some o ∧ o.isWalk = true) → (∀ r, row = some r → w.heap.size ≤ r ∧ ∃ o : Obj, A.heap[r]? = some o ∧ o.isCells = false) :=
      fun hr r e => by obtain ⟨hB, o, ho, hw⟩ := hr r e; exact ⟨by rw [← hW1] at hB; simp at hB; omega, o, ho, Obj.not_cells_of_walk hw⟩
    refine (hseq (w.heap.size + 1)
      (fun pre W => I pre W ∧ W.heap[w.heap.size + 1]? = some (.loop (rec .ready none)) ∧ W.heap[w.heap.size]? = some (.deferred (some [])))
      (fun _ _ => False) W1 hb1
      (fun s A B row hs hg' hr => ⟨hI s A B row hs.1 hg' (hnw (B := B) hr), (grownBy_keeps hg' (fun r e => (hr r e).2) hs.2.1 rfl).trans hs.2.1, (grownBy_keeps hg' (fun r e => (hr r e).2) hs.2.2 rfl).trans hs.2.2⟩)
      (fun s A B row hs hg' hr => hs) ?_ ⟨hI1, hL1, hK1⟩).mono ?_
    · rintro pre x Wb ⟨hi, hl, hk⟩ hlen
      have hy := run_yield (P := P) (args := encs x) hl (by rw [hrec]; exact hps x)
      rw [hrec] at hy
      refine ⟨fn, _, assign, body, hy, roundIn_of_wpIn hfn (hassign _ pre x Wb _ hi fun a' W hkfa hkpa hm => ?_)⟩
      have hlW := (hkfa.same _ _ (by omega) hl rfl : W.heap[w.heap.size + 1]? = _)
      have hkW := (hkfa.same _ _ (Nat.le_refl _) hk rfl : W.heap[w.heap.size]? = _)
      have hlt : w.heap.size + 1 < W.heap.size := (Array.getElem?_eq_some_iff.1 hlW).1
      refine ⟨_, run_beginRound hlW (by rw [hrec]), ?_⟩
      have hl2 : (W.putObj (w.heap.size + 1) (.loop { rec .ready none with state := .busy })).heap[w.heap.size + 1]? = some (.loop { rec .ready none with state := .busy }) := World.putObj_heap_same hlt
      have hk2 : (W.putObj (w.heap.size + 1) (.loop { rec .ready none with state := .busy })).heap[w.heap.size]? = some (.deferred (some [])) := (World.putObj_heap_other (by omega)).trans hkW
      have hw2 : Kp W (W.putObj (w.heap.size + 1) (.loop { rec .ready none with state := .busy })) := hKb _ _ _ _ (by omega) hlW rfl rfl
      refine wpIn_mono (hbody _ pre x a' _ ((hMid pre x a').putObj (s := ()) _ hm (by omega) hlW rfl) hlen) ?_
      rintro e a3 W3 hp
      cases e with
      | normal =>
        obtain ⟨hk3, hkp3, hi3⟩ := hp
        have hl3 := hk3.same _ _ (by omega) hl2 rfl
        have hr := run_endRound (P := P) none hl3
        rw [hrec] at hl3 hr
        exact ⟨_, _, hr, .inl ⟨rfl, ⟨hI.putObj _ hi3 (by omega) hl3 rfl, by rw [hrec]; exact World.putObj_heap_same (Array.getElem?_eq_some_iff.1 hl3).1, (World.putObj_heap_other (by omega)).trans (hk3.same _ _ (Nat.le_refl _) hk2 rfl)⟩,
          hKt hkpa (hKt (hKt hw2 hkp3) (hKb _ _ _ _ (by omega) hl3 rfl rfl))⟩⟩
      | ret => exact hp.2.elim
      | exit id => exact hp.2.elim
      | goto t => exact hp.2.elim
      | panic ch => exact hp.elim
      | outgrown => exact hp.elim
    · rintro e W2 ⟨⟨v, rfl⟩, (⟨xs, hS, hi, hl, hk⟩ | ⟨_, _, hf⟩)⟩
      · have hr := run_endLoop (P := P) hl (by rw [hrec]; simp)
        rw [hrec] at hr
        exact ⟨none, _, hr, hdone _ xs _ (Nat.le_refl _) hS (hI.putObj _ hi (by omega) hl rfl) ((World.putObj_heap_other (by omega)).trans hk)⟩
      · exact hf.elim
end RangeV
end Go.Proofs.Ytlncbckpcmojpaa
namespace Go.Proofs.Ytlncbckpcmojpaa.P
open Go.RowKit Go.Proofs.YtlncbckpcmojpaaW.PrintWords Go.Proofs.YtlncbckpcmojpaaW.PrintLast Go.Proofs.YtlncbckpcmojpaaW.PrintMore
attribute [local go_sem] max2_int min2_int max_two min_two max_three min_three max_four min_four   -- for this text's walks alone
set_option linter.unusedVariables false
set_option linter.unusedSimpArgs false

/-! ### metric_nearest: function 82 -/
def metric_nearest.f (a0 : Int) (a1 : Int) : Option (Int) := if a1 = 0 then (none) else (some (wrap64 (Int.tdiv (wrap64 (a0 + (wrap64 (Int.tdiv a1 2)))) a1)))
set_option maxHeartbeats 8000000 in
set_option maxRecDepth 100000 in
theorem metric_nearest.calls (a0 : Int) (a1 : Int) (r : Int) (w : World) (h : metric_nearest.f a0 a1 = some r) :
  Calls Try.prog 82 #[.int .i64 a0, .int .i64 a1] w fun e w' => e = .returned (.int .i64 r) ∧ Drawn0 w w' := by
 have H : (if a1 = 0 then (none) else (some (wrap64 (Int.tdiv (wrap64 (a0 + (wrap64 (Int.tdiv a1 2)))) a1)))) = some r := h
 clear h
 by_cases c3 : a1 = 0
 ·rw [if_pos c3] at H
  exact absurd H (by simp)
 ·rw [if_neg c3] at H
  have c3b0 : (a1 == 0) = false := beq_eq_false_iff_ne.mpr c3
  have c3b1 : (a1 != 0) = true := bne_iff_ne.mpr c3
  obtain rfl := Option.some.inj H
  go_enter Try.func82, Try.ntmps82
  go_wp2
  go_ret
  exact ⟨by first | rfl | (simp; done) | (simp [*]; done), by repeat (first | exact Drawn0.refl _ | apply Drawn0.step)⟩

end Go.Proofs.Ytlncbckpcmojpaa.P
namespace Go.Proofs.Ytlncbckpcmojpaa.P
open Go.RowKit Go.Proofs.YtlncbckpcmojpaaW.PrintWords Go.Proofs.YtlncbckpcmojpaaW.PrintLast Go.Proofs.YtlncbckpcmojpaaW.PrintMore
attribute [local go_sem] max2_int min2_int max_two min_two max_three min_three max_four min_four   -- for this text's walks alone
set_option linter.unusedVariables false
set_option linter.unusedSimpArgs false

/-! ### metric_abs: function 83 -/
def metric_abs.f (a0 : Int) : Option (Int) := some (mx a0 (wrap64 (-a0)))
set_option maxHeartbeats 8000000 in
set_option maxRecDepth 100000 in
theorem metric_abs.calls (a0 : Int) (r : Int) (w : World) (h : metric_abs.f a0 = some r) :
  Calls Try.prog 83 #[.int .i64 a0] w fun e w' => e = .returned (.int .i64 r) ∧ Below w.heap.size w w' := by
 have HB := Aside0.mk (Below.refl w.heap.size w)
 have H : (some (mx a0 (wrap64 (-a0)))) = some r := h
 clear h
 obtain ⟨ji2, hji2⟩ : ∃ j_ : Int, (mx a0 (wrap64 (-a0))) = j_ := ⟨_, rfl⟩
 replace H : (some ji2) = some r := by first | (rw [hji2] at H; exact H) | (simp only [hji2] at H ⊢; exact H)
 have hji2_ : (if a0 < (wrap64 (-a0)) then (wrap64 (-a0)) else a0) = ji2 := hji2
 obtain rfl := Option.some.inj H
 go_enter Try.func83, Try.ntmps83
 go_wp2
 go_ret
 exact ⟨by first | rfl | (simp [errW_none, errW_some] <;> rfl) | (simp only [← hji2]; first | rfl | (simp [errW_none, errW_some] <;> rfl)) | (simp [*, errW_none, errW_some] <;> rfl), by repeat (first | (with_reducible first | exact HB.out | apply below_alloc | apply pw_below_drewN | apply below_drew1) | exact HB.out)⟩

end Go.Proofs.Ytlncbckpcmojpaa.P
namespace Go.Proofs.Ytlncbckpcmojpaa.P
open Go.RowKit Go.Proofs.YtlncbckpcmojpaaW.PrintWords Go.Proofs.YtlncbckpcmojpaaW.PrintLast Go.Proofs.YtlncbckpcmojpaaW.PrintMore
attribute [local go_sem] max2_int min2_int max_two min_two max_three min_three max_four min_four   -- for this text's walks alone
set_option linter.unusedVariables false
set_option linter.unusedSimpArgs false

/-! ### metric_Known: function 76 -/
def metric_Known.f (a0 : Int) : Option (Bool) := if 0 ≤ a0 then (some (decide (a0 ≤ 6))) else (some false)
set_option maxHeartbeats 8000000 in
set_option maxRecDepth 100000 in
theorem metric_Known.calls (a0 : Int) (r : Bool) (w : World) (h : metric_Known.f a0 = some r) :
  Calls Try.prog 76 #[.int .i64 a0] w fun e w' => e = .returned (.bool r) ∧ Drawn0 w w' := by
 have H : (if 0 ≤ a0 then (some (decide (a0 ≤ 6))) else (some false)) = some r := h
 clear h
 by_cases c2 : 0 ≤ a0
 ·rw [if_pos c2] at H
  have c2b0 : decide (0 ≤ a0) = true := decide_eq_true c2
  clear c2
  obtain rfl := Option.some.inj H
  go_enter Try.func76, Try.ntmps76
  go_wp2
  go_ret
  exact ⟨by first | rfl | (simp; done) | (simp [*]; done), by repeat (first | exact Drawn0.refl _ | apply Drawn0.step)⟩
 ·rw [if_neg c2] at H
  have c2b0 : decide (0 ≤ a0) = false := decide_eq_false c2
  clear c2
  obtain rfl := Option.some.inj H
  go_enter Try.func76, Try.ntmps76
  go_wp2
  go_ret
  exact ⟨by first | rfl | (simp; done) | (simp [*]; done), by repeat (first | exact Drawn0.refl _ | apply Drawn0.step)⟩

end Go.Proofs.Ytlncbckpcmojpaa.P
namespace Go.Proofs.Ytlncbckpcmojpaa.P
open Go.RowKit Go.Proofs.YtlncbckpcmojpaaW.PrintWords Go.Proofs.YtlncbckpcmojpaaW.PrintLast Go.Proofs.YtlncbckpcmojpaaW.PrintMore
attribute [local go_sem] max2_int min2_int max_two min_two max_three min_three max_four min_four   -- for this text's walks alone
set_option linter.unusedVariables false
set_option linter.unusedSimpArgs false

/-! ### root_up: function 99 -/
def root_up.f (a0 : Int) (a1 : Int) : Option (Int) := if a1 = 0 then (none) else (some (wrap64 (Int.tdiv (wrap64 ((wrap64 (a0 + a1)) - 1)) a1)))
set_option maxHeartbeats 8000000 in
set_option maxRecDepth 100000 in
theorem root_up.calls (a0 : Int) (a1 : Int) (r : Int) (w : World) (h : root_up.f a0 a1 = some r) :
  Calls Try.prog 99 #[.int .i64 a0, .int .i64 a1] w fun e w' => e = .returned (.int .i64 r) ∧ Drawn0 w w' := by
 have H : (if a1 = 0 then (none) else (some (wrap64 (Int.tdiv (wrap64 ((wrap64 (a0 + a1)) - 1)) a1)))) = some r := h
 clear h
 by_cases c3 : a1 = 0
 ·rw [if_pos c3] at H
  exact absurd H (by simp)
 ·rw [if_neg c3] at H
  have c3b0 : (a1 == 0) = false := beq_eq_false_iff_ne.mpr c3
  have c3b1 : (a1 != 0) = true := bne_iff_ne.mpr c3
  obtain rfl := Option.some.inj H
  go_enter Try.func99, Try.ntmps99
  go_wp2
  go_ret
  exact ⟨by first | rfl | (simp; done) | (simp [*]; done), by repeat (first | exact Drawn0.refl _ | apply Drawn0.step)⟩

end Go.Proofs.Ytlncbckpcmojpaa.P
namespace Go.Proofs.Ytlncbckpcmojpaa.P
open Go.RowKit Go.Proofs.YtlncbckpcmojpaaW.PrintWords Go.Proofs.YtlncbckpcmojpaaW.PrintLast Go.Proofs.YtlncbckpcmojpaaW.PrintMore
attribute [local go_sem] max2_int min2_int max_two min_two max_three min_three max_four min_four   -- for this text's walks alone
set_option linter.unusedVariables false
set_option linter.unusedSimpArgs false

/-! ### bits_Len64: function 107 -/
def bits_Len64.j0 : Nat → Int → Int → Option (Int)
 | 0, _, _ => none
 | k + 1, x0, x2 => if x0 ≥ 65536 then (if (x0 / 65536) ≥ 256 then (if 0 ≤ (((x0 / 65536) / 256) % 256) then (if (((x0 / 65536) / 256) % 256) < 256 then (some (wrap64 ((wrap64 ((wrap64 (x2 + 16)) + 8)) + (wrap64 (bt (⟨#[0, 1, 2, 2, 3, 3, 3, 3, 4, 4, 4, 4, 4, 4, 4, 4, 5, 5, 5, 5, 5, 5, 5, 5, 5, 5, 5, 5, 5, 5, 5, 5, 6, 6, 6, 6, 6, 6, 6, 6, 6, 6, 6, 6, 6, 6, 6, 6, 6, 6, 6, 6, 6, 6, 6, 6, 6, 6, 6, 6, 6, 6, 6, 6, 7, 7, 7, 7, 7, 7, 7, 7, 7, 7, 7, 7, 7, 7, 7, 7, 7, 7, 7, 7, 7, 7, 7, 7, 7, 7, 7, 7, 7, 7, 7, 7, 7, 7, 7, 7, 7, 7, 7, 7, 7, 7, 7, 7, 7, 7, 7, 7, 7, 7, 7, 7, 7, 7, 7, 7, 7, 7, 7, 7, 7, 7, 7, 7, 8, 8, 8, 8, 8, 8, 8, 8, 8, 8, 8, 8, 8, 8, 8, 8, 8, 8, 8, 8, 8, 8, 8, 8, 8, 8, 8, 8, 8, 8, 8, 8, 8, 8, 8, 8, 8, 8, 8, 8, 8, 8, 8, 8, 8, 8, 8, 8, 8, 8, 8, 8, 8, 8, 8, 8, 8, 8, 8, 8, 8, 8, 8, 8, 8, 8, 8, 8, 8, 8, 8, 8, 8, 8, 8, 8, 8, 8, 8, 8, 8, 8, 8, 8, 8, 8, 8, 8, 8, 8, 8, 8, 8, 8, 8, 8, 8, 8, 8, 8, 8, 8, 8, 8, 8, 8, 8, 8, 8, 8, 8, 8, 8, 8, 8, 8, 8, 8, 8, 8, 8, 8, 8, 8, 8, 8, 8, 8]⟩ : ByteArray) (((x0 / 65536) / 256) % 256)))))) else (none)) else (none)) else (if 0 ≤ ((x0 / 65536) % 256) then (if ((x0 / 65536) % 256) < 256 then (some (wrap64 ((wrap64 (x2 + 16)) + (wrap64 (bt (⟨#[0, 1, 2, 2, 3, 3, 3, 3, 4, 4, 4, 4, 4, 4, 4, 4, 5, 5, 5, 5, 5, 5, 5, 5, 5, 5, 5, 5, 5, 5, 5, 5, 6, 6, 6, 6, 6, 6, 6, 6, 6, 6, 6, 6, 6, 6, 6, 6, 6, 6, 6, 6, 6, 6, 6, 6, 6, 6, 6, 6, 6, 6, 6, 6, 7, 7, 7, 7, 7, 7, 7, 7, 7, 7, 7, 7, 7, 7, 7, 7, 7, 7, 7, 7, 7, 7, 7, 7, 7, 7, 7, 7, 7, 7, 7, 7, 7, 7, 7, 7, 7, 7, 7, 7, 7, 7, 7, 7, 7, 7, 7, 7, 7, 7, 7, 7, 7, 7, 7, 7, 7, 7, 7, 7, 7, 7, 7, 7, 8, 8, 8, 8, 8, 8, 8, 8, 8, 8, 8, 8, 8, 8, 8, 8, 8, 8, 8, 8, 8, 8, 8, 8, 8, 8, 8, 8, 8, 8, 8, 8, 8, 8, 8, 8, 8, 8, 8, 8, 8, 8, 8, 8, 8, 8, 8, 8, 8, 8, 8, 8, 8, 8, 8, 8, 8, 8, 8, 8, 8, 8, 8, 8, 8, 8, 8, 8, 8, 8, 8, 8, 8, 8, 8, 8, 8, 8, 8, 8, 8, 8, 8, 8, 8, 8, 8, 8, 8, 8, 8, 8, 8, 8, 8, 8, 8, 8, 8, 8, 8, 8, 8, 8, 8, 8, 8, 8, 8, 8, 8, 8, 8, 8, 8, 8, 8, 8, 8, 8, 8, 8, 8, 8, 8, 8, 8, 8]⟩ : ByteArray) ((x0 / 65536) % 256)))))) else (none)) else (none))) else (if x0 ≥ 256 then (if 0 ≤ ((x0 / 256) % 256) then (if ((x0 / 256) % 256) < 256 then (some (wrap64 ((wrap64 (x2 + 8)) + (wrap64 (bt (⟨#[0, 1, 2, 2, 3, 3, 3, 3, 4, 4, 4, 4, 4, 4, 4, 4, 5, 5, 5, 5, 5, 5, 5, 5, 5, 5, 5, 5, 5, 5, 5, 5, 6, 6, 6, 6, 6, 6, 6, 6, 6, 6, 6, 6, 6, 6, 6, 6, 6, 6, 6, 6, 6, 6, 6, 6, 6, 6, 6, 6, 6, 6, 6, 6, 7, 7, 7, 7, 7, 7, 7, 7, 7, 7, 7, 7, 7, 7, 7, 7, 7, 7, 7, 7, 7, 7, 7, 7, 7, 7, 7, 7, 7, 7, 7, 7, 7, 7, 7, 7, 7, 7, 7, 7, 7, 7, 7, 7, 7, 7, 7, 7, 7, 7, 7, 7, 7, 7, 7, 7, 7, 7, 7, 7, 7, 7, 7, 7, 8, 8, 8, 8, 8, 8, 8, 8, 8, 8, 8, 8, 8, 8, 8, 8, 8, 8, 8, 8, 8, 8, 8, 8, 8, 8, 8, 8, 8, 8, 8, 8, 8, 8, 8, 8, 8, 8, 8, 8, 8, 8, 8, 8, 8, 8, 8, 8, 8, 8, 8, 8, 8, 8, 8, 8, 8, 8, 8, 8, 8, 8, 8, 8, 8, 8, 8, 8, 8, 8, 8, 8, 8, 8, 8, 8, 8, 8, 8, 8, 8, 8, 8, 8, 8, 8, 8, 8, 8, 8, 8, 8, 8, 8, 8, 8, 8, 8, 8, 8, 8, 8, 8, 8, 8, 8, 8, 8, 8, 8, 8, 8, 8, 8, 8, 8, 8, 8, 8, 8, 8, 8, 8, 8, 8, 8, 8, 8]⟩ : ByteArray) ((x0 / 256) % 256)))))) else (none)) else (none)) else (if 0 ≤ ((x0) % 256) then (if ((x0) % 256) < 256 then (some (wrap64 (x2 + (wrap64 (bt (⟨#[0, 1, 2, 2, 3, 3, 3, 3, 4, 4, 4, 4, 4, 4, 4, 4, 5, 5, 5, 5, 5, 5, 5, 5, 5, 5, 5, 5, 5, 5, 5, 5, 6, 6, 6, 6, 6, 6, 6, 6, 6, 6, 6, 6, 6, 6, 6, 6, 6, 6, 6, 6, 6, 6, 6, 6, 6, 6, 6, 6, 6, 6, 6, 6, 7, 7, 7, 7, 7, 7, 7, 7, 7, 7, 7, 7, 7, 7, 7, 7, 7, 7, 7, 7, 7, 7, 7, 7, 7, 7, 7, 7, 7, 7, 7, 7, 7, 7, 7, 7, 7, 7, 7, 7, 7, 7, 7, 7, 7, 7, 7, 7, 7, 7, 7, 7, 7, 7, 7, 7, 7, 7, 7, 7, 7, 7, 7, 7, 8, 8, 8, 8, 8, 8, 8, 8, 8, 8, 8, 8, 8, 8, 8, 8, 8, 8, 8, 8, 8, 8, 8, 8, 8, 8, 8, 8, 8, 8, 8, 8, 8, 8, 8, 8, 8, 8, 8, 8, 8, 8, 8, 8, 8, 8, 8, 8, 8, 8, 8, 8, 8, 8, 8, 8, 8, 8, 8, 8, 8, 8, 8, 8, 8, 8, 8, 8, 8, 8, 8, 8, 8, 8, 8, 8, 8, 8, 8, 8, 8, 8, 8, 8, 8, 8, 8, 8, 8, 8, 8, 8, 8, 8, 8, 8, 8, 8, 8, 8, 8, 8, 8, 8, 8, 8, 8, 8, 8, 8, 8, 8, 8, 8, 8, 8, 8, 8, 8, 8, 8, 8, 8, 8, 8, 8, 8, 8]⟩ : ByteArray) ((x0) % 256)))))) else (none)) else (none)))
def bits_Len64.f (k : Nat) (a0 : Int) : Option (Int) := if a0 ≥ 4294967296 then (bits_Len64.j0 k (a0 / 4294967296) 32) else (bits_Len64.j0 k a0 0)
theorem bits_Len64.mono_l : ∀ k, (∀ y0 y1, LeO (bits_Len64.j0 k y0 y1) (bits_Len64.j0 (k + 1) y0 y1))
 | 0 => fun _ _ r h => by simp [bits_Len64.j0] at h
 | k + 1 => by
  have ih0 := bits_Len64.mono_l k
  ·intro y0 y1
   unfold bits_Len64.j0
   repeat' first
   | (with_reducible exact ih0 _ _)
   | (with_reducible exact LeO.refl _)
   | (with_reducible exact LeO.none _)
   | (with_reducible refine LeO.ite ?_ ?_)
   | (with_reducible refine LeO.bind ?_ (fun _ => ?_))
   | exact ih0 _ _
   | exact LeO.none _
   | refine LeO.ite ?_ ?_
   | refine LeO.bind ?_ (fun _ => ?_)
theorem bits_Len64.mono : ∀ a0 k, LeO (bits_Len64.f k a0) (bits_Len64.f (k + 1) a0) := by
 intro a0 k
 have ih0 := bits_Len64.mono_l k
 unfold bits_Len64.f
 repeat' first
   | (with_reducible exact ih0 _ _)
   | (with_reducible exact LeO.refl _)
   | (with_reducible exact LeO.none _)
   | (with_reducible refine LeO.ite ?_ ?_)
   | (with_reducible refine LeO.bind ?_ (fun _ => ?_))
   | exact ih0 _ _
   | exact LeO.none _
   | refine LeO.ite ?_ ?_
   | refine LeO.bind ?_ (fun _ => ?_)
set_option maxHeartbeats 8000000 in
set_option maxRecDepth 100000 in
theorem bits_Len64.calls (k : Nat) (a0 : Int) (r : Int) (w : World) (h : bits_Len64.f k a0 = some r) :
  Calls Try.prog 107 #[.int .u64 a0] w fun e w' => e = .returned (.int .i64 r) ∧ Drawn0 w w' := by
 have H : (if a0 ≥ 4294967296 then (bits_Len64.j0 k (a0 / 4294967296) 32) else (bits_Len64.j0 k a0 0)) = some r := h
 clear h
 have HC2 := Aside0.mk H
 clear H
 go_enter Try.func107, Try.ntmps107
 go_upto_if 4 with (fail)
 go_cut [0, 2] (fun v0 v2 wc => ∃ (kq : Nat) (x0_1 : Int) (x2_1 : Int), v0 = .int .u64 x0_1 ∧ v2 = .int .i64 x2_1 ∧ Aside0 (bits_Len64.j0 kq x0_1 x2_1 = some r) ∧ Aside0 (kq ≤ k) ∧ Drawn0 w wc)
 case first =>
  have H := HC2.out
  clear HC2
  by_cases c3 : a0 ≥ 4294967296
  ·rw [if_pos c3] at H
   have c3b0 : decide (4294967296 ≤ a0) = true := decide_eq_true c3
   clear c3
   (first | rw [c3b0] | (simp only [i64_w, i32_w]; rw [c3b0]) | skip)
   have H' := Aside0.mk H
   clear H
   go_wp2
   go_meet
   case rel => exact ⟨_, (a0 / 4294967296), (32), (by first | rfl | (simp; done) | (simp [*]; done)), (by first | rfl | (simp; done) | (simp [*]; done)), H', ⟨by first | omega | exact Nat.le_refl _⟩, by repeat (first | exact Drawn0.refl _ | apply Drawn0.step)⟩
  ·rw [if_neg c3] at H
   have c3b0 : decide (4294967296 ≤ a0) = false := decide_eq_false c3
   clear c3
   (first | rw [c3b0] | (simp only [i64_w, i32_w]; rw [c3b0]) | skip)
   have H' := Aside0.mk H
   clear H
   go_wp2
   go_meet
   case rel => exact ⟨_, (a0), (0), (by first | rfl | (simp; done) | (simp [*]; done)), (by first | rfl | (simp; done) | (simp [*]; done)), H', ⟨by first | omega | exact Nat.le_refl _⟩, by repeat (first | exact Drawn0.refl _ | apply Drawn0.step)⟩
 case rest =>
  clear HC2
  obtain ⟨kq, x0_1, x2_1, rfl, rfl, HA, HJ1, ⟨mc1, rfl⟩⟩ := hcut
  cases kq with
  | zero => exact absurd HA.out (by simp [bits_Len64.j0])
  | succ kj1 =>
   have H := HA.out
   clear HA
   simp only [bits_Len64.j0] at H
   by_cases c4 : x0_1 ≥ 65536
   ·rw [if_pos c4] at H
    have c4b0 : decide (65536 ≤ x0_1) = true := decide_eq_true c4
    clear c4
    by_cases c5 : (x0_1 / 65536) ≥ 256
    ·rw [if_pos c5] at H
     have c5b0 : decide (256 ≤ (x0_1 / 65536)) = true := decide_eq_true c5
     clear c5
     obtain ⟨ji6, hji6⟩ : ∃ j_ : Int, (((x0_1 / 65536) / 256) % 256) = j_ := ⟨_, rfl⟩
     replace H : (if 0 ≤ (ji6) then (if (ji6) < 256 then (some (wrap64 ((wrap64 ((wrap64 (x2_1 + 16)) + 8)) + (wrap64 (bt (⟨#[0, 1, 2, 2, 3, 3, 3, 3, 4, 4, 4, 4, 4, 4, 4, 4, 5, 5, 5, 5, 5, 5, 5, 5, 5, 5, 5, 5, 5, 5, 5, 5, 6, 6, 6, 6, 6, 6, 6, 6, 6, 6, 6, 6, 6, 6, 6, 6, 6, 6, 6, 6, 6, 6, 6, 6, 6, 6, 6, 6, 6, 6, 6, 6, 7, 7, 7, 7, 7, 7, 7, 7, 7, 7, 7, 7, 7, 7, 7, 7, 7, 7, 7, 7, 7, 7, 7, 7, 7, 7, 7, 7, 7, 7, 7, 7, 7, 7, 7, 7, 7, 7, 7, 7, 7, 7, 7, 7, 7, 7, 7, 7, 7, 7, 7, 7, 7, 7, 7, 7, 7, 7, 7, 7, 7, 7, 7, 7, 8, 8, 8, 8, 8, 8, 8, 8, 8, 8, 8, 8, 8, 8, 8, 8, 8, 8, 8, 8, 8, 8, 8, 8, 8, 8, 8, 8, 8, 8, 8, 8, 8, 8, 8, 8, 8, 8, 8, 8, 8, 8, 8, 8, 8, 8, 8, 8, 8, 8, 8, 8, 8, 8, 8, 8, 8, 8, 8, 8, 8, 8, 8, 8, 8, 8, 8, 8, 8, 8, 8, 8, 8, 8, 8, 8, 8, 8, 8, 8, 8, 8, 8, 8, 8, 8, 8, 8, 8, 8, 8, 8, 8, 8, 8, 8, 8, 8, 8, 8, 8, 8, 8, 8, 8, 8, 8, 8, 8, 8, 8, 8, 8, 8, 8, 8, 8, 8, 8, 8, 8, 8, 8, 8, 8, 8, 8, 8]⟩ : ByteArray) (ji6)))))) else (none)) else (none)) = some r := by first | (rw [hji6] at H; exact H) | (simp only [hji6] at H ⊢; exact H)
     by_cases c7 : 0 ≤ (ji6)
     ·rw [if_pos c7] at H
      have c7b0 : decide (0 ≤ (ji6)) = true := decide_eq_true c7
      clear c7
      by_cases c8 : (ji6) < 256
      ·rw [if_pos c8] at H
       have c8b0 : decide ((ji6) < 256) = true := decide_eq_true c8
       clear c8
       obtain rfl := Option.some.inj H
       have p9 : 0 ≤ ((ji6) : Int) := of_decide_eq_true (by first | (with_reducible assumption) | assumption)
       have q9 : (ji6) < (256 : Int) := of_decide_eq_true (by first | (with_reducible assumption) | assumption)
       have hx9 := bt_at (⟨#[0, 1, 2, 2, 3, 3, 3, 3, 4, 4, 4, 4, 4, 4, 4, 4, 5, 5, 5, 5, 5, 5, 5, 5, 5, 5, 5, 5, 5, 5, 5, 5, 6, 6, 6, 6, 6, 6, 6, 6, 6, 6, 6, 6, 6, 6, 6, 6, 6, 6, 6, 6, 6, 6, 6, 6, 6, 6, 6, 6, 6, 6, 6, 6, 7, 7, 7, 7, 7, 7, 7, 7, 7, 7, 7, 7, 7, 7, 7, 7, 7, 7, 7, 7, 7, 7, 7, 7, 7, 7, 7, 7, 7, 7, 7, 7, 7, 7, 7, 7, 7, 7, 7, 7, 7, 7, 7, 7, 7, 7, 7, 7, 7, 7, 7, 7, 7, 7, 7, 7, 7, 7, 7, 7, 7, 7, 7, 7, 8, 8, 8, 8, 8, 8, 8, 8, 8, 8, 8, 8, 8, 8, 8, 8, 8, 8, 8, 8, 8, 8, 8, 8, 8, 8, 8, 8, 8, 8, 8, 8, 8, 8, 8, 8, 8, 8, 8, 8, 8, 8, 8, 8, 8, 8, 8, 8, 8, 8, 8, 8, 8, 8, 8, 8, 8, 8, 8, 8, 8, 8, 8, 8, 8, 8, 8, 8, 8, 8, 8, 8, 8, 8, 8, 8, 8, 8, 8, 8, 8, 8, 8, 8, 8, 8, 8, 8, 8, 8, 8, 8, 8, 8, 8, 8, 8, 8, 8, 8, 8, 8, 8, 8, 8, 8, 8, 8, 8, 8, 8, 8, 8, 8, 8, 8, 8, 8, 8, 8, 8, 8, 8, 8, 8, 8, 8, 8]⟩ : ByteArray) (ji6)
       replace p9 := eq_true p9
       replace q9 := eq_true q9
       go_wp2
       go_ret
       exact ⟨by first | rfl | (simp; done) | (simp only [← hji6] <;> (first | rfl | simp)) | (simp [*]; done), by repeat (first | exact Drawn0.refl _ | apply Drawn0.step)⟩
      ·rw [if_neg c8] at H
       exact absurd H (by simp)
     ·rw [if_neg c7] at H
      exact absurd H (by simp)
    ·rw [if_neg c5] at H
     have c5b0 : decide (256 ≤ (x0_1 / 65536)) = false := decide_eq_false c5
     clear c5
     obtain ⟨ji10, hji10⟩ : ∃ j_ : Int, ((x0_1 / 65536) % 256) = j_ := ⟨_, rfl⟩
     replace H : (if 0 ≤ (ji10) then (if (ji10) < 256 then (some (wrap64 ((wrap64 (x2_1 + 16)) + (wrap64 (bt (⟨#[0, 1, 2, 2, 3, 3, 3, 3, 4, 4, 4, 4, 4, 4, 4, 4, 5, 5, 5, 5, 5, 5, 5, 5, 5, 5, 5, 5, 5, 5, 5, 5, 6, 6, 6, 6, 6, 6, 6, 6, 6, 6, 6, 6, 6, 6, 6, 6, 6, 6, 6, 6, 6, 6, 6, 6, 6, 6, 6, 6, 6, 6, 6, 6, 7, 7, 7, 7, 7, 7, 7, 7, 7, 7, 7, 7, 7, 7, 7, 7, 7, 7, 7, 7, 7, 7, 7, 7, 7, 7, 7, 7, 7, 7, 7, 7, 7, 7, 7, 7, 7, 7, 7, 7, 7, 7, 7, 7, 7, 7, 7, 7, 7, 7, 7, 7, 7, 7, 7, 7, 7, 7, 7, 7, 7, 7, 7, 7, 8, 8, 8, 8, 8, 8, 8, 8, 8, 8, 8, 8, 8, 8, 8, 8, 8, 8, 8, 8, 8, 8, 8, 8, 8, 8, 8, 8, 8, 8, 8, 8, 8, 8, 8, 8, 8, 8, 8, 8, 8, 8, 8, 8, 8, 8, 8, 8, 8, 8, 8, 8, 8, 8, 8, 8, 8, 8, 8, 8, 8, 8, 8, 8, 8, 8, 8, 8, 8, 8, 8, 8, 8, 8, 8, 8, 8, 8, 8, 8, 8, 8, 8, 8, 8, 8, 8, 8, 8, 8, 8, 8, 8, 8, 8, 8, 8, 8, 8, 8, 8, 8, 8, 8, 8, 8, 8, 8, 8, 8, 8, 8, 8, 8, 8, 8, 8, 8, 8, 8, 8, 8, 8, 8, 8, 8, 8, 8]⟩ : ByteArray) (ji10)))))) else (none)) else (none)) = some r := by first | (rw [hji10] at H; exact H) | (simp only [hji10] at H ⊢; exact H)
     by_cases c11 : 0 ≤ (ji10)
     ·rw [if_pos c11] at H
      have c11b0 : decide (0 ≤ (ji10)) = true := decide_eq_true c11
      clear c11
      by_cases c12 : (ji10) < 256
      ·rw [if_pos c12] at H
       have c12b0 : decide ((ji10) < 256) = true := decide_eq_true c12
       clear c12
       obtain rfl := Option.some.inj H
       have p13 : 0 ≤ ((ji10) : Int) := of_decide_eq_true (by first | (with_reducible assumption) | assumption)
       have q13 : (ji10) < (256 : Int) := of_decide_eq_true (by first | (with_reducible assumption) | assumption)
       have hx13 := bt_at (⟨#[0, 1, 2, 2, 3, 3, 3, 3, 4, 4, 4, 4, 4, 4, 4, 4, 5, 5, 5, 5, 5, 5, 5, 5, 5, 5, 5, 5, 5, 5, 5, 5, 6, 6, 6, 6, 6, 6, 6, 6, 6, 6, 6, 6, 6, 6, 6, 6, 6, 6, 6, 6, 6, 6, 6, 6, 6, 6, 6, 6, 6, 6, 6, 6, 7, 7, 7, 7, 7, 7, 7, 7, 7, 7, 7, 7, 7, 7, 7, 7, 7, 7, 7, 7, 7, 7, 7, 7, 7, 7, 7, 7, 7, 7, 7, 7, 7, 7, 7, 7, 7, 7, 7, 7, 7, 7, 7, 7, 7, 7, 7, 7, 7, 7, 7, 7, 7, 7, 7, 7, 7, 7, 7, 7, 7, 7, 7, 7, 8, 8, 8, 8, 8, 8, 8, 8, 8, 8, 8, 8, 8, 8, 8, 8, 8, 8, 8, 8, 8, 8, 8, 8, 8, 8, 8, 8, 8, 8, 8, 8, 8, 8, 8, 8, 8, 8, 8, 8, 8, 8, 8, 8, 8, 8, 8, 8, 8, 8, 8, 8, 8, 8, 8, 8, 8, 8, 8, 8, 8, 8, 8, 8, 8, 8, 8, 8, 8, 8, 8, 8, 8, 8, 8, 8, 8, 8, 8, 8, 8, 8, 8, 8, 8, 8, 8, 8, 8, 8, 8, 8, 8, 8, 8, 8, 8, 8, 8, 8, 8, 8, 8, 8, 8, 8, 8, 8, 8, 8, 8, 8, 8, 8, 8, 8, 8, 8, 8, 8, 8, 8, 8, 8, 8, 8, 8, 8]⟩ : ByteArray) (ji10)
       replace p13 := eq_true p13
       replace q13 := eq_true q13
       go_wp2
       go_ret
       exact ⟨by first | rfl | (simp; done) | (simp only [← hji10] <;> (first | rfl | simp)) | (simp [*]; done), by repeat (first | exact Drawn0.refl _ | apply Drawn0.step)⟩
      ·rw [if_neg c12] at H
       exact absurd H (by simp)
     ·rw [if_neg c11] at H
      exact absurd H (by simp)
   ·rw [if_neg c4] at H
    have c4b0 : decide (65536 ≤ x0_1) = false := decide_eq_false c4
    clear c4
    by_cases c14 : x0_1 ≥ 256
    ·rw [if_pos c14] at H
     have c14b0 : decide (256 ≤ x0_1) = true := decide_eq_true c14
     clear c14
     obtain ⟨ji15, hji15⟩ : ∃ j_ : Int, ((x0_1 / 256) % 256) = j_ := ⟨_, rfl⟩
     replace H : (if 0 ≤ (ji15) then (if (ji15) < 256 then (some (wrap64 ((wrap64 (x2_1 + 8)) + (wrap64 (bt (⟨#[0, 1, 2, 2, 3, 3, 3, 3, 4, 4, 4, 4, 4, 4, 4, 4, 5, 5, 5, 5, 5, 5, 5, 5, 5, 5, 5, 5, 5, 5, 5, 5, 6, 6, 6, 6, 6, 6, 6, 6, 6, 6, 6, 6, 6, 6, 6, 6, 6, 6, 6, 6, 6, 6, 6, 6, 6, 6, 6, 6, 6, 6, 6, 6, 7, 7, 7, 7, 7, 7, 7, 7, 7, 7, 7, 7, 7, 7, 7, 7, 7, 7, 7, 7, 7, 7, 7, 7, 7, 7, 7, 7, 7, 7, 7, 7, 7, 7, 7, 7, 7, 7, 7, 7, 7, 7, 7, 7, 7, 7, 7, 7, 7, 7, 7, 7, 7, 7, 7, 7, 7, 7, 7, 7, 7, 7, 7, 7, 8, 8, 8, 8, 8, 8, 8, 8, 8, 8, 8, 8, 8, 8, 8, 8, 8, 8, 8, 8, 8, 8, 8, 8, 8, 8, 8, 8, 8, 8, 8, 8, 8, 8, 8, 8, 8, 8, 8, 8, 8, 8, 8, 8, 8, 8, 8, 8, 8, 8, 8, 8, 8, 8, 8, 8, 8, 8, 8, 8, 8, 8, 8, 8, 8, 8, 8, 8, 8, 8, 8, 8, 8, 8, 8, 8, 8, 8, 8, 8, 8, 8, 8, 8, 8, 8, 8, 8, 8, 8, 8, 8, 8, 8, 8, 8, 8, 8, 8, 8, 8, 8, 8, 8, 8, 8, 8, 8, 8, 8, 8, 8, 8, 8, 8, 8, 8, 8, 8, 8, 8, 8, 8, 8, 8, 8, 8, 8]⟩ : ByteArray) (ji15)))))) else (none)) else (none)) = some r := by first | (rw [hji15] at H; exact H) | (simp only [hji15] at H ⊢; exact H)
     by_cases c16 : 0 ≤ (ji15)
     ·rw [if_pos c16] at H
      have c16b0 : decide (0 ≤ (ji15)) = true := decide_eq_true c16
      clear c16
      by_cases c17 : (ji15) < 256
      ·rw [if_pos c17] at H
       have c17b0 : decide ((ji15) < 256) = true := decide_eq_true c17
       clear c17
       obtain rfl := Option.some.inj H
       have p18 : 0 ≤ ((ji15) : Int) := of_decide_eq_true (by first | (with_reducible assumption) | assumption)
       have q18 : (ji15) < (256 : Int) := of_decide_eq_true (by first | (with_reducible assumption) | assumption)
       have hx18 := bt_at (⟨#[0, 1, 2, 2, 3, 3, 3, 3, 4, 4, 4, 4, 4, 4, 4, 4, 5, 5, 5, 5, 5, 5, 5, 5, 5, 5, 5, 5, 5, 5, 5, 5, 6, 6, 6, 6, 6, 6, 6, 6, 6, 6, 6, 6, 6, 6, 6, 6, 6, 6, 6, 6, 6, 6, 6, 6, 6, 6, 6, 6, 6, 6, 6, 6, 7, 7, 7, 7, 7, 7, 7, 7, 7, 7, 7, 7, 7, 7, 7, 7, 7, 7, 7, 7, 7, 7, 7, 7, 7, 7, 7, 7, 7, 7, 7, 7, 7, 7, 7, 7, 7, 7, 7, 7, 7, 7, 7, 7, 7, 7, 7, 7, 7, 7, 7, 7, 7, 7, 7, 7, 7, 7, 7, 7, 7, 7, 7, 7, 8, 8, 8, 8, 8, 8, 8, 8, 8, 8, 8, 8, 8, 8, 8, 8, 8, 8, 8, 8, 8, 8, 8, 8, 8, 8, 8, 8, 8, 8, 8, 8, 8, 8, 8, 8, 8, 8, 8, 8, 8, 8, 8, 8, 8, 8, 8, 8, 8, 8, 8, 8, 8, 8, 8, 8, 8, 8, 8, 8, 8, 8, 8, 8, 8, 8, 8, 8, 8, 8, 8, 8, 8, 8, 8, 8, 8, 8, 8, 8, 8, 8, 8, 8, 8, 8, 8, 8, 8, 8, 8, 8, 8, 8, 8, 8, 8, 8, 8, 8, 8, 8, 8, 8, 8, 8, 8, 8, 8, 8, 8, 8, 8, 8, 8, 8, 8, 8, 8, 8, 8, 8, 8, 8, 8, 8, 8, 8]⟩ : ByteArray) (ji15)
       replace p18 := eq_true p18
       replace q18 := eq_true q18
       go_wp2
       go_ret
       exact ⟨by first | rfl | (simp; done) | (simp only [← hji15] <;> (first | rfl | simp)) | (simp [*]; done), by repeat (first | exact Drawn0.refl _ | apply Drawn0.step)⟩
      ·rw [if_neg c17] at H
       exact absurd H (by simp)
     ·rw [if_neg c16] at H
      exact absurd H (by simp)
    ·rw [if_neg c14] at H
     have c14b0 : decide (256 ≤ x0_1) = false := decide_eq_false c14
     clear c14
     obtain ⟨ji19, hji19⟩ : ∃ j_ : Int, ((x0_1) % 256) = j_ := ⟨_, rfl⟩
     replace H : (if 0 ≤ (ji19) then (if (ji19) < 256 then (some (wrap64 (x2_1 + (wrap64 (bt (⟨#[0, 1, 2, 2, 3, 3, 3, 3, 4, 4, 4, 4, 4, 4, 4, 4, 5, 5, 5, 5, 5, 5, 5, 5, 5, 5, 5, 5, 5, 5, 5, 5, 6, 6, 6, 6, 6, 6, 6, 6, 6, 6, 6, 6, 6, 6, 6, 6, 6, 6, 6, 6, 6, 6, 6, 6, 6, 6, 6, 6, 6, 6, 6, 6, 7, 7, 7, 7, 7, 7, 7, 7, 7, 7, 7, 7, 7, 7, 7, 7, 7, 7, 7, 7, 7, 7, 7, 7, 7, 7, 7, 7, 7, 7, 7, 7, 7, 7, 7, 7, 7, 7, 7, 7, 7, 7, 7, 7, 7, 7, 7, 7, 7, 7, 7, 7, 7, 7, 7, 7, 7, 7, 7, 7, 7, 7, 7, 7, 8, 8, 8, 8, 8, 8, 8, 8, 8, 8, 8, 8, 8, 8, 8, 8, 8, 8, 8, 8, 8, 8, 8, 8, 8, 8, 8, 8, 8, 8, 8, 8, 8, 8, 8, 8, 8, 8, 8, 8, 8, 8, 8, 8, 8, 8, 8, 8, 8, 8, 8, 8, 8, 8, 8, 8, 8, 8, 8, 8, 8, 8, 8, 8, 8, 8, 8, 8, 8, 8, 8, 8, 8, 8, 8, 8, 8, 8, 8, 8, 8, 8, 8, 8, 8, 8, 8, 8, 8, 8, 8, 8, 8, 8, 8, 8, 8, 8, 8, 8, 8, 8, 8, 8, 8, 8, 8, 8, 8, 8, 8, 8, 8, 8, 8, 8, 8, 8, 8, 8, 8, 8, 8, 8, 8, 8, 8, 8]⟩ : ByteArray) (ji19)))))) else (none)) else (none)) = some r := by first | (rw [hji19] at H; exact H) | (simp only [hji19] at H ⊢; exact H)
     by_cases c20 : 0 ≤ (ji19)
     ·rw [if_pos c20] at H
      have c20b0 : decide (0 ≤ (ji19)) = true := decide_eq_true c20
      clear c20
      by_cases c21 : (ji19) < 256
      ·rw [if_pos c21] at H
       have c21b0 : decide ((ji19) < 256) = true := decide_eq_true c21
       clear c21
       obtain rfl := Option.some.inj H
       have p22 : 0 ≤ ((ji19) : Int) := of_decide_eq_true (by first | (with_reducible assumption) | assumption)
       have q22 : (ji19) < (256 : Int) := of_decide_eq_true (by first | (with_reducible assumption) | assumption)
       have hx22 := bt_at (⟨#[0, 1, 2, 2, 3, 3, 3, 3, 4, 4, 4, 4, 4, 4, 4, 4, 5, 5, 5, 5, 5, 5, 5, 5, 5, 5, 5, 5, 5, 5, 5, 5, 6, 6, 6, 6, 6, 6, 6, 6, 6, 6, 6, 6, 6, 6, 6, 6, 6, 6, 6, 6, 6, 6, 6, 6, 6, 6, 6, 6, 6, 6, 6, 6, 7, 7, 7, 7, 7, 7, 7, 7, 7, 7, 7, 7, 7, 7, 7, 7, 7, 7, 7, 7, 7, 7, 7, 7, 7, 7, 7, 7, 7, 7, 7, 7, 7, 7, 7, 7, 7, 7, 7, 7, 7, 7, 7, 7, 7, 7, 7, 7, 7, 7, 7, 7, 7, 7, 7, 7, 7, 7, 7, 7, 7, 7, 7, 7, 8, 8, 8, 8, 8, 8, 8, 8, 8, 8, 8, 8, 8, 8, 8, 8, 8, 8, 8, 8, 8, 8, 8, 8, 8, 8, 8, 8, 8, 8, 8, 8, 8, 8, 8, 8, 8, 8, 8, 8, 8, 8, 8, 8, 8, 8, 8, 8, 8, 8, 8, 8, 8, 8, 8, 8, 8, 8, 8, 8, 8, 8, 8, 8, 8, 8, 8, 8, 8, 8, 8, 8, 8, 8, 8, 8, 8, 8, 8, 8, 8, 8, 8, 8, 8, 8, 8, 8, 8, 8, 8, 8, 8, 8, 8, 8, 8, 8, 8, 8, 8, 8, 8, 8, 8, 8, 8, 8, 8, 8, 8, 8, 8, 8, 8, 8, 8, 8, 8, 8, 8, 8, 8, 8, 8, 8, 8, 8]⟩ : ByteArray) (ji19)
       replace p22 := eq_true p22
       replace q22 := eq_true q22
       go_wp2
       go_ret
       exact ⟨by first | rfl | (simp; done) | (simp only [← hji19] <;> (first | rfl | simp)) | (simp [*]; done), by repeat (first | exact Drawn0.refl _ | apply Drawn0.step)⟩
      ·rw [if_neg c21] at H
       exact absurd H (by simp)
     ·rw [if_neg c20] at H
      exact absurd H (by simp)

end Go.Proofs.Ytlncbckpcmojpaa.P
namespace Go.Proofs.Ytlncbckpcmojpaa.P
open Go.RowKit Go.Proofs.YtlncbckpcmojpaaW.PrintWords Go.Proofs.YtlncbckpcmojpaaW.PrintLast Go.Proofs.YtlncbckpcmojpaaW.PrintMore
attribute [local go_sem] max2_int min2_int max_two min_two max_three min_three max_four min_four   -- for this text's walks alone
set_option linter.unusedVariables false
set_option linter.unusedSimpArgs false

/-! ### bits_Len: function 105 -/
def bits_Len.f (k : Nat) (a0 : Int) : Option (Int) := (bits_Len64.f k a0).bind fun t101 => (some t101)
theorem bits_Len.mono : ∀ a0 k, LeO (bits_Len.f k a0) (bits_Len.f (k + 1) a0) := by
 intro a0 k
 unfold bits_Len.f
 repeat' first
   | (with_reducible exact bits_Len64.mono _ _)
   | (with_reducible exact LeO.refl _)
   | (with_reducible exact LeO.none _)
   | (with_reducible refine LeO.ite ?_ ?_)
   | (with_reducible refine LeO.bind ?_ (fun _ => ?_))
   | exact bits_Len64.mono _ _
   | exact LeO.none _
   | refine LeO.ite ?_ ?_
   | refine LeO.bind ?_ (fun _ => ?_)
set_option maxHeartbeats 8000000 in
set_option maxRecDepth 100000 in
theorem bits_Len.calls (k : Nat) (a0 : Int) (r : Int) (w : World) (h : bits_Len.f k a0 = some r) :
  Calls Try.prog 105 #[.int .u64 a0] w fun e w' => e = .returned (.int .i64 r) ∧ Drawn0 w w' := by
 have H : ((bits_Len64.f k a0).bind fun t101 => (some t101)) = some r := h
 clear h
 replace H := Option.bind_eq_some_iff.mp H
 obtain ⟨t101, A20, H⟩ := H
 replace H : (some t101) = some r := H
 have A2 := Aside0.mk A20
 clear A20
 obtain rfl := Option.some.inj H
 go_enter Try.func105, Try.ntmps105
 go_wp2_with (first | ((with_reducible refine gate_callee (f := 107) rfl ?_); refine goesL_ (some 7) rfl rfl Try.func107 (by kernel_rfl) rfl #[.int .u64 a0] rfl (by (try simp only [List.map_toArray, List.map_cons, List.map_nil]); first | done | rfl | (simp only [List.length_drop, List.length_take]; rfl)) ?_; (with_reducible refine (bits_Len64.calls k a0 t101 _ A2.out).mono ?_); rintro e w' ⟨rfl, ⟨nd, rfl⟩⟩; refine ⟨_, rfl, ?_⟩))
 go_ret
 exact ⟨by first | rfl | (simp; done) | (simp [*]; done), by repeat (first | exact Drawn0.refl _ | apply Drawn0.step)⟩

end Go.Proofs.Ytlncbckpcmojpaa.P
namespace Go.Proofs.Ytlncbckpcmojpaa.P
open Go.RowKit Go.Proofs.YtlncbckpcmojpaaW.PrintWords Go.Proofs.YtlncbckpcmojpaaW.PrintLast Go.Proofs.YtlncbckpcmojpaaW.PrintMore
attribute [local go_sem] max2_int min2_int max_two min_two max_three min_three max_four min_four   -- for this text's walks alone
set_option linter.unusedVariables false
set_option linter.unusedSimpArgs false

theorem eqA37 (d : Nat) (w : World) (x0 y0 : Int) (x1 y1 : Int) (x2 y2 : Int) :
  (Op.equalIn (d + 2) 37 (.agg #[.int .i64 x0, .int .i64 x1, .int .i64 x2]) (.agg #[.int .i64 y0, .int .i64 y1, .int .i64 y2])).run Try.prog w = .ok (x0 == y0 && (x1 == y1 && (x2 == y2))) w := by
 refine eqA_of Try.underlying37 (by kernel_rfl) ?_
 refine eqf_cons (by rfl) (by go_simp; rfl) (by go_simp; rfl) (by go_simp) ?_
 refine eqf_cons (by rfl) (by go_simp; rfl) (by go_simp; rfl) (by go_simp) ?_
 exact eqf_last (by rfl) (by go_simp; rfl) (by go_simp; rfl) (by go_simp)
end Go.Proofs.Ytlncbckpcmojpaa.P
namespace Go.Proofs.Ytlncbckpcmojpaa.P
open Go.RowKit Go.Proofs.YtlncbckpcmojpaaW.PrintWords Go.Proofs.YtlncbckpcmojpaaW.PrintLast Go.Proofs.YtlncbckpcmojpaaW.PrintMore
attribute [local go_sem] max2_int min2_int max_two min_two max_three min_three max_four min_four   -- for this text's walks alone
set_option linter.unusedVariables false
set_option linter.unusedSimpArgs false

end Go.Proofs.Ytlncbckpcmojpaa.P
namespace Go.Proofs.Ytlncbckpcmojpaa.P
open Go.RowKit Go.Proofs.YtlncbckpcmojpaaW.PrintWords Go.Proofs.YtlncbckpcmojpaaW.PrintLast Go.Proofs.YtlncbckpcmojpaaW.PrintMore
attribute [local go_sem] max2_int min2_int max_two min_two max_three min_three max_four min_four   -- for this text's walks alone
set_option linter.unusedVariables false
set_option linter.unusedSimpArgs false

/-! ### slices_Index_int_int: function 92 -/
def slices_Index_int_int.l0 : Nat → List Int → Int → Int → Int → Option (Int)
 | 0, _, _, _, _ => none
 | k + 1, x0, x1, x7, x8 => if x8 < x7 then (if 0 ≤ x8 then (if x8 < (x0.length : Int) then (if x1 = (rd x0 x8) then (some x8) else (slices_Index_int_int.l0 k x0 x1 x7 (wrap64 (x8 + 1)))) else (none)) else (none)) else (some (-1))
def slices_Index_int_int.f (k : Nat) (l0 : List Int) (a1 : Int) : Option (Int) := slices_Index_int_int.l0 k l0 a1 (l0.length : Int) 0
theorem slices_Index_int_int.mono_l : ∀ k, (∀ y0 y1 y2 y3, LeO (slices_Index_int_int.l0 k y0 y1 y2 y3) (slices_Index_int_int.l0 (k + 1) y0 y1 y2 y3))
 | 0 => fun _ _ _ _ r h => by simp [slices_Index_int_int.l0] at h
 | k + 1 => by
  have ih0 := slices_Index_int_int.mono_l k
  ·intro y0 y1 y2 y3
   unfold slices_Index_int_int.l0
   repeat' first
   | (with_reducible exact ih0 _ _ _ _)
   | (with_reducible exact LeO.refl _)
   | (with_reducible exact LeO.none _)
   | (with_reducible refine LeO.ite ?_ ?_)
   | (with_reducible refine LeO.bind ?_ (fun _ => ?_))
   | exact ih0 _ _ _ _
   | exact LeO.none _
   | refine LeO.ite ?_ ?_
   | refine LeO.bind ?_ (fun _ => ?_)
theorem slices_Index_int_int.mono : ∀ a0 a1 k, LeO (slices_Index_int_int.f k a0 a1) (slices_Index_int_int.f (k + 1) a0 a1) := by
 intro a0 a1 k
 have ih0 := slices_Index_int_int.mono_l k
 unfold slices_Index_int_int.f
 repeat' first
   | (with_reducible exact ih0 _ _ _ _)
   | (with_reducible exact LeO.refl _)
   | (with_reducible exact LeO.none _)
   | (with_reducible refine LeO.ite ?_ ?_)
   | (with_reducible refine LeO.bind ?_ (fun _ => ?_))
   | exact ih0 _ _ _ _
   | exact LeO.none _
   | refine LeO.ite ?_ ?_
   | refine LeO.bind ?_ (fun _ => ?_)
set_option maxHeartbeats 8000000 in
set_option maxRecDepth 100000 in
theorem slices_Index_int_int.calls (k : Nat) (A0 : Option Addr) (c0 : Nat) (l0 : List Int) (a1 : Int) (r : Int) (w : World) (hr0 : Kd.C (Kd.int .i64) w A0 l0.length l0) (hc0 : l0.length ≤ c0) (h : slices_Index_int_int.f k l0 a1 = some r) :
  Calls Try.prog 92 #[.slice A0 l0.length c0, .int .i64 a1] w fun e w' => e = .returned (.int .i64 r) ∧ Drawn0 w w' := by
 have HR0 := Aside0.mk hr0
 have HC0 := Aside0.mk hc0
 clear hr0 hc0
 have H : (slices_Index_int_int.l0 k l0 a1 (l0.length : Int) 0) = some r := h
 clear h
 have H' := Aside0.mk H
 clear H
 go_enter Try.func92, Try.ntmps92
 go_wp2
 go_loopg [8] k (fun kq v8 w' => ∃ (x8_1 : Int), v8 = .int .i64 x8_1 ∧ Aside0 (slices_Index_int_int.l0 kq l0 a1 (l0.length : Int) x8_1 = some r) ∧ Aside0 (kq ≤ k) ∧ Drawn0 w w')
 case atStart => exact ⟨(0), (by first | rfl | (simp; done) | (simp [*]; done)), H', ⟨Nat.le_refl _⟩, by repeat (first | exact Drawn0.refl _ | apply Drawn0.step)⟩
 case round =>
  clear H'
  obtain ⟨x8_1, rfl, HA, HK1, ⟨m1, rfl⟩⟩ := hrel
  cases gk with
  | zero => exact absurd HA.out (by simp [slices_Index_int_int.l0])
  | succ k1 =>
   have H := HA.out
   clear HA
   simp only [slices_Index_int_int.l0] at H
   by_cases c3 : x8_1 < (l0.length : Int)
   ·rw [if_pos c3] at H
    have c3b0 : decide (x8_1 < (l0.length : Int)) = true := decide_eq_true c3
    clear c3
    by_cases c4 : 0 ≤ x8_1
    ·rw [if_pos c4] at H
     have c4b0 : decide (0 ≤ x8_1) = true := decide_eq_true c4
     clear c4
     by_cases c5 : x8_1 < (l0.length : Int)
     ·rw [if_pos c5] at H
      have c5b0 : decide (x8_1 < (l0.length : Int)) = true := decide_eq_true c5
      clear c5
      by_cases c6 : a1 = (rd l0 x8_1)
      ·rw [if_pos c6] at H
       have c6b0 : (a1 == (rd l0 x8_1)) = true := beq_iff_eq.mpr c6
       have c6b1 : (a1 != (rd l0 x8_1)) = false := bne_eq_false_iff_eq.mpr c6
       clear c6
       obtain rfl := Option.some.inj H
       have p118 : 0 ≤ (x8_1 : Int) := of_decide_eq_true (by first | (with_reducible assumption) | assumption)
       have q118 : x8_1 < (l0.length : Int) := of_decide_eq_true (by first | (with_reducible assumption) | assumption)
       obtain ⟨ad118, e118, hx118_0⟩ := Kd.at_int HR0.out x8_1 p118 q118
       cases e118
       replace p118 := eq_true p118
       replace q118 := eq_true q118
       go_wp2
       go_ret
       exact ⟨by first | rfl | (simp; done) | (simp [*]; done), by repeat (first | exact Drawn0.refl _ | apply Drawn0.step)⟩
      ·rw [if_neg c6] at H
       have c6b0 : (a1 == (rd l0 x8_1)) = false := beq_eq_false_iff_ne.mpr c6
       have c6b1 : (a1 != (rd l0 x8_1)) = true := bne_iff_ne.mpr c6
       have H' := Aside0.mk H
       clear H
       have p118 : 0 ≤ (x8_1 : Int) := of_decide_eq_true (by first | (with_reducible assumption) | assumption)
       have q118 : x8_1 < (l0.length : Int) := of_decide_eq_true (by first | (with_reducible assumption) | assumption)
       obtain ⟨ad118, e118, hx118_0⟩ := Kd.at_int HR0.out x8_1 p118 q118
       cases e118
       replace p118 := eq_true p118
       replace q118 := eq_true q118
       go_wp2
       go_roundg k1
       case measure => have := HK1.out; omega
       case rel => exact ⟨(wrap64 (x8_1 + 1)), (by first | rfl | (simp; done) | (simp [*]; done)), H', ⟨by have := HK1.out; omega⟩, by repeat (first | exact Drawn0.refl _ | apply Drawn0.step)⟩
     ·rw [if_neg c5] at H
      exact absurd H (by simp)
    ·rw [if_neg c4] at H
     exact absurd H (by simp)
   ·rw [if_neg c3] at H
    have c3b0 : decide (x8_1 < (l0.length : Int)) = false := decide_eq_false c3
    clear c3
    obtain rfl := Option.some.inj H
    go_wp2
    go_ret
    exact ⟨by first | rfl | (simp; done) | (simp [*]; done), by repeat (first | exact Drawn0.refl _ | apply Drawn0.step)⟩

end Go.Proofs.Ytlncbckpcmojpaa.P
namespace Go.Proofs.Ytlncbckpcmojpaa.P
open Go.RowKit Go.Proofs.YtlncbckpcmojpaaW.PrintWords Go.Proofs.YtlncbckpcmojpaaW.PrintLast Go.Proofs.YtlncbckpcmojpaaW.PrintMore
attribute [local go_sem] max2_int min2_int max_two min_two max_three min_three max_four min_four   -- for this text's walks alone
set_option linter.unusedVariables false
set_option linter.unusedSimpArgs false

/-! ### slices_Contains_int_int: function 72 -/
def slices_Contains_int_int.f (k : Nat) (l0 : List Int) (a1 : Int) : Option (Bool) := (slices_Index_int_int.f k l0 a1).bind fun t119 => (some (decide (t119 ≥ 0)))
theorem slices_Contains_int_int.mono : ∀ a0 a1 k, LeO (slices_Contains_int_int.f k a0 a1) (slices_Contains_int_int.f (k + 1) a0 a1) := by
 intro a0 a1 k
 unfold slices_Contains_int_int.f
 repeat' first
   | (with_reducible exact slices_Index_int_int.mono _ _ _)
   | (with_reducible exact LeO.refl _)
   | (with_reducible exact LeO.none _)
   | (with_reducible refine LeO.ite ?_ ?_)
   | (with_reducible refine LeO.bind ?_ (fun _ => ?_))
   | exact slices_Index_int_int.mono _ _ _
   | exact LeO.none _
   | refine LeO.ite ?_ ?_
   | refine LeO.bind ?_ (fun _ => ?_)
set_option maxHeartbeats 8000000 in
set_option maxRecDepth 100000 in
theorem slices_Contains_int_int.calls (k : Nat) (A0 : Option Addr) (c0 : Nat) (l0 : List Int) (a1 : Int) (r : Bool) (w : World) (hr0 : Kd.C (Kd.int .i64) w A0 l0.length l0) (hc0 : l0.length ≤ c0) (h : slices_Contains_int_int.f k l0 a1 = some r) :
  Calls Try.prog 72 #[.slice A0 l0.length c0, .int .i64 a1] w fun e w' => e = .returned (.bool r) ∧ Drawn0 w w' := by
 have HR0 := Aside0.mk hr0
 have HC0 := Aside0.mk hc0
 clear hr0 hc0
 have H : ((slices_Index_int_int.f k l0 a1).bind fun t119 => (some (decide (t119 ≥ 0)))) = some r := h
 clear h
 replace H := Option.bind_eq_some_iff.mp H
 obtain ⟨t119, A30, H⟩ := H
 replace H : (some (decide (t119 ≥ 0))) = some r := H
 have A3 := Aside0.mk A30
 clear A30
 obtain rfl := Option.some.inj H
 go_enter Try.func72, Try.ntmps72
 go_wp2_with (first | ((with_reducible refine gate_callee (f := 92) rfl ?_); refine goesL_ (some 7) rfl rfl Try.func92 (by kernel_rfl) rfl #[.slice A0 l0.length c0, .int .i64 a1] rfl (by (try simp only [List.map_toArray, List.map_cons, List.map_nil]); first | done | rfl | (simp only [List.length_drop, List.length_take]; rfl)) ?_; (with_reducible refine (slices_Index_int_int.calls k _ _ l0 a1 t119 _ ?side1 ?side2 A3.out).mono ?_); (case side1 => repeat (first | exact HR0.out | (with_reducible refine Kd.C_alloc ?_ _) | (with_reducible refine Kd.C_drewN ?_ _) | (with_reducible refine Kd.C_drew ?_))); (case side2 => exact HC0.out); rintro e w' ⟨rfl, ⟨nd, rfl⟩⟩; refine ⟨_, rfl, ?_⟩))
 go_ret
 exact ⟨by first | rfl | (simp; done) | (simp [*]; done), by repeat (first | exact Drawn0.refl _ | apply Drawn0.step)⟩

end Go.Proofs.Ytlncbckpcmojpaa.P
namespace Go.Proofs.Ytlncbckpcmojpaa.P
open Go.RowKit Go.Proofs.YtlncbckpcmojpaaW.PrintWords Go.Proofs.YtlncbckpcmojpaaW.PrintLast Go.Proofs.YtlncbckpcmojpaaW.PrintMore
attribute [local go_sem] max2_int min2_int max_two min_two max_three min_three max_four min_four   -- for this text's walks alone
set_option linter.unusedVariables false
set_option linter.unusedSimpArgs false

/-! ### entrepotlaw11_long: function 15 -/
mutual
def entrepotlaw11_long.l0 : Nat → Int → Int → List (List Int) → Option (Bool)
 | 0, _, _, _ => none
 | k + 1, x3, x4, x325000 => if x4 < (x325000.length : Int) then (entrepotlaw11_long.j1 k x3 x4 (decide (x4 < 220)) x325000) else (entrepotlaw11_long.j1 k x3 x4 false x325000)
def entrepotlaw11_long.j1 : Nat → Int → Int → Bool → List (List Int) → Option (Bool)
 | 0, _, _, _, _ => none
 | k + 1, x3, x4, x13, x325000 => if x13 = true then (if 0 ≤ x4 then (if x4 < (x325000.length : Int) then (if ((rd_L1 x325000 x4).length : Int) > 300 then (some true) else (entrepotlaw11_long.l0 k (wrap64 (x3 + ((rd_L1 x325000 x4).length : Int))) (wrap64 (x4 + 1)) x325000)) else (none)) else (none)) else (if (x325000.length : Int) > 200 then (some true) else (some (decide (x3 > 300))))
end
def entrepotlaw11_long.f (k : Nat) (l0_0 : List (List Int)) : Option (Bool) := entrepotlaw11_long.l0 k 0 0 l0_0
theorem entrepotlaw11_long.mono_l : ∀ k, (∀ y0 y1 y2, LeO (entrepotlaw11_long.l0 k y0 y1 y2) (entrepotlaw11_long.l0 (k + 1) y0 y1 y2)) ∧ (∀ y0 y1 y2 y3, LeO (entrepotlaw11_long.j1 k y0 y1 y2 y3) (entrepotlaw11_long.j1 (k + 1) y0 y1 y2 y3))
 | 0 => ⟨fun _ _ _ r h => by simp [entrepotlaw11_long.l0] at h, fun _ _ _ _ r h => by simp [entrepotlaw11_long.j1] at h⟩
 | k + 1 => by
  obtain ⟨ih0, ih1⟩ := entrepotlaw11_long.mono_l k
  refine ⟨?_, ?_⟩
  ·intro y0 y1 y2
   unfold entrepotlaw11_long.l0
   repeat' first
   | (with_reducible exact ih0 _ _ _)
   | (with_reducible exact ih1 _ _ _ _)
   | (with_reducible exact LeO.refl _)
   | (with_reducible exact LeO.none _)
   | (with_reducible refine LeO.ite ?_ ?_)
   | (with_reducible refine LeO.bind ?_ (fun _ => ?_))
   | exact ih0 _ _ _
   | exact ih1 _ _ _ _
   | exact LeO.none _
   | refine LeO.ite ?_ ?_
   | refine LeO.bind ?_ (fun _ => ?_)
  ·intro y0 y1 y2 y3
   unfold entrepotlaw11_long.j1
   repeat' first
   | (with_reducible exact ih0 _ _ _)
   | (with_reducible exact ih1 _ _ _ _)
   | (with_reducible exact LeO.refl _)
   | (with_reducible exact LeO.none _)
   | (with_reducible refine LeO.ite ?_ ?_)
   | (with_reducible refine LeO.bind ?_ (fun _ => ?_))
   | exact ih0 _ _ _
   | exact ih1 _ _ _ _
   | exact LeO.none _
   | refine LeO.ite ?_ ?_
   | refine LeO.bind ?_ (fun _ => ?_)
theorem entrepotlaw11_long.mono : ∀ a0 k, LeO (entrepotlaw11_long.f k a0) (entrepotlaw11_long.f (k + 1) a0) := by
 intro a0 k
 obtain ⟨ih0, ih1⟩ := entrepotlaw11_long.mono_l k
 unfold entrepotlaw11_long.f
 repeat' first
   | (with_reducible exact ih0 _ _ _)
   | (with_reducible exact ih1 _ _ _ _)
   | (with_reducible exact LeO.refl _)
   | (with_reducible exact LeO.none _)
   | (with_reducible refine LeO.ite ?_ ?_)
   | (with_reducible refine LeO.bind ?_ (fun _ => ?_))
   | exact ih0 _ _ _
   | exact ih1 _ _ _ _
   | exact LeO.none _
   | refine LeO.ite ?_ ?_
   | refine LeO.bind ?_ (fun _ => ?_)
set_option maxHeartbeats 8000000 in
set_option maxRecDepth 100000 in
theorem entrepotlaw11_long.calls (k : Nat) (A0_0 : Option Addr) (c0_0 : Nat) (l0_0 : List (List Int)) (r : Bool) (w : World) (hr0_0 : Kd.C (Kd.slice 3 (Kd.int .i64)) w A0_0 l0_0.length l0_0) (hc0_0 : l0_0.length ≤ c0_0) (h : entrepotlaw11_long.f k l0_0 = some r) :
  Calls Try.prog 15 #[.agg #[.slice A0_0 l0_0.length c0_0]] w fun e w' => e = .returned (.bool r) ∧ Below w.heap.size w w' := by
 have hu30 := Try.underlying30
 have HR0_0 := Aside0.mk hr0_0
 have HC0_0 := Aside0.mk hc0_0
 clear hr0_0 hc0_0
 have HB := Aside0.mk (Below.refl w.heap.size w)
 have H : (entrepotlaw11_long.l0 k 0 0 l0_0) = some r := h
 clear h
 have H' := Aside0.mk H
 clear H
 go_enter Try.func15, Try.ntmps15
 go_wp2_with (first | ((with_reducible refine gate_dst (N := 1) rfl ?_); refine box_event ?hg (N := 1) ?hd (cs := #[.slice A0_0 l0_0.length c0_0]) (t := 30) ?hr ?_; (case hd => rfl); (case hg => rfl); (case hr => first | (go_simp; done) | (go_simp; rfl)); intro gb324 hg w2 hbox hb; have n0_ := Aside0.mk (below_step (by repeat (first | (with_reducible first | exact HB.out | apply below_alloc | apply pw_below_drewN | apply below_drew1) | exact HB.out)) hb); have n1_ := Aside0.mk (hbox); have n2_ := Aside0.mk ((by rw [hg]; exact (below_size (by repeat (first | (with_reducible first | exact HB.out | apply below_alloc | apply pw_below_drewN | apply below_drew1) | exact HB.out))) : w.heap.size ≤ gb324)); have n3_ := Aside0.mk ((by rw [hg]; exact (below_size (by repeat (first | (with_reducible first | exact HB.out | apply below_alloc | apply pw_below_drewN | apply below_drew1) | exact HB.out))) : w.heap.size ≤ gb324)); clear HB; have HB := n0_; have BK324 := n1_; have GW324 := n2_; have GE324 := n3_; clear n0_ n1_ n2_ n3_; clear hb hbox hg))
 go_loopg [3, 4] k (fun kq v3 v4 w' => ∃ (x3_1 : Int) (x4_1 : Int), v3 = .int .i64 x3_1 ∧ v4 = .int .i64 x4_1 ∧ Aside0 (entrepotlaw11_long.l0 kq x3_1 x4_1 l0_0 = some r) ∧ Aside0 (kq ≤ k) ∧ Aside0 (w'.heap[gb324]? = some (.cells #[(.slice A0_0 l0_0.length c0_0)] 30 (0, 0))) ∧ Aside0 (Below w.heap.size w w'))
 case atStart => exact ⟨(0), (0), (by first | rfl | (simp; done) | (simp [*]; done)), (by first | rfl | (simp; done) | (simp [*]; done)), H', ⟨Nat.le_refl _⟩, ⟨by (with_reducible repeat (first | refine blk_drewN ?_ _ | refine blk_drew ?_ | refine blk_alloc ?_ _)); exact BK324.out⟩, ⟨by repeat (first | (with_reducible first | exact HB.out | apply below_alloc | apply pw_below_drewN | apply below_drew1 | refine below_set ?_ GE324.out) | exact HB.out)⟩⟩
 case round =>
  clear H'
  obtain ⟨x3_1, x4_1, rfl, rfl, HA, HK1, BK324, HB⟩ := hrel
  cases gk with
  | zero => exact absurd HA.out (by simp [entrepotlaw11_long.l0])
  | succ k1 =>
   have H := HA.out
   clear HA
   simp only [entrepotlaw11_long.l0] at H
   have HC3 := Aside0.mk H
   clear H
   go_upto_region 3 with (fail)
   go_cut [13] (fun v13 wc => ∃ (kq : Nat) (x13_2 : Bool), v13 = .bool x13_2 ∧ Aside0 (entrepotlaw11_long.j1 kq x3_1 x4_1 x13_2 l0_0 = some r) ∧ Aside0 (kq ≤ k1) ∧ Aside0 (wc.heap[gb324]? = some (.cells #[(.slice A0_0 l0_0.length c0_0)] 30 (0, 0))) ∧ Aside0 (Below w.heap.size w wc))
   case first =>
    have H := HC3.out
    clear HC3
    by_cases c4 : x4_1 < (l0_0.length : Int)
    ·rw [if_pos c4] at H
     have c4b0 : decide (x4_1 < (l0_0.length : Int)) = true := decide_eq_true c4
     clear c4
     (first | rw [c4b0] | (simp only [i64_w, i32_w]; rw [c4b0]) | skip)
     have H' := Aside0.mk H
     clear H
     obtain ⟨hcz5_0, hfz5_0⟩ := blk1_ BK324.out
     go_wp2
     go_meet
     case rel => exact ⟨_, (decide (x4_1 < 220)), (by first | rfl | (simp; done) | (simp [*]; done)), H', ⟨by have := HK1.out; first | omega | exact Nat.le_refl _⟩, ⟨by (with_reducible repeat (first | refine blk_drewN ?_ _ | refine blk_drew ?_ | refine blk_alloc ?_ _)); exact BK324.out⟩, ⟨by repeat (first | (with_reducible first | exact HB.out | apply below_alloc | apply pw_below_drewN | apply below_drew1 | refine below_set ?_ GE324.out) | exact HB.out)⟩⟩
    ·rw [if_neg c4] at H
     have c4b0 : decide (x4_1 < (l0_0.length : Int)) = false := decide_eq_false c4
     clear c4
     (first | rw [c4b0] | (simp only [i64_w, i32_w]; rw [c4b0]) | skip)
     have H' := Aside0.mk H
     clear H
     obtain ⟨hcz6_0, hfz6_0⟩ := blk1_ BK324.out
     go_wp2
     go_meet
     case rel => exact ⟨_, (false), (by first | rfl | (simp; done) | (simp [*]; done)), H', ⟨by have := HK1.out; first | omega | exact Nat.le_refl _⟩, ⟨by (with_reducible repeat (first | refine blk_drewN ?_ _ | refine blk_drew ?_ | refine blk_alloc ?_ _)); exact BK324.out⟩, ⟨by repeat (first | (with_reducible first | exact HB.out | apply below_alloc | apply pw_below_drewN | apply below_drew1 | refine below_set ?_ GE324.out) | exact HB.out)⟩⟩
   case rest =>
    clear HC3
    obtain ⟨kq, x13_2, rfl, HA, HJ2, BK324, HB⟩ := hcut
    cases kq with
    | zero => exact absurd HA.out (by simp [entrepotlaw11_long.j1])
    | succ kj2 =>
     have H := HA.out
     clear HA
     simp only [entrepotlaw11_long.j1] at H
     by_cases c7 : x13_2 = true
     ·subst c7
      have H1 : (if 0 ≤ x4_1 then (if x4_1 < (l0_0.length : Int) then (if ((rd_L1 l0_0 x4_1).length : Int) > 300 then (some true) else (entrepotlaw11_long.l0 kj2 (wrap64 (x3_1 + ((rd_L1 l0_0 x4_1).length : Int))) (wrap64 (x4_1 + 1)) l0_0)) else (none)) else (none)) = some r := by rw [if_pos rfl] at H; exact H
      clear H
      have H := H1
      clear H1
      by_cases c8 : 0 ≤ x4_1
      ·rw [if_pos c8] at H
       have c8b0 : decide (0 ≤ x4_1) = true := decide_eq_true c8
       clear c8
       by_cases c9 : x4_1 < (l0_0.length : Int)
       ·rw [if_pos c9] at H
        have c9b0 : decide (x4_1 < (l0_0.length : Int)) = true := decide_eq_true c9
        clear c9
        by_cases c10 : ((rd_L1 l0_0 x4_1).length : Int) > 300
        ·rw [if_pos c10] at H
         have c10b0 : decide (300 < ((rd_L1 l0_0 x4_1).length : Int)) = true := decide_eq_true c10
         have c10b1 : decide (300 < (rd_L1 l0_0 x4_1).length) = true := decide_eq_true (by omega)
         clear c10
         obtain rfl := Option.some.inj H
         obtain ⟨hcz11_0, hfz11_0⟩ := blk1_ BK324.out
         have p325 : 0 ≤ (x4_1 : Int) := of_decide_eq_true (by first | (with_reducible assumption) | assumption)
         have q325 : x4_1 < (l0_0.length : Int) := of_decide_eq_true (by first | (with_reducible assumption) | assumption)
         obtain ⟨ad325, A325_0, c325_0, e325, hx325_0, hl325_0, hi325_0⟩ := at_L1 HR0_0.out x4_1 p325 q325
         cases e325
         replace hx325_0 := (HB.out.cell (World.block_lt_of_cell? w _ hx325_0)).trans hx325_0
         have HR325_0 := Aside0.mk hi325_0
         have HC325_0 := Aside0.mk hl325_0
         clear hi325_0 hl325_0
         replace p325 := eq_true p325
         replace q325 := eq_true q325
         go_wp2
         go_ret
         exact ⟨by first | rfl | (simp [errW_none, errW_some] <;> rfl) | (simp [*, errW_none, errW_some] <;> rfl), by repeat (first | (with_reducible first | exact HB.out | apply below_alloc | apply pw_below_drewN | apply below_drew1 | refine below_set ?_ GE324.out) | exact HB.out)⟩
        ·rw [if_neg c10] at H
         have c10b0 : decide (300 < ((rd_L1 l0_0 x4_1).length : Int)) = false := decide_eq_false c10
         have c10b1 : decide (300 < (rd_L1 l0_0 x4_1).length) = false := decide_eq_false (by omega)
         clear c10
         have H' := Aside0.mk H
         clear H
         obtain ⟨hcz12_0, hfz12_0⟩ := blk1_ BK324.out
         have p325 : 0 ≤ (x4_1 : Int) := of_decide_eq_true (by first | (with_reducible assumption) | assumption)
         have q325 : x4_1 < (l0_0.length : Int) := of_decide_eq_true (by first | (with_reducible assumption) | assumption)
         obtain ⟨ad325, A325_0, c325_0, e325, hx325_0, hl325_0, hi325_0⟩ := at_L1 HR0_0.out x4_1 p325 q325
         cases e325
         replace hx325_0 := (HB.out.cell (World.block_lt_of_cell? w _ hx325_0)).trans hx325_0
         have HR325_0 := Aside0.mk hi325_0
         have HC325_0 := Aside0.mk hl325_0
         clear hi325_0 hl325_0
         replace p325 := eq_true p325
         replace q325 := eq_true q325
         have p326 : 0 ≤ (x4_1 : Int) := of_decide_eq_true (by first | (with_reducible assumption) | assumption)
         have q326 : x4_1 < (l0_0.length : Int) := of_decide_eq_true (by first | (with_reducible assumption) | assumption)
         obtain ⟨ad326, A326_0, c326_0, e326, hx326_0, hl326_0, hi326_0⟩ := at_L1 HR0_0.out x4_1 p326 q326
         obtain rfl : ad325 = ad326 := (by injection e326)
         replace hx326_0 := (HB.out.cell (World.block_lt_of_cell? w _ hx326_0)).trans hx326_0
         have HR326_0 := Aside0.mk hi326_0
         have HC326_0 := Aside0.mk hl326_0
         clear hi326_0 hl326_0
         replace p326 := eq_true p326
         replace q326 := eq_true q326
         have ea_ := Option.some.inj (hx325_0.symm.trans hx326_0)
         injection ea_ with ea_ en_ ec_
         subst ea_
         subst ec_
         clear en_
         go_wp2
         go_roundg kj2
         case measure => have := HK1.out; have := HJ2.out; omega
         case rel => exact ⟨(wrap64 (x3_1 + ((rd_L1 l0_0 x4_1).length : Int))), (wrap64 (x4_1 + 1)), (by first | rfl | (simp; done) | (simp [*]; done)), (by first | rfl | (simp; done) | (simp [*]; done)), H', ⟨by have := HK1.out; have := HJ2.out; omega⟩, ⟨by (with_reducible repeat (first | refine blk_drewN ?_ _ | refine blk_drew ?_ | refine blk_alloc ?_ _)); exact BK324.out⟩, ⟨by repeat (first | (with_reducible first | exact HB.out | apply below_alloc | apply pw_below_drewN | apply below_drew1 | refine below_set ?_ GE324.out) | exact HB.out)⟩⟩
       ·rw [if_neg c9] at H
        exact absurd H (by simp)
      ·rw [if_neg c8] at H
       exact absurd H (by simp)
     ·replace c7 := Bool.eq_false_iff.mpr c7
      subst c7
      have H1 : (if (l0_0.length : Int) > 200 then (some true) else (some (decide (x3_1 > 300)))) = some r := by rw [if_neg (show ¬ (false = true) by decide)] at H; exact H
      clear H
      have H := H1
      clear H1
      by_cases c13 : (l0_0.length : Int) > 200
      ·rw [if_pos c13] at H
       have c13b0 : decide (200 < (l0_0.length : Int)) = true := decide_eq_true c13
       have c13b1 : decide (200 < l0_0.length) = true := decide_eq_true (by omega)
       clear c13
       obtain rfl := Option.some.inj H
       obtain ⟨hcz14_0, hfz14_0⟩ := blk1_ BK324.out
       go_wp2
       go_ret
       exact ⟨by first | rfl | (simp [errW_none, errW_some] <;> rfl) | (simp [*, errW_none, errW_some] <;> rfl), by repeat (first | (with_reducible first | exact HB.out | apply below_alloc | apply pw_below_drewN | apply below_drew1 | refine below_set ?_ GE324.out) | exact HB.out)⟩
      ·rw [if_neg c13] at H
       have c13b0 : decide (200 < (l0_0.length : Int)) = false := decide_eq_false c13
       have c13b1 : decide (200 < l0_0.length) = false := decide_eq_false (by omega)
       clear c13
       obtain rfl := Option.some.inj H
       obtain ⟨hcz15_0, hfz15_0⟩ := blk1_ BK324.out
       go_wp2
       go_ret
       exact ⟨by first | rfl | (simp [errW_none, errW_some] <;> rfl) | (simp [*, errW_none, errW_some] <;> rfl), by repeat (first | (with_reducible first | exact HB.out | apply below_alloc | apply pw_below_drewN | apply below_drew1 | refine below_set ?_ GE324.out) | exact HB.out)⟩

end Go.Proofs.Ytlncbckpcmojpaa.P
namespace Go.Proofs.Ytlncbckpcmojpaa
open Go.RowKit Go.Proofs.YtlncbckpcmojpaaW.PrintWords
set_option maxHeartbeats 4000000 in
set_option maxRecDepth 100000 in
theorem clone_some (ad : Addr) (c0 : Nat) (l0 : List Int) (w : World) (hr0 : Kd.C (Kd.int .i64) w (some ad) l0.length l0) (hl : l0.length ≤ 65536) :
    Calls Try.prog 34 #[.slice (some ad) l0.length c0] w fun e w' => ∃ v0_ : Value, e = .returned (v0_) ∧ Kd.R (Kd.int .i64) 3 w' w.heap.size (fun _ => True) v0_ l0 ∧ Below w.heap.size w w' := by
  have q0 := Lib.run_eql_slice_some_nil (P := Try.prog) w ad l0.length c0 Try.underlying23
  go_enter Try.func34, Try.ntmps34
  go_wp2_with (first | (refine Kd.R_lit (Kd.int .i64) w.heap.size 3 ?hg (N := 5) ?hd (xs := ([] : List Int)) (inner := []) (ok := fun _ => True) (okp := fun _ => True) ?hr ?hp (fun _ hk => hk) trivial (Below.refl _ w) (Nat.le_refl _) (by simp) ?_; (case hd => rfl); (case hg => rfl); (case hr => first | (go_simp; done) | (go_simp; rfl)); (case hp => exact Reps.none _ _); intro v1 w1 HR1 HB1 hg1 hat1; clear hg1 hat1; obtain ⟨A1, d1, e1⟩ := Kd.R_slice HR1; subst e1) |
    (refine Kd.R_append_rows (Kd.int .i64) (w0 := w) w.heap.size (by rfl) (.tmp 5) (.tmp 6) 23 3 (.int .i64 0) 8 rfl Try.underlying23 P.info3 rfl (by decide) (by omega) (.slice A1 ([] : List Int).length d1) ([] : List Int) l0 _ _ _ (fun _ => True) (fun _ => False) rfl rfl HR1 (Kd.C_below hr0 HB1) (fun _ _ h => h) (fun _ h => h.elim) (fun _ _ => trivial) HB1 (HB1.size) (by simp; omega) ?_; intro v2 w2 HR2 HB2 hg2 hat2; clear hg2 hat2))
  go_ret
  exact ⟨_, rfl, by simpa using HR2, HB2⟩
set_option maxHeartbeats 4000000 in
set_option maxRecDepth 100000 in
theorem clone_none (w : World) (n : Nat) (c : Nat) :
    Calls Try.prog 34 #[.slice none n c] w fun e w' => e = .returned (.slice none 0 0) ∧ Below w.heap.size w w' := by
  have q0 := Lib.run_eql_slice_nil_nil (P := Try.prog) w n c Try.underlying23
  go_enter Try.func34, Try.ntmps34
  go_wp2
  go_ret
  exact ⟨rfl, Below.refl _ _⟩
/-- What slices.Clone gives: the same numbers. -/
def slices_Clone_int_int.f (l0 : List Int) : Option (List Int) := if l0.length ≤ 65536 then some l0 else none
theorem slices_Clone_int_int.calls (A0 : Option Addr) (c0 : Nat) (l0 : List Int) (r : List Int) (w : World) (hr0 : Kd.C (Kd.int .i64) w A0 l0.length l0) (_ : l0.length ≤ c0) (h : slices_Clone_int_int.f l0 = some r) :
    Calls Try.prog 34 #[.slice A0 l0.length c0] w fun e w' => ∃ v0_ : Value, e = .returned (v0_) ∧ Kd.R (Kd.int .i64) 3 w' w.heap.size (fun _ => True) v0_ r ∧ Below w.heap.size w w' := by
  unfold slices_Clone_int_int.f at h
  split at h
  · rename_i hs
    have h := Option.some.inj h
    subst h
    cases A0 with
    | some ad => exact clone_some ad c0 l0 w hr0 hs
    | none =>
      have h0 : l0 = [] := by
        cases l0 with
        | nil => rfl
        | cons x l => obtain ⟨ad, e, _⟩ := hr0.2.2 (by simp); cases e
      subst h0
      refine (clone_none w _ c0).mono ?_
      rintro e w' ⟨rfl, hb⟩
      exact ⟨_, rfl, Kd.R_nil _ _ _ _ _, hb⟩
  · cases h
attribute [irreducible] slices_Clone_int_int.f
end Go.Proofs.Ytlncbckpcmojpaa
namespace Go.Proofs.Ytlncbckpcmojpaa
open Go.RowKit Go.Proofs.YtlncbckpcmojpaaW.PrintWords P
namespace Ref08
abbrev Node := S77
abbrev Fault := S103
abbrev rdN (l : List Node) (i : Int) : Node := rd_T77 l i
theorem w64s {i : Nat} (h : (i : Int) ≤ 4611686018427387904) : wrap64 ((i : Int) + 1) = ((i + 1 : Nat) : Int) := by unfold wrap64; omega
def okP (c : Int) : Prop := (65 ≤ c ∧ c ≤ 90) ∨ (97 ≤ c ∧ c ≤ 122) ∨ (48 ≤ c ∧ c ≤ 57) ∨ c = 46 ∨ c = 95 ∨ c = 45
instance (c : Int) : Decidable (okP c) := by unfold okP; infer_instance
def nameB (s : ByteArray) : Bool := (List.range s.size).all (fun i : Nat => decide (okP (bt s (i : Int)))) && decide (1 ≤ s.size ∧ s.size ≤ 40)
def numB (n : Int) : Bool := decide (0 ≤ n ∧ n ≤ 100000000)
def sigB (n : Int) : Bool := decide (-100000000 ≤ n ∧ n ≤ 100000000)
def knownB (m : Int) : Bool := decide (0 ≤ m ∧ m ≤ 6)
variable (nm : ByteArray) (kd mt sc cp fl : Int) (ns : List Node) (mx : List Int)
def cellB (n : Nat) (mx : List Int) (i : Nat) : Bool := numB (rd mx (i : Int)) && (decide (i % (n + 1) ≠ 0) || decide (rd mx (i : Int) = 0))
def matrixB (mt : Int) (n : Nat) (mx : List Int) : Bool := if mt = 0 then decide (mx.length = n * n) && (List.range (n * n)).all (cellB n mx) else decide (mx.length = 0)
def coordB (mt : Int) (d : Node) : Bool := sigB d.f0 && sigB d.f1 && (decide (mt ≠ 0) || decide (d.f0 = 0 ∧ d.f1 = 0))
def demandB (kd : Int) (i : Nat) (d : Node) : Bool := if kd = 1 ∨ i = 0 then decide (d.f2 = 0) else numB d.f2 || (decide (kd = 4) && sigB d.f2)
def windowB (kd : Int) (d : Node) : Bool := if kd = 1 ∨ kd = 2 then decide (d.f3 = 0 ∧ d.f4 = 0) else numB d.f3 && numB d.f4 && decide (d.f3 ≤ d.f4)
def serviceB (kd : Int) (d : Node) : Bool := if kd = 1 ∨ kd = 2 then decide (d.f5 = 0) else numB d.f5
def mateB (kd : Int) (ns : List Node) (i : Nat) : Bool :=
  if kd = 4 ∧ i ≠ 0 then decide (1 ≤ (rdN ns (i : Int)).f6 ∧ (rdN ns (i : Int)).f6 < (ns.length : Int) ∧ (rdN ns (i : Int)).f6 ≠ (i : Int) ∧ (rdN ns (rdN ns (i : Int)).f6).f6 = (i : Int) ∧ (rdN ns (i : Int)).f2 ≠ 0 ∧ (rdN ns (rdN ns (i : Int)).f6).f2 = wrap64 (-(rdN ns (i : Int)).f2)) else decide ((rdN ns (i : Int)).f6 = 0)
/-- A fault where something is not so. -/
def opt (b : Bool) (f : Fault) : List Fault := if b = true then [] else [f]
theorem opt_le (b : Bool) (f : Fault) : (opt b f).length ≤ 1 := by unfold opt; split <;> simp
def kindB (kd : Int) : Bool := decide (1 ≤ kd ∧ kd ≤ 4)
def scaleB (mt sc : Int) : Bool := decide (0 ≤ sc ∧ sc ≤ 6 ∧ (mt = 0 → sc = 0))
def capB (kd cp : Int) : Bool := if kd = 1 then decide (cp = 0) else decide (1 ≤ cp ∧ cp ≤ 100000000)
def fleetB (kd fl : Int) : Bool := if kd = 1 then decide (fl = 0) else decide (0 ≤ fl ∧ fl ≤ 400)
def headOf : List Fault := opt (nameB nm) ⟨1, 0⟩ ++ opt (kindB kd) ⟨2, 0⟩ ++ opt (knownB mt) ⟨3, 0⟩ ++ opt (scaleB mt sc) ⟨4, 0⟩ ++ opt (capB kd cp) ⟨5, 0⟩ ++ opt (fleetB kd fl) ⟨6, 0⟩
def nodeOf (kd mt : Int) (ns : List Node) (i : Nat) : List Fault :=
  opt (coordB mt (rdN ns (i : Int))) ⟨9, i⟩ ++ opt (demandB kd i (rdN ns (i : Int))) ⟨10, i⟩ ++ opt (windowB kd (rdN ns (i : Int))) ⟨11, i⟩ ++ opt (serviceB kd (rdN ns (i : Int))) ⟨12, i⟩ ++ opt (mateB kd ns i) ⟨13, i⟩
/-- The faults of an instance. -/
def faultsOf : List Fault :=
  if ns.length < 1 ∨ 400 < ns.length then headOf nm kd mt sc cp fl ++ [⟨7, 0⟩] else headOf nm kd mt sc cp fl ++ opt (matrixB mt ns.length mx) ⟨8, 0⟩ ++ (List.range ns.length).flatMap (nodeOf kd mt ns)
theorem nodeOf_le (i : Nat) : (nodeOf kd mt ns i).length ≤ 5 := by
  unfold nodeOf
  simp only [List.length_append]
  have h1 := opt_le (coordB mt (rdN ns (i : Int))) ⟨9, i⟩
  have h2 := opt_le (demandB kd i (rdN ns (i : Int))) ⟨10, i⟩
  have h3 := opt_le (windowB kd (rdN ns (i : Int))) ⟨11, i⟩
  have h4 := opt_le (serviceB kd (rdN ns (i : Int))) ⟨12, i⟩
  have h5 := opt_le (mateB kd ns i) ⟨13, i⟩
  omega
def wellB : Bool := decide (faultsOf nm kd mt sc cp fl ns mx = [])
end Ref08
end Go.Proofs.Ytlncbckpcmojpaa
namespace Go.Proofs.Ytlncbckpcmojpaa.P
open Go.RowKit Go.Proofs.YtlncbckpcmojpaaW.PrintWords Go.Proofs.YtlncbckpcmojpaaW.PrintLast Go.Proofs.YtlncbckpcmojpaaW.PrintMore
attribute [local go_sem] max2_int min2_int max_two min_two max_three min_three max_four min_four   -- for this text's walks alone
set_option linter.unusedVariables false
set_option linter.unusedSimpArgs false

/-! ### entrepotref06_Known: function 64 -/
def entrepotref06_Known.f (a0 : Int) : Option (Bool) := if a0 ≥ 0 then (some (decide (a0 ≤ 6))) else (some false)
set_option maxHeartbeats 8000000 in
set_option maxRecDepth 100000 in
theorem entrepotref06_Known.calls (a0 : Int) (r : Bool) (w : World) (h : entrepotref06_Known.f a0 = some r) :
  Calls Try.prog 64 #[.int .i64 a0] w fun e w' => e = .returned (.bool r) ∧ Drawn0 w w' := by
 have H : (if a0 ≥ 0 then (some (decide (a0 ≤ 6))) else (some false)) = some r := h
 clear h
 by_cases c2 : a0 ≥ 0
 ·rw [if_pos c2] at H
  have c2b0 : decide (0 ≤ a0) = true := decide_eq_true c2
  clear c2
  obtain rfl := Option.some.inj H
  go_enter Try.func64, Try.ntmps64
  go_wp2
  go_ret
  exact ⟨by first | rfl | (simp; done) | (simp [*]; done), by repeat (first | exact Drawn0.refl _ | apply Drawn0.step)⟩
 ·rw [if_neg c2] at H
  have c2b0 : decide (0 ≤ a0) = false := decide_eq_false c2
  clear c2
  obtain rfl := Option.some.inj H
  go_enter Try.func64, Try.ntmps64
  go_wp2
  go_ret
  exact ⟨by first | rfl | (simp; done) | (simp [*]; done), by repeat (first | exact Drawn0.refl _ | apply Drawn0.step)⟩

end Go.Proofs.Ytlncbckpcmojpaa.P
namespace Go.Proofs.Ytlncbckpcmojpaa.P
open Go.RowKit Go.Proofs.YtlncbckpcmojpaaW.PrintWords Go.Proofs.YtlncbckpcmojpaaW.PrintLast Go.Proofs.YtlncbckpcmojpaaW.PrintMore
attribute [local go_sem] max2_int min2_int max_two min_two max_three min_three max_four min_four   -- for this text's walks alone
set_option linter.unusedVariables false
set_option linter.unusedSimpArgs false

/-! ### entrepotref08_number: function 88 -/
def entrepotref08_number.f (a0 : Int) : Option (Bool) := if a0 ≥ 0 then (some (decide (a0 ≤ 100000000))) else (some false)
set_option maxHeartbeats 8000000 in
set_option maxRecDepth 100000 in
theorem entrepotref08_number.calls (a0 : Int) (r : Bool) (w : World) (h : entrepotref08_number.f a0 = some r) :
  Calls Try.prog 88 #[.int .i64 a0] w fun e w' => e = .returned (.bool r) ∧ Drawn0 w w' := by
 have H : (if a0 ≥ 0 then (some (decide (a0 ≤ 100000000))) else (some false)) = some r := h
 clear h
 by_cases c2 : a0 ≥ 0
 ·rw [if_pos c2] at H
  have c2b0 : decide (0 ≤ a0) = true := decide_eq_true c2
  clear c2
  obtain rfl := Option.some.inj H
  go_enter Try.func88, Try.ntmps88
  go_wp2
  go_ret
  exact ⟨by first | rfl | (simp; done) | (simp [*]; done), by repeat (first | exact Drawn0.refl _ | apply Drawn0.step)⟩
 ·rw [if_neg c2] at H
  have c2b0 : decide (0 ≤ a0) = false := decide_eq_false c2
  clear c2
  obtain rfl := Option.some.inj H
  go_enter Try.func88, Try.ntmps88
  go_wp2
  go_ret
  exact ⟨by first | rfl | (simp; done) | (simp [*]; done), by repeat (first | exact Drawn0.refl _ | apply Drawn0.step)⟩

end Go.Proofs.Ytlncbckpcmojpaa.P
namespace Go.Proofs.Ytlncbckpcmojpaa.P
open Go.RowKit Go.Proofs.YtlncbckpcmojpaaW.PrintWords Go.Proofs.YtlncbckpcmojpaaW.PrintLast Go.Proofs.YtlncbckpcmojpaaW.PrintMore
attribute [local go_sem] max2_int min2_int max_two min_two max_three min_three max_four min_four   -- for this text's walks alone
set_option linter.unusedVariables false
set_option linter.unusedSimpArgs false

/-! ### entrepotref08_signed: function 89 -/
def entrepotref08_signed.f (a0 : Int) : Option (Bool) := if a0 ≥ (-100000000) then (some (decide (a0 ≤ 100000000))) else (some false)
set_option maxHeartbeats 8000000 in
set_option maxRecDepth 100000 in
theorem entrepotref08_signed.calls (a0 : Int) (r : Bool) (w : World) (h : entrepotref08_signed.f a0 = some r) :
  Calls Try.prog 89 #[.int .i64 a0] w fun e w' => e = .returned (.bool r) ∧ Drawn0 w w' := by
 have H : (if a0 ≥ (-100000000) then (some (decide (a0 ≤ 100000000))) else (some false)) = some r := h
 clear h
 by_cases c2 : a0 ≥ (-100000000)
 ·rw [if_pos c2] at H
  have c2b0 : decide ((-100000000) ≤ a0) = true := decide_eq_true c2
  clear c2
  obtain rfl := Option.some.inj H
  go_enter Try.func89, Try.ntmps89
  go_wp2
  go_ret
  exact ⟨by first | rfl | (simp; done) | (simp [*]; done), by repeat (first | exact Drawn0.refl _ | apply Drawn0.step)⟩
 ·rw [if_neg c2] at H
  have c2b0 : decide ((-100000000) ≤ a0) = false := decide_eq_false c2
  clear c2
  obtain rfl := Option.some.inj H
  go_enter Try.func89, Try.ntmps89
  go_wp2
  go_ret
  exact ⟨by first | rfl | (simp; done) | (simp [*]; done), by repeat (first | exact Drawn0.refl _ | apply Drawn0.step)⟩

end Go.Proofs.Ytlncbckpcmojpaa.P
namespace Go.Proofs.Ytlncbckpcmojpaa
namespace Open
open Go.RowKit Go.ChangeShapes Go.WideShapes Go.Deep Go.Proofs.YtlncbckpcmojpaaW.PrintWords
universe u

/-- Whatever reads as data of type t is of kind d, and good. -/
def Opens (P : Program) (t : TypeId) {α : Type} (d : Kd α) (G : α → Prop) : Prop :=
  P.cellsOf t = d.sz ∧ ∀ (H : Type) (enc : TypeId × Value → H) (w : World) (fuel : Nat) (cs : List Value) (x : DataW H × List MemPlace), DataW.trod enc P w 0 (fun _ => true) true fuel t cs = some x → ∃ v : α, d.K w v cs ∧ G v

def WfInt (k : IntKind) (n : Int) : Prop := (Lit.int k n).wf = true
def WfRow {α : Type} (G : α → Prop) (xs : List α) : Prop := xs.length ≤ maxLen ∧ ∀ x ∈ xs, G x

variable {P : Program}

theorem opens_int {t : TypeId} {k : IntKind} (ht : P.underlying t = some (.int k)) (hc : P.cellsOf t = 1) : Opens P t (Kd.int k) (WfInt k) := by
  refine ⟨hc, fun H enc w fuel cs x h => ?_⟩
  cases fuel with
  | zero => simp [DataW.trod] at h
  | succ n =>
    unfold DataW.trod at h
    rw [ht] at h
    match cs, h with
    | [.int k' m], h =>
      simp only at h
      split at h
      · rename_i hk
        obtain ⟨rfl, hw⟩ := hk
        exact ⟨m, rfl, hw⟩
      · cases h
theorem opens_string {t : TypeId} (ht : P.underlying t = some .string) (hc : P.cellsOf t = 1) : Opens P t Kd.string (fun s => s.size ≤ maxLen) := by
  refine ⟨hc, fun H enc w fuel cs x h => ?_⟩
  cases fuel with
  | zero => simp [DataW.trod] at h
  | succ n =>
    unfold DataW.trod at h
    rw [ht] at h
    match cs, h with
    | [.string s], h =>
      simp only at h
      split at h
      · rename_i hk; exact ⟨s, rfl, hk⟩
      · cases h
theorem opens_slice {α : Type} {t e : TypeId} {d : Kd α} {G : α → Prop} (ht : P.underlying t = some (.slice e)) (hc : P.cellsOf t = 1) (he : Opens P e d G) : Opens P t (Kd.slice e d) (WfRow G) := by
  refine ⟨hc, fun H enc w fuel cs x h => ?_⟩
  rcases open_slice ht h with ⟨rfl, _⟩ | ⟨a, len, cap, m, n, D, Pl, rfl, _, hl, hm, hmm, _, hi⟩
  · exact ⟨[], ⟨none, 0, rfl, Nat.le_refl _, Kd.C_nil d w⟩, by unfold maxLen; simp, fun x hx => by cases hx⟩
  · simp only [if_true] at hmm
    subst hmm
    have key : ∀ i, i < len → ∃ v : α, (∃ c, w.cells? 0 (a.add (i * P.cellsOf e)) (P.cellsOf e) = some c ∧ d.K w v c) ∧ G v := fun i h => by
      obtain ⟨c, h1, h2⟩ := hi i (by omega)
      obtain ⟨v, hv, hg⟩ := he.2 H enc w n c _ h2
      exact ⟨v, ⟨c, h1, hv⟩, hg⟩
    by_cases h0 : len = 0
    · subst h0
      exact ⟨[], ⟨some a, m, rfl, Nat.zero_le _, rfl, by simp, fun h => absurd h (Nat.lt_irrefl 0)⟩, by unfold maxLen; simp, fun x hx => by cases hx⟩
    · obtain ⟨v0, _⟩ := key 0 (by omega)
      have key2 : ∀ i, ∃ v : α, i < len → (∃ c, w.cells? 0 (a.add (i * P.cellsOf e)) (P.cellsOf e) = some c ∧ d.K w v c) ∧ G v := fun i => by
        by_cases h : i < len
        · obtain ⟨v, hv⟩ := key i h; exact ⟨v, fun _ => hv⟩
        · exact ⟨v0, fun h' => absurd h' h⟩
      have hch := fun i => Classical.choose_spec (key2 i)
      obtain ⟨f, hf⟩ : ∃ f : Nat → α, ∀ i, i < len → (∃ c, w.cells? 0 (a.add (i * P.cellsOf e)) (P.cellsOf e) = some c ∧ d.K w (f i) c) ∧ G (f i) := ⟨_, hch⟩
      have hlen : ((List.range len).map f).length = len := by simp
      refine ⟨(List.range len).map f, ⟨some a, m, by rw [hlen], by rw [hlen]; exact hl, rfl, ?_, fun _ => ⟨a, rfl, fun j p hj => ?_⟩⟩, ?_, fun x hx => ?_⟩
      · rw [hlen]; unfold maxLen at hm; omega
      · have hjl : j < len := by
          have := (List.getElem?_eq_some_iff.1 hj).1
          rwa [hlen] at this
        obtain ⟨⟨c, h1, h2⟩, _⟩ := hf j hjl
        have hp : p = f j := by
          rw [List.getElem?_map, List.getElem?_range hjl] at hj
          exact (Option.some.inj hj).symm
        obtain ⟨_, hcl, hat⟩ := World.cells?_some h1
        rw [hp]
        refine ⟨c, d.K_len h2, h2, fun i u hu => ?_⟩
        have hil : i < P.cellsOf e := by have := (List.getElem?_eq_some_iff.1 hu).1; omega
        rw [← he.1, ← Go.Deep.add_add, hat i hil, hu]
      · rw [hlen]; omega
      · simp only [List.mem_map, List.mem_range] at hx
        obtain ⟨i, h1, rfl⟩ := hx
        exact (hf i h1).2

/-- The fields of a struct from a cell on. -/
def OpensFs (P : Program) : List Field → Nat → {α : Type} → Kd α → (α → Prop) → Prop := fun fs off α d G =>
  ∀ (H : Type) (enc : TypeId × Value → H) (w : World) (fuel : Nat) (cs : List Value), cs.length = off + d.sz →
    (∀ f ∈ fs, ∃ x : DataW H × List MemPlace, DataW.trod enc P w 0 (fun _ => true) true fuel f.type ((cs.drop f.offset).take (P.cellsOf f.type)) = some x) → ∃ v : α, d.K w v (cs.drop off) ∧ G v
theorem fs_one {α : Type} {f : Field} {off : Nat} {d : Kd α} {G : α → Prop} (ho : f.offset = off) (h : Opens P f.type d G) : OpensFs P [f] off d G := by
  intro H enc w fuel cs hl hf
  obtain ⟨x, hx⟩ := hf f (by simp)
  rw [ho, h.1, List.take_of_length_le (by rw [List.length_drop]; omega)] at hx
  exact h.2 H enc w fuel _ x hx
theorem fs_cons {α β : Type} {f : Field} {fs : List Field} {off : Nat} {a : Kd α} {b : Kd β} {Ga : α → Prop} {Gb : β → Prop} (ho : f.offset = off) (h : Opens P f.type a Ga) (hr : OpensFs P fs (off + a.sz) b Gb) :
    OpensFs P (f :: fs) off (Kd.pair a b) (fun p => Ga p.1 ∧ Gb p.2) := by
  intro H enc w fuel cs hl hf
  have hl' : cs.length = off + (a.sz + b.sz) := hl
  obtain ⟨x, hx⟩ := hf f (by simp)
  obtain ⟨v, hv, hg⟩ := h.2 H enc w fuel _ x hx
  obtain ⟨u, hu, hg2⟩ := hr H enc w fuel cs (by omega) (fun g hg => hf g (by simp [hg]))
  rw [ho, h.1] at hv
  refine ⟨(v, u), ⟨_, _, ?_, hv, hu⟩, hg, hg2⟩
  rw [← List.drop_drop, List.take_append_drop]
theorem opens_struct {α β : Type} {t : TypeId} {fs : Array Field} {d : Kd α} {G : α → Prop} (f : β → α) (g : α → β) (hfg : ∀ a, f (g a) = a) (ht : P.underlying t = some (.struct fs)) (hc : P.cellsOf t = d.sz) (h : OpensFs P fs.toList 0 d G) :
    Opens P t (Kd.iso d f) (fun b => G (f b)) := by
  refine ⟨hc, fun H enc w fuel cs x hx => ?_⟩
  obtain ⟨xs, n, rfl, _, hl, hxl, hget⟩ := DataW.trod_struct ht hx
  obtain ⟨v, hv, hg⟩ := h H enc w n cs (by rw [hl, hc]; omega) (fun z hz => by
    obtain ⟨i, hi, rfl⟩ := List.getElem_of_mem hz
    have hi' : i < fs.size := by simpa using hi
    have e := hget i fs[i] (Array.getElem?_eq_getElem hi')
    have e2 : fs.toList[i] = fs[i] := by simp
    rw [e2, e]
    exact ⟨_, List.getElem?_eq_getElem (by omega)⟩)
  refine ⟨g v, ?_, by show G (f (g v)); rw [hfg]; exact hg⟩
  show d.K w (f (g v)) cs
  rw [hfg]; exact hv

/-- An argument: its value's cells. -/
theorem opens_arg {α : Type} {t : TypeId} {d : Kd α} {G : α → Prop} (h : Opens P t d G) {H : Type} {enc : TypeId × Value → H} {w : World} {v : Value} {x : DataW H} {p : List MemPlace} (hv : DataW.Trod enc P w 0 (fun _ => true) true t v x p) :
    ∃ a : α, d.K w a v.cells.toList ∧ G a := by
  obtain ⟨fuel, hf⟩ := hv
  exact h.2 H enc w fuel _ _ hf
end Open
end Go.Proofs.Ytlncbckpcmojpaa
set_option maxRecDepth 100000
namespace Go.Proofs.Ytlncbckpcmojpaa
open Go.RowKit Go.ChangeShapes Go.WideShapes Go.Deep Go.Proofs.YtlncbckpcmojpaaW.PrintWords
namespace Open
abbrev Node := P.S32
abbrev WfI (n : Int) : Prop := WfInt .i64 n
def WfNode (d : Node) : Prop := WfI d.f0 ∧ WfI d.f1 ∧ WfI d.f2 ∧ WfI d.f3 ∧ WfI d.f4 ∧ WfI d.f5 ∧ WfI d.f6

theorem cells_int : Try.prog.cellsOf 3 = 1 := by kernel_rfl
theorem opens_i64 : Opens Try.prog 3 (Kd.int .i64) WfI := opens_int Try.underlying3 cells_int
def WfStr (s : ByteArray) : Prop := s.size ≤ maxLen
theorem opens_str : Opens Try.prog 9 Kd.string WfStr := opens_string Try.underlying9 (by kernel_rfl)
theorem opens_node : Opens Try.prog 32 P.k32 WfNode :=
  opens_struct (fun x : Node => (x.f0, x.f1, x.f2, x.f3, x.f4, x.f5, x.f6)) (fun p => ⟨p.1, p.2.1, p.2.2.1, p.2.2.2.1, p.2.2.2.2.1, p.2.2.2.2.2.1, p.2.2.2.2.2.2⟩) (fun _ => rfl) Try.underlying32 (by kernel_rfl)
    (fs_cons rfl opens_i64 (fs_cons rfl opens_i64 (fs_cons rfl opens_i64 (fs_cons rfl opens_i64 (fs_cons rfl opens_i64 (fs_cons rfl opens_i64 (fs_one rfl opens_i64)))))))
theorem opens_nodes : Opens Try.prog 22 (Kd.slice 32 P.k32) (WfRow WfNode) := opens_slice Try.underlying22 (by kernel_rfl) opens_node
theorem opens_ints : Opens Try.prog 23 (Kd.slice 3 (Kd.int .i64)) (WfRow WfI) := opens_slice Try.underlying23 (by kernel_rfl) opens_i64
abbrev Tup := ByteArray × Int × Int × Int × Int × Int × List Node × List Int
def WfTup (x : Tup) : Prop := WfStr x.1 ∧ WfI x.2.1 ∧ WfI x.2.2.1 ∧ WfI x.2.2.2.1 ∧ WfI x.2.2.2.2.1 ∧ WfI x.2.2.2.2.2.1 ∧ WfRow WfNode x.2.2.2.2.2.2.1 ∧ WfRow WfI x.2.2.2.2.2.2.2
def kTup : Kd Tup := Kd.iso (Kd.pair Kd.string (Kd.pair (Kd.int .i64) (Kd.pair (Kd.int .i64) (Kd.pair (Kd.int .i64) (Kd.pair (Kd.int .i64) (Kd.pair (Kd.int .i64) (Kd.pair (Kd.slice 32 P.k32) (Kd.slice 3 (Kd.int .i64))))))))) (fun x : Tup => (x.1, x.2.1, x.2.2.1, x.2.2.2.1, x.2.2.2.2.1, x.2.2.2.2.2.1, x.2.2.2.2.2.2.1, x.2.2.2.2.2.2.2))
theorem opens_inst : Opens Try.prog 25 kTup WfTup :=
  opens_struct (fun x : Tup => (x.1, x.2.1, x.2.2.1, x.2.2.2.1, x.2.2.2.2.1, x.2.2.2.2.2.1, x.2.2.2.2.2.2.1, x.2.2.2.2.2.2.2)) (fun x => (x.1, x.2.1, x.2.2.1, x.2.2.2.1, x.2.2.2.2.1, x.2.2.2.2.2.1, x.2.2.2.2.2.2.1, x.2.2.2.2.2.2.2)) (fun _ => rfl) Try.underlying25 (by kernel_rfl)
    (fs_cons rfl opens_str (fs_cons rfl opens_i64 (fs_cons rfl opens_i64 (fs_cons rfl opens_i64 (fs_cons rfl opens_i64 (fs_cons rfl opens_i64 (fs_cons rfl opens_nodes (fs_one rfl opens_ints))))))))

/-- What an instance that came in is. -/
structure InstGood (name : ByteArray) (kind metric scale cap fleet : Int) (nodes : List Node) (matrix : List Int) : Prop where
  name : name.size ≤ maxLen
  kind : WfI kind
  metric : WfI metric
  scale : WfI scale
  cap : WfI cap
  fleet : WfI fleet
  nodes : WfRow WfNode nodes
  matrix : WfRow WfI matrix
theorem open_inst {H : Type} {enc : TypeId × Value → H} {w : World} {r : Reach} {b0 : Nat} {v : Value} {x : DataW H} {p : List MemPlace} (hok : Value.okWide Try.prog w r b0 25 v) (hv : DataW.Trod enc Try.prog w 0 (fun _ => true) true 25 v x p) :
    ∃ (name : ByteArray) (kind metric scale cap fleet : Int) (nodes : List Node) (matrix : List Int) (A : Option Addr) (c : Nat) (A' : Option Addr) (c' : Nat),
      v = .agg #[.string name, .int .i64 kind, .int .i64 metric, .int .i64 scale, .int .i64 cap, .int .i64 fleet, .slice A nodes.length c, .slice A' matrix.length c'] ∧
      Kd.C P.k32 w A nodes.length nodes ∧ nodes.length ≤ c ∧ Kd.C (Kd.int .i64) w A' matrix.length matrix ∧ matrix.length ≤ c' ∧ InstGood name kind metric scale cap fleet nodes matrix := by
  obtain ⟨a, hK, h1, h2, h3, h4, h5, h6, h7, h8⟩ := opens_arg opens_inst hv
  obtain ⟨cs, rfl, _⟩ := okWide_struct Try.underlying25 hok
  obtain ⟨_, _, e1, rfl, _, _, rfl, rfl, _, _, rfl, rfl, _, _, rfl, rfl, _, _, rfl, rfl, _, _, rfl, rfl, _, _, rfl, ⟨A, c, rfl, g1, g2⟩, ⟨A', c', rfl, g3, g4⟩⟩ := hK
  refine ⟨_, _, _, _, _, _, _, _, A, c, A', c', ?_, g2, g1, g4, g3, ⟨h1, h2, h3, h4, h5, h6, h7, h8⟩⟩
  have e2 : cs.toList = _ := e1
  rw [← Array.toArray_toList (xs := cs), e2]
  rfl
end Open
end Go.Proofs.Ytlncbckpcmojpaa
set_option maxRecDepth 100000
namespace Go.Proofs.Ytlncbckpcmojpaa
open Go.RowKit Go.ChangeShapes Go.WideShapes Go.Deep Go.Proofs.YtlncbckpcmojpaaW.PrintWords
namespace Open
namespace Plan
theorem cells_int : Try.prog.cellsOf 3 = 1 := by kernel_rfl
theorem opens_i64 : Opens Try.prog 3 (Kd.int .i64) (WfInt .i64) := opens_int Try.underlying3 cells_int
theorem opens_row : Opens Try.prog 23 (Kd.slice 3 (Kd.int .i64)) (WfRow (WfInt .i64)) := opens_slice Try.underlying23 (by kernel_rfl) opens_i64
theorem opens_rows : Opens Try.prog 28 (Kd.slice 23 (Kd.slice 3 (Kd.int .i64))) (WfRow (WfRow (WfInt .i64))) := opens_slice Try.underlying28 (by kernel_rfl) opens_row
theorem opens_plan : Opens Try.prog 30 (Kd.iso (Kd.slice 23 (Kd.slice 3 (Kd.int .i64))) (fun x : List (List Int) => x)) (WfRow (WfRow (WfInt .i64))) :=
  opens_struct (fun x : List (List Int) => x) (fun x => x) (fun _ => rfl) Try.underlying30 (by kernel_rfl) (fs_one rfl opens_rows)
end Plan
abbrev Plan.WfI (n : Int) : Prop := WfInt .i64 n
abbrev PlanGood (rs : List (List Int)) : Prop := WfRow (WfRow (WfInt .i64)) rs
theorem open_plan {H : Type} {enc : TypeId × Value → H} {w : World} {r : Reach} {b0 : Nat} {v : Value} {x : DataW H} {p : List MemPlace} (hok : Value.okWide Try.prog w r b0 30 v) (hv : DataW.Trod enc Try.prog w 0 (fun _ => true) true 30 v x p) :
    ∃ (rs : List (List Int)) (A : Option Addr) (c : Nat), v = .agg #[.slice A rs.length c] ∧ Kd.C (Kd.slice 3 (Kd.int .i64)) w A rs.length rs ∧ rs.length ≤ c ∧ PlanGood rs := by
  obtain ⟨a, hK, h1⟩ := opens_arg Plan.opens_plan hv
  obtain ⟨cs, rfl, _⟩ := okWide_struct Try.underlying30 hok
  obtain ⟨A, c, e1, g1, g2⟩ := hK
  refine ⟨a, A, c, ?_, g2, g1, h1⟩
  have e2 : cs.toList = _ := e1
  rw [← Array.toArray_toList (xs := cs), e2]
end Open
end Go.Proofs.Ytlncbckpcmojpaa
namespace Go.Proofs.Ytlncbckpcmojpaa.P
open Go.RowKit Go.Proofs.YtlncbckpcmojpaaW.PrintWords Go.Proofs.YtlncbckpcmojpaaW.PrintLast Go.Proofs.YtlncbckpcmojpaaW.PrintMore
attribute [local go_sem] max2_int min2_int max_two min_two max_three min_three max_four min_four   -- for this text's walks alone
set_option linter.unusedVariables false
set_option linter.unusedSimpArgs false

/-! ### cost_Unit: function 46 -/
def cost_Unit.f (a0_0 : ByteArray) (a0_1 : Int) (a0_2 : Int) (a0_3 : Int) (a0_4 : Int) (a0_5 : Int) (l0_6 : List (S32)) (l0_7 : List Int) : Option (Int) := if a0_2 = 6 then (some 10) else (some 1)
set_option maxHeartbeats 8000000 in
set_option maxRecDepth 100000 in
theorem cost_Unit.calls (a0_0 : ByteArray) (a0_1 : Int) (a0_2 : Int) (a0_3 : Int) (a0_4 : Int) (a0_5 : Int) (A0_6 : Option Addr) (c0_6 : Nat) (l0_6 : List (S32)) (A0_7 : Option Addr) (c0_7 : Nat) (l0_7 : List Int) (r : Int) (w : World) (hr0_6 : Kd.C k32 w A0_6 l0_6.length l0_6) (hc0_6 : l0_6.length ≤ c0_6) (hr0_7 : Kd.C (Kd.int .i64) w A0_7 l0_7.length l0_7) (hc0_7 : l0_7.length ≤ c0_7) (h : cost_Unit.f a0_0 a0_1 a0_2 a0_3 a0_4 a0_5 l0_6 l0_7 = some r) :
  Calls Try.prog 46 #[.agg #[.string a0_0, .int .i64 a0_1, .int .i64 a0_2, .int .i64 a0_3, .int .i64 a0_4, .int .i64 a0_5, .slice A0_6 l0_6.length c0_6, .slice A0_7 l0_7.length c0_7]] w fun e w' => e = .returned (.int .i64 r) ∧ Below w.heap.size w w' := by
 have hu25 := Try.underlying25
 have HR0_6 := Aside0.mk hr0_6
 have HC0_6 := Aside0.mk hc0_6
 clear hr0_6 hc0_6
 have HR0_7 := Aside0.mk hr0_7
 have HC0_7 := Aside0.mk hc0_7
 clear hr0_7 hc0_7
 have HB := Aside0.mk (Below.refl w.heap.size w)
 have H : (if a0_2 = 6 then (some 10) else (some 1)) = some r := h
 clear h
 by_cases c2 : a0_2 = 6
 ·rw [if_pos c2] at H
  have c2b0 : (a0_2 == 6) = true := beq_iff_eq.mpr c2
  have c2b1 : (a0_2 != 6) = false := bne_eq_false_iff_eq.mpr c2
  clear c2
  obtain rfl := Option.some.inj H
  go_enter Try.func46, Try.ntmps46
  go_wp2_with (first | ((with_reducible refine gate_dst (N := 1) rfl ?_); refine box_event ?hg (N := 1) ?hd (cs := #[.string a0_0, .int .i64 a0_1, .int .i64 a0_2, .int .i64 a0_3, .int .i64 a0_4, .int .i64 a0_5, .slice A0_6 l0_6.length c0_6, .slice A0_7 l0_7.length c0_7]) (t := 25) ?hr ?_; (case hd => rfl); (case hg => rfl); (case hr => first | (go_simp; done) | (go_simp; rfl)); intro gb128 hg w3 hbox hb; have n0_ := Aside0.mk (below_step (by repeat (first | (with_reducible first | exact HB.out | apply below_alloc | apply pw_below_drewN | apply below_drew1) | exact HB.out)) hb); have n1_ := Aside0.mk (hbox); have n2_ := Aside0.mk ((by rw [hg]; exact (below_size (by repeat (first | (with_reducible first | exact HB.out | apply below_alloc | apply pw_below_drewN | apply below_drew1) | exact HB.out))) : w.heap.size ≤ gb128)); have n3_ := Aside0.mk ((by rw [hg]; exact (below_size (by repeat (first | (with_reducible first | exact HB.out | apply below_alloc | apply pw_below_drewN | apply below_drew1) | exact HB.out))) : w.heap.size ≤ gb128)); clear HB; have HB := n0_; have BK128 := n1_; have GW128 := n2_; have GE128 := n3_; clear n0_ n1_ n2_ n3_; clear hb hbox hg; obtain ⟨hcz4_0, hcz4_1, hcz4_2, hcz4_3, hcz4_4, hcz4_5, hcz4_6, hcz4_7, hfz4_0, hfz4_1, hfz4_2, hfz4_3, hfz4_4, hfz4_5, hfz4_6, hfz4_7⟩ := blk8_ BK128.out))
  go_ret
  exact ⟨by first | rfl | (simp [errW_none, errW_some] <;> rfl) | (simp [*, errW_none, errW_some] <;> rfl), by repeat (first | (with_reducible first | exact HB.out | apply below_alloc | apply pw_below_drewN | apply below_drew1 | refine below_set ?_ GE128.out) | exact HB.out)⟩
 ·rw [if_neg c2] at H
  have c2b0 : (a0_2 == 6) = false := beq_eq_false_iff_ne.mpr c2
  have c2b1 : (a0_2 != 6) = true := bne_iff_ne.mpr c2
  obtain rfl := Option.some.inj H
  go_enter Try.func46, Try.ntmps46
  go_wp2_with (first | ((with_reducible refine gate_dst (N := 1) rfl ?_); refine box_event ?hg (N := 1) ?hd (cs := #[.string a0_0, .int .i64 a0_1, .int .i64 a0_2, .int .i64 a0_3, .int .i64 a0_4, .int .i64 a0_5, .slice A0_6 l0_6.length c0_6, .slice A0_7 l0_7.length c0_7]) (t := 25) ?hr ?_; (case hd => rfl); (case hg => rfl); (case hr => first | (go_simp; done) | (go_simp; rfl)); intro gb128 hg w5 hbox hb; have n0_ := Aside0.mk (below_step (by repeat (first | (with_reducible first | exact HB.out | apply below_alloc | apply pw_below_drewN | apply below_drew1) | exact HB.out)) hb); have n1_ := Aside0.mk (hbox); have n2_ := Aside0.mk ((by rw [hg]; exact (below_size (by repeat (first | (with_reducible first | exact HB.out | apply below_alloc | apply pw_below_drewN | apply below_drew1) | exact HB.out))) : w.heap.size ≤ gb128)); have n3_ := Aside0.mk ((by rw [hg]; exact (below_size (by repeat (first | (with_reducible first | exact HB.out | apply below_alloc | apply pw_below_drewN | apply below_drew1) | exact HB.out))) : w.heap.size ≤ gb128)); clear HB; have HB := n0_; have BK128 := n1_; have GW128 := n2_; have GE128 := n3_; clear n0_ n1_ n2_ n3_; clear hb hbox hg; obtain ⟨hcz6_0, hcz6_1, hcz6_2, hcz6_3, hcz6_4, hcz6_5, hcz6_6, hcz6_7, hfz6_0, hfz6_1, hfz6_2, hfz6_3, hfz6_4, hfz6_5, hfz6_6, hfz6_7⟩ := blk8_ BK128.out))
  go_ret
  exact ⟨by first | rfl | (simp [errW_none, errW_some] <;> rfl) | (simp [*, errW_none, errW_some] <;> rfl), by repeat (first | (with_reducible first | exact HB.out | apply below_alloc | apply pw_below_drewN | apply below_drew1 | refine below_set ?_ GE128.out) | exact HB.out)⟩

end Go.Proofs.Ytlncbckpcmojpaa.P
