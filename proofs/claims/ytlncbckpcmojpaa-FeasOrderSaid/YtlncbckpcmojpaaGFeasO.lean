/- FeasOrder: what is known while the turned plan is being built, in whatever order that goes on. -/
import Derived.Test.YtlncbckpcmojpaaGFeasS
import Derived.Test.YtlncbckpcmojpaaMki
set_option linter.unusedVariables false
namespace Go.Proofs.Ytlncbckpcmojpaa
open Go.RowKit Go.Proofs.YtlncbckpcmojpaaW.PrintWords Go.Proofs.YtlncbckpcmojpaaW.PrintLast Go.Proofs.YtlncbckpcmojpaaW.PrintMore
namespace FeasO
open P FeasWalk FeasP StopsWalk
theorem old_cell {w W : World} {p : Addr} {u : Value} (hb : Below w.heap.size w W) (h : w.cell? p = some u) : W.cell? p = some u := (hb.cell (World.block_lt_of_cell? w _ h)).trans h
abbrev dR : Kd (List Int) := Kd.slice 3 (Kd.int .i64)
def rowsAt (ds ts : List (List Int)) : Nat → List (List Int)
  | 2 => ds
  | 3 => ds ++ [[]]
  | 4 => ds ++ [[]] ++ ts
  | _ => []
structure Sg where
  v34 : Value
  v39 : Value
  b40 : Nat
  v41 : Value
  b41 : Nat
  v42 : Value
  A47 : Option Addr
  n47 : Nat
  c47 : Nat
  g8 : Nat
abbrev Sg.v47 (s : Sg) : Value := .slice s.A47 s.n47 s.c47
def Sg.va (s : Sg) : Nat → Value
  | 1 => s.v34
  | 2 => s.v39
  | 3 => s.v42
  | _ => s.v47
def okG (c : Nat) (s : Sg) (k : Nat) : Prop := c = 1 → k ≠ s.g8
/-- The instance's block, the plan's. -/
structure OB (x : Look) (w : World) (A : Option Addr) (n cap : Nat) (W : World) : Prop where
  xb : W.heap[w.heap.size]? = some (.cells #[.string x.nm, .int .i64 x.kd, .int .i64 x.mt, .int .i64 x.sc, .int .i64 x.cp, .int .i64 x.fl, .slice x.A x.ns.length x.c, .slice x.B x.mx.length x.e] 25 (0, 0))
  pb : W.heap[w.heap.size + 1]? = some (.cells #[.slice A n cap] 30 (0, 0))
  bel : Below w.heap.size w W
section
variable {x : Look} {w W W1 : World} {A : Option Addr} {n cap : Nat}
theorem OB.below (h : OB x w A n cap W) (hb : Below W.heap.size W W1) : OB x w A n cap W1 := ⟨blk_below h.xb hb, blk_below h.pb hb, below_step h.bel hb⟩
theorem OB.cell (h : OB x w A n cap W) : W.cell? ⟨w.heap.size + 1, 0, none⟩ = some (.slice A n cap) := (blk1_ h.pb).1
theorem OB.cells (h : OB x w A n cap W) : W.cell? ⟨w.heap.size, 0, none⟩ = some (.string x.nm) ∧ W.cell? ⟨w.heap.size, 1, none⟩ = some (.int .i64 x.kd) ∧ W.cell? ⟨w.heap.size, 2, none⟩ = some (.int .i64 x.mt) ∧ W.cell? ⟨w.heap.size, 3, none⟩ = some (.int .i64 x.sc) ∧
    W.cell? ⟨w.heap.size, 4, none⟩ = some (.int .i64 x.cp) ∧ W.cell? ⟨w.heap.size, 5, none⟩ = some (.int .i64 x.fl) ∧ W.cell? ⟨w.heap.size, 6, none⟩ = some (.slice x.A x.ns.length x.c) ∧ W.cell? ⟨w.heap.size, 7, none⟩ = some (.slice x.B x.mx.length x.e) := by
  obtain ⟨k0, k1, k2, k3, k4, k5, k6, k7, -⟩ := blk8_ h.xb
  exact ⟨k0, k1, k2, k3, k4, k5, k6, k7⟩
end
/-- a: how far the plan's own row has come; b: how far the row with the empty route; c: whether the plan's place is there. -/
structure OS (x : Look) (w : World) (A : Option Addr) (cap n : Nat) (ds ts : List (List Int)) (a b c : Nat) (s : Sg) (W : World) : Prop extends OB x w A n cap W where
  row : a ≠ 0 → Kd.N dR 23 W w.heap.size (okG c s) (s.va a) (rowsAt ds ts a)
  one : b = 2 → Kd.N dR 23 W w.heap.size (fun k => k = s.b41) s.v41 [[]] ∧ (a ≠ 0 → some s.b41 ≠ (s.va a).ownBlock) ∧ s.b41 < W.heap.size ∧ (c = 1 → s.b41 ≠ s.g8)
  eight : c = 1 → W.heap[s.g8]? = some (.cells #[.slice none 0 0] 30 (0, 0)) ∧ w.heap.size + 2 ≤ s.g8
/-- Behind it. -/
structure OQ (x : Look) (w : World) (A : Option Addr) (n cap : Nat) (g8 : Nat) (v47 : Value) (qs : List (List Int)) (W : World) : Prop extends OB x w A n cap W where
  qb : W.heap[g8]? = some (.cells #[v47] 30 (0, 0))
  qr : Kd.N dR 23 W w.heap.size (fun k => k ≠ g8) v47 qs
theorem OQ.below {x : Look} {w W W1 : World} {A : Option Addr} {n cap g8 : Nat} {v47 : Value} {qs : List (List Int)} (h : OQ x w A n cap g8 v47 qs W) (hb : Below W.heap.size W W1) : OQ x w A n cap g8 v47 qs W1 := ⟨h.toOB.below hb, blk_below h.qb hb, Kd.N_below h.qr hb⟩
theorem fk_nil (W : World) (b : Nat) : Kd.FK dR W (fun _ => False) [] [.slice (some ⟨b, 0, none⟩) 0 0] := fun W' _ => ⟨some ⟨b, 0, none⟩, 0, rfl, Nat.le_refl _, ⟨rfl, by simp, fun h => absurd h (Nat.lt_irrefl 0)⟩⟩
theorem old_F {w W : World} {A' : Option Addr} {ys : List (List Int)} (hC : Kd.C dR w A' ys.length ys) (hb : Below w.heap.size w W) : Kd.F dR W (fun k => k < w.heap.size) A' ys.length ys := Kd.F_below (Kd.C_F (Kd.heap_slice _ (Kd.heap_int _)) hC) hb
section
variable {x : Look} {w W W1 : World} {A : Option Addr} {cap n a b c : Nat} {ds ts : List (List Int)} {s : Sg} {v v1 : Value}
theorem OS.below (h : OS x w A cap n ds ts a b c s W) (hb : Below W.heap.size W W1) : OS x w A cap n ds ts a b c s W1 :=
  ⟨h.toOB.below hb, fun e => Kd.N_below (h.row e) hb, fun e => ⟨Kd.N_below (h.one e).1 hb, (h.one e).2.1, Nat.lt_of_lt_of_le (h.one e).2.2.1 hb.size, (h.one e).2.2.2⟩, fun e => ⟨blk_below (h.eight e).1 hb, (h.eight e).2⟩⟩
theorem OS.fresh (h : OS x w A cap n ds ts a b c s W) : ∀ k, W.heap.size ≤ k → okG c s k := fun k hk e he => by have := blk_lt (h.eight e).1; omega
theorem OS.okp (h : OS x w A cap n ds ts a b c s W) (ha : a ≠ 0) : ∀ k, k < w.heap.size → okG c s k ∧ some k ≠ (s.va a).ownBlock := fun k hk => ⟨fun e he => by have := (h.eight e).2; omega, fun he => by have := Kd.N_base (h.row ha) _ he.symm; omega⟩
theorem OS.ok1 (h : OS x w A cap n ds ts a 2 c s W) (ha : a ≠ 0) : ∀ k, k = s.b41 → okG c s k ∧ some k ≠ (s.va a).ownBlock := fun k hk => by subst hk; exact ⟨(h.one rfl).2.2.2, (h.one rfl).2.1 ha⟩
theorem OS.start (h : OB x w A n cap W) (s : Sg) : OS x w A cap n ds ts 0 0 0 s W := ⟨h, fun e => absurd rfl e, (nomatch ·), (nomatch ·)⟩
theorem OS.t34 (h : OS x w A cap n ds ts 0 b c s W) (hb : Below W.heap.size W W1) (ho : Kd.N dR 23 W1 W.heap.size (okG c s) v []) : OS x w A cap n ds ts 1 b c { s with v34 := v } W1 :=
  have h' := h.below hb
  ⟨h'.toOB, fun _ => Kd.N_lower ho h.bel.size, fun e => ⟨(h'.one e).1, fun _ he => by have h1 := Kd.N_base ho _ he.symm; have h2 := (h.one e).2.2.1; exact absurd h1 (by show ¬ W.heap.size ≤ s.b41; omega), (h'.one e).2.2.1, (h'.one e).2.2.2⟩, h'.eight⟩
theorem OS.app (h : OS x w A cap n ds ts a b c s W) (ha : a ≠ 0) (ho : Kd.N dR 23 W1 w.heap.size (okG c s) v1 (rowsAt ds ts (a + 1))) (hb : Below w.heap.size w W1) (hg : W.grownBy W1 (s.va a).ownBlock) (hat : v1.ownBlock = (s.va a).ownBlock ∨ ∃ b, v1.ownBlock = some b ∧ W.heap.size ≤ b)
    (s' : Sg) (h1 : s'.va (a + 1) = v1) (h3 : s'.v41 = s.v41) (h4 : s'.b41 = s.b41) (h5 : s'.g8 = s.g8) : OS x w A cap n ds ts (a + 1) b c s' W1 := by
  have hne := fun {g t : Nat} {cells : Array Value} (hb : W.heap[g]? = some (.cells cells t (0, 0))) (ht : 23 ≠ t) => Kd.N_ne (h.row ha) hb ht
  refine ⟨⟨blk_grown h.xb hg (hne h.xb (by decide)), blk_grown h.pb hg (hne h.pb (by decide)), hb⟩, fun _ => ?_, fun e => ?_, fun e => ?_⟩
  · rw [h1]; unfold okG at ho ⊢; rw [h5]; exact ho
  · obtain ⟨o1, o2, o3, o4⟩ := h.one e
    rw [h1, h3, h4, h5]
    refine ⟨Kd.N_grown o1 hg (fun k hk => by rw [hk]; exact o2 ha), fun _ he => ?_, Nat.lt_of_lt_of_le o3 hg.size, o4⟩
    rcases hat with e1 | ⟨b', e1, e2⟩
    · exact o2 ha (he.trans e1)
    · rw [e1] at he; have := Option.some.inj he; omega
  · rw [h5]
    exact ⟨blk_grown (h.eight e).1 hg (hne (h.eight e).1 (by decide)), (h.eight e).2⟩
theorem OS.t40 (h : OS x w A cap n ds ts a 0 c s W) : OS x w A cap n ds ts a 1 c { s with b40 := W.heap.size } (W.alloc (.cells #[] 3)) :=
  have h' := h.below ((Below.refl _ W).alloc (Nat.le_refl _) (.cells #[] 3))
  ⟨h'.toOB, h'.row, (nomatch ·), h'.eight⟩
theorem OS.t41 (h : OS x w A cap n ds ts a 1 c s W) (hb : Below W.heap.size W W1) (ho : Kd.N dR 23 W1 W.heap.size (fun k => k = W.heap.size) v [[]]) : OS x w A cap n ds ts a 2 c { s with v41 := v, b41 := W.heap.size } W1 :=
  have h' := h.below hb
  ⟨h'.toOB, h'.row, fun _ => ⟨Kd.N_lower ho h.bel.size, fun ha he => by have := Kd.N_lt (h.row ha) _ he.symm; exact absurd this (Nat.lt_irrefl _), by
    obtain ⟨g, c', hv, h1, h2, -⟩ := Kd.N_form ho (by simp)
    have h3 := ho.1 g (by rw [hv]; rfl)
    show W.heap.size < _
    omega, fun e he => by have := blk_lt (h.eight e).1; have : W.heap.size = s.g8 := he; omega⟩, h'.eight⟩
theorem OS.t8 (h : OS x w A cap n ds ts a b 0 s W) : OS x w A cap n ds ts a b 1 { s with g8 := W.heap.size } (W.alloc (.cells #[.slice none 0 0] 30)) :=
  have h' := h.below ((Below.refl _ W).alloc (Nat.le_refl _) (.cells #[.slice none 0 0] 30))
  ⟨h'.toOB, fun e => Kd.N_mono (Kd.N_alloc (Kd.N_elderB (h.row e) W.heap.size (Nat.le_refl _)) _) (fun k hk _ => hk.2), fun e => ⟨(h'.one e).1, (h'.one e).2.1, (h'.one e).2.2.1, fun _ he => by have := (h.one e).2.2.1; have : s.b41 = W.heap.size := he; omega⟩, fun _ => ⟨heap_alloc_new W _, by have := blk_lt h.pb; show w.heap.size + 2 ≤ W.heap.size; omega⟩⟩
theorem OS.used (h : OS x w A cap n ds ts a 2 c s W) : OS x w A cap n ds ts a 3 c s W := ⟨h.toOB, h.row, (nomatch ·), h.eight⟩
theorem OS.store (h : OS x w A cap n ds ts 4 3 1 s W) : OQ x w A n cap s.g8 s.v47 (rowsAt ds ts 4) (W.setCell ⟨s.g8, 0, none⟩ s.v47) :=
  have h8 := h.eight rfl
  ⟨⟨blk_far h.xb (by show w.heap.size ≠ s.g8; omega) _, blk_far h.pb (by show w.heap.size + 1 ≠ s.g8; omega) _, below_set h.bel (by omega)⟩, blk_set h8.1 0 _, Kd.N_far (Kd.N_mono (h.row (by decide)) (fun k hk => hk rfl)) (fun k hk => hk) _⟩
end
end FeasO
end Go.Proofs.Ytlncbckpcmojpaa
