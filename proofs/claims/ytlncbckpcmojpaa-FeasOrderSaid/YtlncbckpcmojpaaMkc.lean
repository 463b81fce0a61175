/- Texts of this session in one: A range over an iterator that holds loops over iterators of its own: what the loop says between two rounds abides the tu; slices.All over a slice of ints, and its closure: what comes, in its order, whatever the loop does with it.; The stops of a plan, and its closure: all stops, route by route, with their places, whatever the loop does with them.; The stops of a small plan are few.; How often each number is a stop of a plan: the walk, and the word that callers use. -/
import Derived.RangeFuncNested
import Derived.RangeFuncLeaves
import Derived.RangeFuncBound
import Derived.RangeFuncBox
import Derived.Shelf.Abstract
import Derived.Shelf.RegionOpen
import Derived.WalkKit
import Derived.OwnWalkIn
import Derived.TacticsInMore
import Derived.LoopNIn
import Derived.LoopIn
import Derived.Test.YtlncbckpcmojpaaPx0
import Derived.Lib.Hide
import Derived.Test.YtlncbckpcmojpaaMka
namespace Go.Proofs.Ytlncbckpcmojpaa
namespace RangeD
open Go.RowKit
variable {n : Nat} {P : Program}

/-- What lay at B or beyond lies as it lay. -/
def Above (B : Nat) (W W' : World) : Prop := ∀ k o, B ≤ k → W.heap[k]? = some o → W'.heap[k]? = some o
theorem Above.refl (B : Nat) (W : World) : Above B W W := fun _ _ _ h => h
theorem Above.trans {B : Nat} {W V U : World} (h : Above B W V) (h' : Above B V U) : Above B W U := fun k o hk ho => h' k o hk (h k o hk ho)
theorem Above.mono {B C : Nat} {W V : World} (h : Above B W V) (hc : B ≤ C) : Above C W V := fun k o hk ho => h k o (Nat.le_trans hc hk) ho
theorem Above.alloc {B : Nat} {W V : World} (h : Above B W V) (o : Obj) : Above B W (V.alloc o) := fun k x hk hx =>
  ((World.grownBy_alloc V o none).block k (Array.getElem?_eq_some_iff.1 (h k x hk hx)).1 (fun e => by cases e)).trans (h k x hk hx)
theorem Above.putObj {B : Nat} {W V : World} {l : Nat} (h : Above B W V) (hl : l < B) (o : Obj) : Above B W (V.putObj l o) := fun k x hk hx =>
  (World.putObj_heap_other (by omega)).trans (h k x hk hx)
theorem Above.setCell {B : Nat} {W V : World} {p : Addr} (h : Above B W V) (hp : p.block < B) (v : Value) : Above B W (V.setCell p v) := fun k x hk hx =>
  (Below.heap_setCell _ _ _ k (by omega)).trans (h k x hk hx)
theorem Above.drew {B : Nat} {W V : World} (h : Above B W V) : Above B W V.drew := h
theorem Above.grown {B : Nat} {W V U : World} {row : Option Nat} (h : Above B W V) (hg : V.grownBy U row) (hr : ∀ k, row = some k → k < B) : Above B W U := fun k x hk hx =>
  (hg.block k (Array.getElem?_eq_some_iff.1 (h k x hk hx)).1 (fun e => by have := hr k e.symm; omega)).trans (h k x hk hx)
theorem own_at {β : Type} {C k : Nat} {o : Obj} (hk : k < C) : OwnFrom C (fun (_ : β) (W : World) => W.heap[k]? = some o) := fun _ _ _ row hs hg hr =>
  (hg.block k (Array.getElem?_eq_some_iff.1 hs).1 (fun e => by have := (hr k e.symm).1; omega)).trans hs
theorem OwnFrom.mono {β : Type} {B C : Nat} {I : β → World → Prop} (h : OwnFrom B I) (hc : B ≤ C) : OwnFrom C I := fun s W W' row hs hg hr => h s W W' row hs hg fun r e => ⟨Nat.le_trans hc (hr r e).1, (hr r e).2⟩
theorem OwnFrom.at {β γ : Type} {B : Nat} {I : β → World → Prop} (h : OwnFrom B I) (f : γ → β) : OwnFrom B (fun s W => I (f s) W) := fun s W W' row hs hg hr => h (f s) W W' row hs hg hr

/-- An iterator's word: as the kit's, but that the caller's word abides the turn of whatever is no cells and was laid since, and that a round keeps what the iterator has laid. -/
def SeqD {α : Type} (m : Nat) (P : Program) (g : Nat) (lb : Array Value) (encs : α → Array Value) (n₀ : Nat) (S Sp : List α → Prop) (N : Nat) (w : World) : Prop :=
  ∀ (l : Nat) (J Jx : List α → World → Prop) (W : World), Below w.heap.size w W → OwnFrom W.heap.size J → OwnFrom W.heap.size Jx →
    (∀ pre x W1, J pre W1 → pre.length < N → YieldAt Fence.wide (m - 1) P l (encs x) W1 fun e W' =>
      (e = .returned (.bool true) ∧ J (pre ++ [x]) W' ∧ Below n₀ W1 W' ∧ Above W.heap.size W1 W') ∨ (e = .returned (.bool false) ∧ Jx (pre ++ [x]) W' ∧ Above W.heap.size W1 W')) →
    J [] W →
    CallsIn Fence.wide m P g (#[.func (.yield l) #[] #[]] ++ lb) W fun e W' => (∃ v, e = .returned v) ∧ ((∃ xs, S xs ∧ J xs W') ∨ (∃ pre, Sp pre ∧ Jx pre W'))

theorem yield_in {m m' l l₂ : Nat} {args : Array Value} {W : World} {R : Ending → World → Prop} (h : YieldAt Fence.wide m P l args W R) : YieldAt (Fence.wide.inRound l₂) m' P l args W R := by
  obtain ⟨fn, tmps, assign, body, hy, hR⟩ := h
  exact ⟨fn, tmps, assign, body, hy, hR.1, fun c cs _ => hR.2 c cs (room_wide _)⟩

def postD {α : Type} (B n₀ : Nat) (I : List α → World → Prop) (Ix : Code → List α → World → Prop) (xs : List α) (W : World) : Exit → Act → World → Prop
  | .normal, _, W' => Above B W W' ∧ Below n₀ W W' ∧ I xs W'
  | .ret, _, W' => Above B W W' ∧ Ix .ret xs W'
  | _, _, _ => False

theorem wpIn_rangeFunc_D {α : Type} {g : Operand} {ps : Array Tmp} {assign body : Code} {Q : Exit → Act → World → Prop} {a : Act} {w : World} {gf : Nat} {lb : Array Value}
    (hg : a.eval g = .func (.func gf) #[] lb) (eg : ∀ args w, (callFunc gf args).run P w = .ok (.enter gf args) w)
    {encs : α → Array Value} {n₀ : Nat} {S Sp : List α → Prop} {N : Nat} {w0 : World} (hseq : SeqD (n - 1) P gf lb encs n₀ S Sp N w0) (hb0 : Below w0.heap.size w0 w) (hn₀ : n₀ ≤ w.heap.size) (hps : ∀ x, (encs x).size = ps.size)
    (I : List α → World → Prop) (Ix : List α → World → Prop) (hI : OwnFrom w.heap.size I) (hIx : OwnFrom w.heap.size Ix) (h0 : I [] w) (Ax : List α → α → Act → World → Prop) (hAx : ∀ pre x a', OwnFrom w.heap.size (fun (_ : Unit) W => Ax pre x a' W))
    (hassign : ∀ (l : Nat) (pre : List α) (x : α) (W : World) (K : Act → World → Prop), I pre W → (∀ a' W', Below n₀ W W' → Above w.heap.size W W' → Ax pre x a' W' → K a' W') →
      assign.wpIn (Fence.wide.inRound l) (n - 1 - 1) P (Exit.then K (fun _ _ _ => False)) { tmps := (ps.zip (encs x)).foldl (fun t (p, v) => t.setIfInBounds p v) a.tmps, defers := [] } W)
    (hbody : ∀ (l : Nat) (pre : List α) (x : α) (a' : Act) (W : World), w.heap.size ≤ l → Ax pre x a' W → pre.length < N → body.wpIn (Fence.wide.inRound l) (n - 1 - 1) P (postD w.heap.size n₀ I (fun _ => Ix) (pre ++ [x]) W) a' W)
    (hdone : ∀ (D : Nat) (xs : List α) (W : World), w.heap.size ≤ D → S xs → I xs W → W.heap[D]? = some (.deferred (some [])) → Q .normal { a with defers := { target := .collected D, args := #[] } :: a.defers } W)
    (hstop : ∀ (D : Nat) (pre : List α) (W : World), w.heap.size ≤ D → Sp pre → Ix pre W → W.heap[D]? = some (.deferred (some [])) → Code.ret.wpIn Fence.wide n P Q { a with defers := { target := .collected D, args := #[] } :: a.defers } W) :
    (Code.rangeFunc g ps assign body).wpIn Fence.wide n P Q a w := by
  refine wpIn_rangeFunc fun fn hfn => ?_
  rw [show Fence.wide.round = none from rfl]
  obtain ⟨rec, hrec⟩ : ∃ rec : LoopState → Option Code → Loop, rec = fun st pe => { state := st, pending := pe, fn, tmps := a.tmps, params := ps, assign, body, defers := w.heap.size } := ⟨_, rfl⟩
  obtain ⟨W1, hW1⟩ : ∃ W1, (w.alloc (.deferred (some []))).alloc (.loop (rec .ready none)) = W1 := ⟨_, rfl⟩
  have hs1 : W1.heap.size = w.heap.size + 2 := by rw [← hW1]; simp
  have hL1 : W1.heap[w.heap.size + 1]? = some (.loop (rec .ready none)) := by
    have := World.alloc_heap_new (w.alloc (.deferred (some []))) (.loop (rec .ready none))
    rw [World.size_alloc] at this
    rw [← hW1]; exact this
  have hK1 : W1.heap[w.heap.size]? = some (.deferred (some [])) := by
    rw [← hW1]; exact (Below.heap_alloc _ _ _ (by simp)).trans (World.alloc_heap_new w _)
  have hI1 : I [] W1 := by rw [← hW1]; exact hI.alloc _ (hI.alloc _ h0)
  have hb1 : Below w0.heap.size w0 W1 := by
    rw [← hW1]; exact hb0.trans ((((Below.refl _ w).alloc (Nat.le_refl _) _).alloc (by simp) _).mono hb0.size)
  refine ⟨w.heap.size + 1, [{ target := .collected w.heap.size, args := #[] }], W1, { target := .fn (.func gf) lb, args := #[.func (.yield (w.heap.size + 1)) #[] #[]] }, W1, gf,
    #[.func (.yield (w.heap.size + 1)) #[] #[]] ++ lb, W1, ?_, ?_, fun _ _ => trivial, ?_, fun h => (by simp [Fence.wide] at h), ?_⟩
  · rw [← hW1, hrec]; exact run_enterLoop_outer _ _ _ _ _
  · simp only [resolve, hg]
    simp [go_sem]
  · simp [invoke, go_sem, eg]
  · have dJ : OwnFrom W1.heap.size (fun pre W => I pre W ∧ W.heap[w.heap.size + 1]? = some (.loop (rec .ready none)) ∧ W.heap[w.heap.size]? = some (.deferred (some []))) :=
      OwnFrom.and (OwnFrom.mono hI (by omega)) (OwnFrom.and (own_at (by omega)) (own_at (by omega)))
    have dJx : OwnFrom W1.heap.size (fun pre W => Ix pre W ∧ W.heap[w.heap.size + 1]? = some (.loop (rec .done (some .ret))) ∧ W.heap[w.heap.size]? = some (.deferred (some []))) :=
      OwnFrom.and (OwnFrom.mono hIx (by omega)) (OwnFrom.and (own_at (by omega)) (own_at (by omega)))
    refine (hseq (w.heap.size + 1) _ _ W1 hb1 dJ dJx ?_ ⟨hI1, hL1, hK1⟩).mono ?_
    · rintro pre x W ⟨hi, hl, hk⟩ hlen
      have hy := run_yield (P := P) (args := encs x) hl (by rw [hrec]; exact hps x)
      rw [hrec] at hy
      refine ⟨fn, _, assign, body, hy, roundIn_of_wpIn hfn (hassign _ pre x W _ hi fun a' V hbV haV hm => ?_)⟩
      have hlV := haV _ _ (by omega) hl
      have hkV := haV _ _ (Nat.le_refl _) hk
      have hlt : w.heap.size + 1 < V.heap.size := (Array.getElem?_eq_some_iff.1 hlV).1
      refine ⟨_, run_beginRound hlV (by rw [hrec]), ?_⟩
      have hl2 : (V.putObj (w.heap.size + 1) (.loop { rec .ready none with state := .busy })).heap[w.heap.size + 1]? = some (.loop { rec .ready none with state := .busy }) := World.putObj_heap_same hlt
      have hk2 : (V.putObj (w.heap.size + 1) (.loop { rec .ready none with state := .busy })).heap[w.heap.size]? = some (.deferred (some [])) := (World.putObj_heap_other (by omega)).trans hkV
      have key : ∀ (j : Option Code) (U : World), Above w.heap.size (V.putObj (w.heap.size + 1) (.loop { rec .ready none with state := .busy })) U →
          U.heap[w.heap.size + 1]? = some (.loop { rec .ready none with state := .busy }) ∧ (Instr.endRound (w.heap.size + 1) j).run P U = .ok (.bool j.isNone) (U.putObj (w.heap.size + 1) (.loop (rec (if j.isNone then .ready else .done) j))) ∧
          (U.putObj (w.heap.size + 1) (.loop (rec (if j.isNone then .ready else .done) j))).heap[w.heap.size + 1]? = some (.loop (rec (if j.isNone then .ready else .done) j)) ∧
          (U.putObj (w.heap.size + 1) (.loop (rec (if j.isNone then .ready else .done) j))).heap[w.heap.size]? = some (.deferred (some [])) := fun j U hU => by
        have hl3 := hU _ _ (by omega) hl2
        have hr := run_endRound (P := P) j hl3
        rw [hrec] at hr
        refine ⟨hl3, by rw [hrec]; exact hr, World.putObj_heap_same (Array.getElem?_eq_some_iff.1 hl3).1, (World.putObj_heap_other (by omega)).trans (hU _ _ (Nat.le_refl _) hk2)⟩
      have hab : ∀ (j : Option Code) (U : World), Above w.heap.size (V.putObj (w.heap.size + 1) (.loop { rec .ready none with state := .busy })) U → Above W1.heap.size W (U.putObj (w.heap.size + 1) (.loop (rec (if j.isNone then .ready else .done) j))) := fun j U hU k o hk ho => by
        rw [hs1] at hk
        exact (World.putObj_heap_other (by omega)).trans (hU k o (by omega) ((World.putObj_heap_other (by omega)).trans (haV k o (by omega) ho)))
      have hbb : Below n₀ W (V.putObj (w.heap.size + 1) (.loop { rec .ready none with state := .busy })) :=
        hbV.grown (grownBy_putObj' _ _ _) (Nat.le_trans hn₀ (by omega)) (fun k e => by cases e; omega)
      refine wpIn_mono (hbody _ pre x a' _ (by omega) ((hAx pre x a').putObj (s := ()) _ hm (by omega) hlV rfl) hlen) ?_
      rintro e a3 U hp
      cases e with
      | normal =>
        obtain ⟨hU, hbU, hi3⟩ := hp
        obtain ⟨hl3, hr, hl4, hk4⟩ := key none U hU
        refine ⟨_, _, hr, .inl ⟨rfl, ⟨hI.putObj _ hi3 (by omega) hl3 rfl, hl4, hk4⟩, ?_, ?_⟩⟩
        · exact (hbb.trans hbU).grown (grownBy_putObj' _ _ _) (by have := (hbb.trans hbU).size; have := (Array.getElem?_eq_some_iff.1 hl).1; omega) (fun k e => by cases e; omega)
        · exact hab none U hU
      | ret =>
        obtain ⟨hU, hi3⟩ := hp
        obtain ⟨hl3, hr, hl4, hk4⟩ := key (some .ret) U hU
        exact ⟨_, _, hr, .inr ⟨rfl, ⟨hIx.putObj _ hi3 (by omega) hl3 rfl, hl4, hk4⟩, hab (some .ret) U hU⟩⟩
      | exit id => exact hp.elim
      | goto t => exact hp.elim
      | panic ch => exact hp.elim
      | outgrown => exact hp.elim
    · rintro e W2 ⟨⟨v, rfl⟩, (⟨xs, hS, hi, hl, hk⟩ | ⟨pre, hSp, hi, hl, hk⟩)⟩
      · have hr := run_endLoop (P := P) hl (by rw [hrec]; simp)
        rw [hrec] at hr
        exact ⟨none, _, hr, hdone _ xs _ (Nat.le_refl _) hS (hI.putObj _ hi (by omega) hl rfl) ((World.putObj_heap_other (by omega)).trans hk)⟩
      · have hr := run_endLoop (P := P) hl (by rw [hrec]; simp)
        rw [hrec] at hr
        exact ⟨some .ret, _, hr, hstop _ pre _ (Nat.le_refl _) hSp (hIx.putObj _ hi (by omega) hl rfl) ((World.putObj_heap_other (by omega)).trans hk)⟩

/-- Marks that the loops have left: each is taken at the return. -/
def mark (D : Nat) : Deferred := { target := .collected D, args := #[] }
def Marks (B : Nat) (Ds : List Nat) (W : World) : Prop := Ds.Nodup ∧ ∀ D ∈ Ds, B ≤ D ∧ W.heap[D]? = some (.deferred (some []))
theorem Marks.alloc {B : Nat} {Ds : List Nat} {W : World} (h : Marks B Ds W) (o : Obj) : Marks B Ds (W.alloc o) := ⟨h.1, fun D hD => ⟨(h.2 D hD).1, (Above.refl B W).alloc o D _ (h.2 D hD).1 (h.2 D hD).2⟩⟩
theorem Marks.above {B C : Nat} {Ds : List Nat} {W V : World} (h : Marks B Ds W) (ha : Above C W V) (hc : C ≤ B) : Marks B Ds V := ⟨h.1, fun D hD => ⟨(h.2 D hD).1, ha D _ (Nat.le_trans hc (h.2 D hD).1) (h.2 D hD).2⟩⟩
theorem Marks.cons {B D : Nat} {Ds : List Nat} {W V : World} (h : Marks B Ds W) (hV : W.heap.size ≤ D) (hB : B ≤ D) (hD : V.heap[D]? = some (.deferred (some []))) (h' : Marks B Ds V) : Marks B (D :: Ds) V :=
  ⟨List.nodup_cons.2 ⟨fun hm => by have := (Array.getElem?_eq_some_iff.1 (h.2 D hm).2).1; omega, h.1⟩, fun E hE => by
    rcases List.mem_cons.1 hE with rfl | hE
    · exact ⟨hB, hD⟩
    · exact h'.2 E hE⟩
theorem own_marks {β : Type} {B C : Nat} {Ds : List Nat} {V : World} (h : Marks B Ds V) (hC : V.heap.size ≤ C) : OwnFrom C (fun (_ : β) W => Marks B Ds W) := fun _ _ _ row hs hg hr =>
  ⟨hs.1, fun D hD => ⟨(hs.2 D hD).1, (hg.block D (Array.getElem?_eq_some_iff.1 (hs.2 D hD).2).1 (fun e => by have := (hr D e.symm).1; have := (Array.getElem?_eq_some_iff.1 (h.2 D hD).2).1; omega)).trans (hs.2 D hD).2⟩⟩
theorem boxed_above {B b : Nat} {t : TypeId} {v : Value} {W V : World} (h : Boxed W b t v) (ha : Above B W V) (hb : B ≤ b) : Boxed V b t v := ha b _ hb h
theorem leaves_marks {fn : Func} {tmps : Array Value} {R : Ending → World → Prop} {B : Nat} {G : World → Prop} (hG : OwnFrom B (fun (_ : Unit) W => G W)) (hfin : ∀ W, G W → LeavesInM Fence.wide n P fn tmps R [] .returning W) :
    ∀ (Ds : List Nat) (W : World), Marks B Ds W → G W → LeavesInM Fence.wide n P fn tmps R (Ds.map mark) .returning W
  | [], W, _, h => hfin W h
  | D :: Ds, W, ⟨hn, hm⟩, h => by
    have h1 := hm D (by simp)
    refine ⟨by simp, .inl ⟨D, _, rfl, run_takeDeferred h1.2, ?_⟩⟩
    rw [List.nodup_cons] at hn
    exact leaves_marks hG hfin Ds _ ⟨hn.2, fun E hE => ⟨(hm E (by simp [hE])).1, (World.putObj_heap_other (by rintro rfl; exact hn.1 hE)).trans (hm E (by simp [hE])).2⟩⟩ (hG.putObj (s := ()) _ h h1.1 h1.2 rfl)
end RangeD
end Go.Proofs.Ytlncbckpcmojpaa
namespace Go.Proofs.Ytlncbckpcmojpaa
open Go.RowKit
namespace AllWalk
open Go.RowKit Go.Shelf Go.Proofs.YtlncbckpcmojpaaW.PrintWords RangeD
attribute [local go_sem] Oper.semAt_some

/-- What has come when k rounds are over. -/
def upto {α : Type} (f : Nat → α) (k : Nat) : List α := (List.range k).map f
theorem upto_succ {α : Type} (f : Nat → α) (k : Nat) : upto f (k + 1) = upto f k ++ [f k] := by simp [upto, List.range_succ]
theorem upto_length {α : Type} (f : Nat → α) (k : Nat) : (upto f k).length = k := by simp [upto]
theorem upto_pre {α : Type} (f : Nat → α) {j k : Nat} (h : j ≤ k) : upto f j <+: upto f k := by
  obtain ⟨d, rfl⟩ : ∃ d, k = j + d := ⟨k - j, by omega⟩
  clear h
  induction d with
  | zero => exact List.prefix_refl _
  | succ d ih => rw [show j + (d + 1) = (j + d) + 1 from rfl, upto_succ]; exact ih.trans (List.prefix_append _ _)
/-- The rounds of a slice of ints. -/
def inner (zs : List Int) : Nat → Nat × Int := fun j => (j, rd zs (j : Int))
def encI (x : Nat × Int) : Array Value := #[.int .i64 (x.1 : Int), .int .i64 x.2]

set_option maxRecDepth 100000 in
set_option maxHeartbeats 2000000 in
theorem all1_in (m : Nat) (hm : 1 ≤ m) (l Bs : Nat) (A : Option Addr) (cap : Nat) (zs : List Int) (w : World) (hz : zs.length ≤ 65536) (hC : Kd.C (Kd.int .i64) w A zs.length zs) (J Jx : List (Nat × Int) → World → Prop) (W : World)
    (hY : ∀ pre x W1, J pre W1 → pre.length < zs.length → YieldAt Fence.wide (m - 1) Try.prog l #[.int .i64 (x.1 : Int), .int .i64 x.2] W1 fun e W' =>
      (e = .returned (.bool true) ∧ J (pre ++ [x]) W' ∧ Below w.heap.size W1 W') ∨ (e = .returned (.bool false) ∧ Jx (pre ++ [x]) W'))
    (hwW : Below w.heap.size w W) (hBs : W.cell? ⟨Bs, 0, none⟩ = some (.slice A zs.length cap)) (h0 : J [] W) :
    CallsIn Fence.wide m Try.prog 100 #[.func (.yield l) #[] #[], .pointer (some ⟨Bs, 0, none⟩)] W fun e W' => (∃ v, e = .returned v) ∧
      ((∃ ys, ys = upto (inner zs) zs.length ∧ J ys W') ∨ (∃ pre, pre <+: upto (inner zs) zs.length ∧ Jx pre W')) := by
  refine callsIn_of_wp Try.func100 rfl trivial ?_ rfl
  simp only [Try.ntmps100, List.size_toArray, List.length_cons, List.length_nil, Nat.reduceAdd, Nat.reduceSub, Array.replicate_succ, Array.replicate_zero, List.push_toArray, List.append_toArray, List.nil_append, List.cons_append]
  gi_wp2
  gi_loopw [7] (fun i wr => ∃ k : Nat, k ≤ zs.length ∧ i = .int .i64 k ∧ J (upto (inner zs) k) wr ∧ Below w.heap.size w wr)
    (fun i _ => zs.length - (intOf i).toNat)
  case atStart => exact ⟨0, Nat.zero_le _, rfl, h0, hwW⟩
  case round =>
    obtain ⟨k, hk, rfl, hJs, hnx⟩ := hrel
    by_cases hlt : k < zs.length
    · obtain ⟨ad, rfl, hcx⟩ := Kd.at_int hC (k : Int) (by omega) (by omega)
      have hcx' := (hnx.cell (World.block_lt_of_cell? w _ hcx)).trans hcx
      clear hcx
      rw [Int.toNat_natCast] at hcx'
      obtain ⟨fn, tmps, assign, body, hy, hR⟩ := hY _ (inner zs k) wr hJs (by rw [upto_length]; exact hlt)
      simp only [inner] at hy
      gi_wp2
      refine hR.mono ?_
      rintro e W3 (⟨rfl, hJ3, hk3⟩ | ⟨rfl, hJx3⟩)
      · gi_wp2
        go_roundw
        case rel => exact ⟨k + 1, by omega, rfl, by rw [upto_succ]; exact hJ3, hnx.trans hk3⟩
        case measure => simp [intOf]; omega
      · gi_wp2
        refine bodyPost_ret (results_none rfl _ _ _) rfl ?_
        exact ⟨⟨_, rfl⟩, .inr ⟨_, by rw [← upto_succ]; exact upto_pre _ (by omega), hJx3⟩⟩
    · obtain rfl : k = zs.length := by omega
      gi_wp2
      go_end0
      exact ⟨⟨_, rfl⟩, .inl ⟨_, rfl, hJs⟩⟩
set_option maxHeartbeats 1000000 in
theorem all_in (m : Nat) (a : Option Addr) (len cap : Nat) (w : World) :
    CallsIn Fence.wide m Try.prog 91 #[.slice a len cap] w fun e w' => e = .returned (.func (.func 100) #[] #[.pointer (some ⟨w.heap.size, 0, none⟩)]) ∧ w' = w.alloc (.cells #[.slice a len cap] 23) := by
  refine callsIn_of_wp Try.func91 rfl trivial ?_ rfl
  simp only [Try.ntmps91, List.size_toArray, List.length_cons, List.length_nil, Nat.reduceAdd, Nat.reduceSub, Array.replicate_succ, Array.replicate_zero, List.push_toArray, List.append_toArray, List.nil_append, List.cons_append]
  gi_wp2
  go_ret
  exact ⟨rfl, rfl⟩
/-- slices.All hands back a value that gives all of zs, in order, with the places. w: the world in which the slice came in. -/
theorem all_seq (m : Nat) (hm : 1 ≤ m) (Bs : Nat) (A : Option Addr) (cap : Nat) (zs : List Int) (w W : World) (hz : zs.length ≤ 65536) (hC : Kd.C (Kd.int .i64) w A zs.length zs) (hwW : Below w.heap.size w W) (hB : Bs < W.heap.size) (hBs : W.cell? ⟨Bs, 0, none⟩ = some (.slice A zs.length cap)) :
    SeqD m Try.prog 100 #[.pointer (some ⟨Bs, 0, none⟩)] encI w.heap.size (fun ys => ys = upto (inner zs) zs.length) (fun pre => pre <+: upto (inner zs) zs.length) zs.length W := fun l J Jx V hV _ _ hY h0 =>
  all1_in m hm l Bs A cap zs w hz hC J Jx V (fun pre x W1 hj hl => (hY pre x W1 hj hl).mono fun _ _ hr => hr.imp (fun ⟨a, b, c, _⟩ => ⟨a, b, c⟩) (fun ⟨a, b, _⟩ => ⟨a, b⟩)) (hwW.trans (hV.mono hwW.size)) ((hV.cell (p := ⟨Bs, 0, none⟩) hB).trans hBs) h0
end AllWalk
end Go.Proofs.Ytlncbckpcmojpaa
namespace Go.Proofs.Ytlncbckpcmojpaa
open Go.RowKit
namespace StopsWalk
open Go.RowKit Go.Shelf Go.Proofs.YtlncbckpcmojpaaW.PrintWords RangeD AllWalk P
attribute [local go_sem] Oper.semAt_some

abbrev Stop := (Nat × Nat) × Int
def encS (x : Stop) : Array Value := #[.agg #[.int .i64 (x.1.1 : Int), .int .i64 (x.1.2 : Int)], .int .i64 x.2]
/-- stop k of route i. -/
def tag (i : Nat) (x : Nat × Int) : Stop := ((i, x.1), x.2)
def ofRoute (rs : List (List Int)) (i : Nat) : List Stop := (upto (inner (rd_L1 rs (i : Int))) (rd_L1 rs (i : Int)).length).map (tag i)
def upTo (rs : List (List Int)) (i : Nat) : List Stop := (List.range i).flatMap (ofRoute rs)
/-- All stops of a plan, in their order. -/
def stopsOf (rs : List (List Int)) : List Stop := upTo rs rs.length
theorem upTo_succ (rs : List (List Int)) (i : Nat) : upTo rs (i + 1) = upTo rs i ++ ofRoute rs i := by simp [upTo, List.range_succ]
theorem upTo_pre (rs : List (List Int)) {i j : Nat} (h : i ≤ j) : upTo rs i <+: upTo rs j := by
  obtain ⟨d, rfl⟩ : ∃ d, j = i + d := ⟨j - i, by omega⟩
  clear h
  induction d with
  | zero => exact List.prefix_refl _
  | succ d ih => rw [show i + (d + 1) = (i + d) + 1 from rfl, upTo_succ]; exact ih.trans (List.prefix_append _ _)
theorem ofRoute_length (rs : List (List Int)) (i : Nat) : (ofRoute rs i).length = (rd_L1 rs (i : Int)).length := by simp [ofRoute, upto_length]
theorem upTo_lt (rs : List (List Int)) {i n : Nat} (hi : i < rs.length) (hn : n < (rd_L1 rs (i : Int)).length) : (upTo rs i).length + n < (stopsOf rs).length := by
  have h1 := (upTo_pre rs (show i + 1 ≤ rs.length by omega)).length_le
  rw [upTo_succ, List.length_append, ofRoute_length] at h1
  unfold stopsOf
  omega
theorem stop_pre (rs : List (List Int)) {i : Nat} (hi : i < rs.length) {pre : List (Nat × Int)} (h : pre <+: upto (inner (rd_L1 rs (i : Int))) (rd_L1 rs (i : Int)).length) : upTo rs i ++ pre.map (tag i) <+: stopsOf rs := by
  refine List.IsPrefix.trans ?_ (upTo_pre rs (show i + 1 ≤ rs.length by omega))
  rw [upTo_succ]
  refine (List.prefix_append_right_inj _).2 ?_
  unfold ofRoute
  exact h.map _

theorem meas_lt {i n : Nat} (h : i < n) : n - ((i + 1 : Nat) : Int).toNat < n - (i : Int).toNat := by omega
def Small (rs : List (List Int)) : Prop := rs.length ≤ 65536 ∧ ∀ i : Nat, i < rs.length → (rd_L1 rs (i : Int)).length ≤ 65536

set_option maxRecDepth 100000 in
set_option maxHeartbeats 4000000 in
theorem stops1_in (m : Nat) (hm : 3 ≤ m) (l Bp : Nat) (A : Option Addr) (cap : Nat) (rs : List (List Int)) (w : World) (hz : Small rs) (hC : Kd.C (Kd.slice 3 (Kd.int .i64)) w A rs.length rs) (J Jx : List Stop → World → Prop) (W : World)
    (hJ : OwnFrom W.heap.size J) (hJx : OwnFrom W.heap.size Jx)
    (hY : ∀ pre x W1, J pre W1 → pre.length < (stopsOf rs).length → YieldAt Fence.wide (m - 1) Try.prog l (encS x) W1 fun e W' =>
      (e = .returned (.bool true) ∧ J (pre ++ [x]) W' ∧ Below w.heap.size W1 W' ∧ Above W.heap.size W1 W') ∨ (e = .returned (.bool false) ∧ Jx (pre ++ [x]) W' ∧ Above W.heap.size W1 W'))
    (hwW : Below w.heap.size w W) (bP : Boxed W Bp 30 (.slice A rs.length cap)) (h0 : J [] W) :
    CallsIn Fence.wide m Try.prog 90 #[.func (.yield l) #[] #[], .pointer (some ⟨Bp, 0, none⟩)] W fun e W' => (∃ v, e = .returned v) ∧
      ((∃ ys, ys = stopsOf rs ∧ J ys W') ∨ (∃ pre, pre <+: stopsOf rs ∧ Jx pre W')) := by
  have hm1 : 1 ≤ m := by omega
  refine callsIn_of_wp_marks Try.func90 rfl trivial ?_ rfl
  simp only [Try.ntmps90, List.size_toArray, List.length_cons, List.length_nil, Nat.reduceAdd, Nat.reduceSub, Array.replicate_succ, Array.replicate_zero, List.push_toArray, List.append_toArray, List.nil_append, List.cons_append]
  have c1 := (bP.alloc (.cells #[.func (.yield l) #[] #[]] 114)).cell
  have bY := Boxed.new W 114 (.func (.yield l) #[] #[])
  have bP1 := bP.alloc (.cells #[.func (.yield l) #[] #[]] 114)
  have hb1 : Below w.heap.size w (W.alloc (.cells #[.func (.yield l) #[] #[]] 114)) := hwW.alloc hwW.size _
  have j1 := hJ.alloc (.cells #[.func (.yield l) #[] #[]] 114) h0
  have hs1 : W.heap.size < (W.alloc (.cells #[.func (.yield l) #[] #[]] 114)).heap.size := by simp
  gi_wp2
  clear c1
  generalize (W.alloc (.cells #[.func (.yield l) #[] #[]] 114)) = V at *
  refine wpIn_loop (fun a wr => ∃ (i : Nat) (Ds : List Nat) (u3 u4 u5 u6 u11 u12 u13 u14 u15 u16 u17 u18 u19 u20 u21 u22 u23 u24 u25 u26 : Value),
      a = { tmps := #[.func (.yield l) #[] #[], .pointer (some ⟨Bp, 0, none⟩), .pointer (some ⟨W.heap.size, 0, none⟩), u3, u4, u5, u6, .pointer (some ⟨Bp, 0, none⟩), .slice A rs.length cap, .int .i64 (rs.length : Int), .int .i64 (i : Int), u11, u12, u13, u14, u15, u16, u17, u18, u19, u20, u21, u22, u23, u24, u25, u26], defers := Ds.map RangeD.mark } ∧
      i ≤ rs.length ∧ J (upTo rs i) wr ∧ Boxed wr W.heap.size 114 (.func (.yield l) #[] #[]) ∧ Below w.heap.size w wr ∧ Marks W.heap.size Ds wr)
    (fun a _ => rs.length - (intOf (a.tmps.getD 10 undef)).toNat) ?_ ?_
  · exact ⟨0, [], _, _, _, _, _, _, _, _, _, _, _, _, _, _, _, _, _, _, _, _, rfl, Nat.zero_le _, j1, bY, hb1, ⟨List.nodup_nil, fun D h => (by cases h)⟩⟩
  · clear j1 bY hb1 hs1 bP1 bP h0 hwW
    rintro _ wr ⟨i, Ds, u3, u4, u5, u6, u11, u12, u13, u14, u15, u16, u17, u18, u19, u20, u21, u22, u23, u24, u25, u26, rfl, hi, hJi, bY, hB, hM⟩
    by_cases hlt : i < rs.length
    · obtain ⟨ad, A', c', rfl, hx, hl, hCi⟩ := at_L1 hC (i : Int) (by omega) (by omega)
      have hx' := (hB.cell (World.block_lt_of_cell? w _ hx)).trans hx
      clear hx
      rw [Int.toNat_natCast] at hx'
      have hzi := hz.2 i hlt
      have E := Lib.hid (@upTo_succ rs i)
      have F := Lib.hid (fun pre => @stop_pre rs i hlt pre)
      have G := Lib.hid (fun n => @upTo_lt rs i n hlt)
      gi_wp2_with (refine ⟨trivial, ?_⟩; gi_at_call 91; refine (all_in _ _ _ _ _).mono ?_; rintro e w' ⟨rfl, rfl⟩)
      have bI := (Boxed.new wr 3 (.int .i64 (i : Int))).alloc (.cells #[.slice A' (rd_L1 rs (i : Int)).length c'] 23)
      have bR := Boxed.new (wr.alloc (.cells #[.int .i64 (i : Int)] 3)) 23 (.slice A' (rd_L1 rs (i : Int)).length c')
      have bY2 := (bY.alloc (.cells #[.int .i64 (i : Int)] 3)).alloc (.cells #[.slice A' (rd_L1 rs (i : Int)).length c'] 23)
      have hB2 := (hB.alloc hB.size (.cells #[.int .i64 (i : Int)] 3)).alloc (Nat.le_trans hB.size (by simp)) (.cells #[.slice A' (rd_L1 rs (i : Int)).length c'] 23)
      have hM2 := (hM.alloc (.cells #[.int .i64 (i : Int)] 3)).alloc (.cells #[.slice A' (rd_L1 rs (i : Int)).length c'] 23)
      have hJ2 := hJ.alloc (.cells #[.slice A' (rd_L1 rs (i : Int)).length c'] 23) (hJ.alloc (.cells #[.int .i64 (i : Int)] 3) hJi)
      rw [World.size_alloc] at bR
      have hs2 : ((wr.alloc (.cells #[.int .i64 (i : Int)] 3)).alloc (.cells #[.slice A' (rd_L1 rs (i : Int)).length c'] 23)).heap.size = wr.heap.size + 2 := by simp
      have hlW := bY.lt
      generalize ((wr.alloc (.cells #[.int .i64 (i : Int)] 3)).alloc (.cells #[.slice A' (rd_L1 rs (i : Int)).length c'] 23)) = U at *
      have hA2 : w.heap.size ≤ U.heap.size := hB2.size
      have hWU : W.heap.size ≤ U.heap.size := by omega
      refine wpIn_rangeFunc_D (gf := 100) (lb := #[.pointer (some ⟨wr.heap.size + 1, 0, none⟩)]) (by rfl) (enters_of Try.func100 (by kernel_rfl) rfl)
        (all_seq (m - 1) (by omega) (wr.heap.size + 1) A' c' (rd_L1 rs (i : Int)) w U hzi hCi hB2 (by have := bR.lt; omega) bR.cell) (Below.refl _ _) hA2 (by intro _; rfl)
        (fun pre W' => J (upTo rs i ++ pre.map (tag i)) W' ∧ (Boxed W' W.heap.size 114 (.func (.yield l) #[] #[]) ∧ Boxed W' wr.heap.size 3 (.int .i64 (i : Int))) ∧ Below w.heap.size w W' ∧ Marks W.heap.size Ds W')
        (fun pre W' => Jx (upTo rs i ++ pre.map (tag i)) W' ∧ Marks W.heap.size Ds W')
        (OwnFrom.and (OwnFrom.mono (OwnFrom.at hJ (fun pre : List (Nat × Int) => upTo rs i ++ pre.map (tag i))) hWU) (OwnFrom.and (OwnFrom.and (Own.from (boxed_own _ _ _) _) (Own.from (boxed_own _ _ _) _)) (OwnFrom.and (ownFrom_below (Nat.le_refl _) hA2) (own_marks hM2 (Nat.le_refl _)))))
        (OwnFrom.and (OwnFrom.mono (OwnFrom.at hJx (fun pre : List (Nat × Int) => upTo rs i ++ pre.map (tag i))) hWU) (own_marks hM2 (Nat.le_refl _)))
        ⟨by simpa using hJ2, ⟨bY2, bI⟩, hB2, hM2⟩
        (fun pre x a' W' => a' = { tmps := #[.func (.yield l) #[] #[], .pointer (some ⟨Bp, 0, none⟩), .pointer (some ⟨W.heap.size, 0, none⟩), .pointer (some ⟨wr.heap.size, 0, none⟩), .slice A' (rd_L1 rs (i : Int)).length c', .int .i64 (x.1 : Int), .int .i64 x.2, .pointer (some ⟨Bp, 0, none⟩), .slice (some ad) rs.length cap, .int .i64 (rs.length : Int), .int .i64 (i : Int), .bool true, .int .i64 (i : Int), .pointer (some (ad.add i)), .slice A' (rd_L1 rs (i : Int)).length c', .slice A' (rd_L1 rs (i : Int)).length c', .func (.func 100) #[] #[.pointer (some ⟨wr.heap.size + 1, 0, none⟩)], .int .i64 (x.1 : Int), .int .i64 x.2, u19, u20, u21, u22, u23, u24, u25, u26], defers := [] } ∧
          (J (upTo rs i ++ pre.map (tag i)) W' ∧ (Boxed W' W.heap.size 114 (.func (.yield l) #[] #[]) ∧ Boxed W' wr.heap.size 3 (.int .i64 (i : Int))) ∧ Below w.heap.size w W' ∧ Marks W.heap.size Ds W'))
        (fun pre x a' => OwnFrom.and (ownFrom_pure _ _) (OwnFrom.and (OwnFrom.mono (OwnFrom.at hJ (fun _ => upTo rs i ++ pre.map (tag i))) hWU) (OwnFrom.and (OwnFrom.and (Own.from (boxed_own _ _ _) _) (Own.from (boxed_own _ _ _) _)) (OwnFrom.and (ownFrom_below (Nat.le_refl _) hA2) (own_marks hM2 (Nat.le_refl _))))))
        ?assign ?body ?done ?stop
      case assign =>
        rintro l2 pre x W' K hI hK
        have hK' := hK _ W' (Below.refl _ _) (Above.refl _ _) ⟨rfl, hI⟩
        clear hK hI
        simp only [encI]
        gi_wp2
        exact hK'
      case body =>
        rintro l2 pre x a' W' hl2 ⟨rfl, hJ3, ⟨bY3, bI3⟩, hB3, hM3⟩ hlen
        have hlen' := G.out pre.length hlen
        have cY := bY3.cell
        have cI := bI3.cell
        obtain ⟨fn, tmps, assign, body, hy, hR⟩ := yield_in (l₂ := l2) (m' := m - 1 - 1 - 1) (hY (upTo rs i ++ pre.map (tag i)) (tag i x) W' hJ3 (by simpa using hlen'))
        simp only [encS, tag] at hy
        gi_wp2
        refine ⟨fun h => (by simp [Fence.wide] at h), hR.mono ?_⟩
        rintro e W4 (⟨rfl, hJ4, hB4, hA4⟩ | ⟨rfl, hJ4, hA4⟩)
        · clear hy hR hY
          gi_wp2
          refine ⟨hA4.mono hWU, hB4, ?_, ⟨boxed_above bY3 hA4 (Nat.le_refl _), boxed_above bI3 hA4 (by omega)⟩, hB3.trans hB4, hM3.above hA4 (Nat.le_refl _)⟩
          rw [List.map_append, ← List.append_assoc]
          exact hJ4
        · clear hy hR hY
          gi_wp2
          refine ⟨hA4.mono hWU, ?_, hM3.above hA4 (Nat.le_refl _)⟩
          rw [List.map_append, ← List.append_assoc]
          exact hJ4
      case done =>
        rintro D ys W' hD rfl ⟨hJ3, ⟨bY3, bI3⟩, hB3, hM3⟩ hDd
        clear hY
        have e1 : wrap64 ((i : Int) + 1) = ((i + 1 : Nat) : Int) := by have := hz.1; unfold wrap64; omega
        gi_wp2
        rw [e1]
        refine ⟨⟨i + 1, D :: Ds, _, _, _, _, _, _, _, _, _, _, _, _, _, _, _, _, _, _, _, _, rfl, hlt, ?_, bY3, hB3, ?_⟩, ?_⟩
        · rw [E.out]; exact hJ3
        · exact hM2.cons hD (by omega) hDd hM3
        · exact meas_lt hlt
      case stop =>
        rintro D pre W' hD hp ⟨hJ3, hM3⟩ hDd
        clear hY
        have hp' := F.out pre hp
        clear F G E
        gi_wp2
        refine leaves_marks (G := fun W' => Jx (upTo rs i ++ pre.map (tag i)) W') (B := W.heap.size) (OwnFrom.at hJx (fun _ => upTo rs i ++ pre.map (tag i))) (fun W' h => ?_) (D :: Ds) W' (hM2.cons hD (by omega) hDd hM3) hJ3
        exact ⟨_, results_none rfl _ _ _, ⟨_, rfl⟩, .inr ⟨_, hp', h⟩⟩
    · obtain rfl : i = rs.length := by omega
      gi_wp2
      refine leaves_marks (G := fun W' => J (stopsOf rs) W') (B := W.heap.size) (OwnFrom.at hJ (fun _ => stopsOf rs)) (fun W' h => ?_) Ds wr hM hJi
      exact ⟨_, results_none rfl _ _ _, ⟨_, rfl⟩, .inl ⟨_, rfl, h⟩⟩
set_option maxHeartbeats 1000000 in
theorem stops_in (m : Nat) (a : Option Addr) (len cap : Nat) (w : World) :
    CallsIn Fence.wide m Try.prog 71 #[.agg #[.slice a len cap]] w fun e w' => e = .returned (.func (.func 90) #[] #[.pointer (some ⟨w.heap.size, 0, none⟩)]) ∧ w' = w.alloc (.cells #[.slice a len cap] 30) := by
  refine callsIn_of_wp Try.func71 rfl trivial ?_ rfl
  simp only [Try.ntmps71, List.size_toArray, List.length_cons, List.length_nil, Nat.reduceAdd, Nat.reduceSub, Array.replicate_succ, Array.replicate_zero, List.push_toArray, List.append_toArray, List.nil_append, List.cons_append]
  gi_wp2
  go_ret
  exact ⟨rfl, rfl⟩
/-- The stops of a plan hand back a value that gives them all, in their order. w: the world in which the plan came in. -/
theorem stops_seq (m : Nat) (hm : 3 ≤ m) (Bp : Nat) (A : Option Addr) (cap : Nat) (rs : List (List Int)) (w W : World) (hz : Small rs) (hC : Kd.C (Kd.slice 3 (Kd.int .i64)) w A rs.length rs) (hwW : Below w.heap.size w W) (bP : Boxed W Bp 30 (.slice A rs.length cap)) :
    SeqD m Try.prog 90 #[.pointer (some ⟨Bp, 0, none⟩)] encS w.heap.size (fun ys => ys = stopsOf rs) (fun pre => pre <+: stopsOf rs) (stopsOf rs).length W := fun l J Jx V hV hJ hJx hY h0 =>
  stops1_in m hm l Bp A cap rs w hz hC J Jx V hJ hJx hY (hwW.trans (hV.mono hwW.size)) ((hV.block Bp bP.lt).trans bP) h0
/-- No plan that can be laid is longer. -/
def smallB (rs : List (List Int)) : Bool := decide (rs.length ≤ 65536) && rs.all (fun r => decide (r.length ≤ 65536))
theorem small_of {rs : List (List Int)} (h : smallB rs = true) : Small rs := by
  simp only [smallB, Bool.and_eq_true, decide_eq_true_eq, List.all_eq_true] at h
  refine ⟨h.1, fun i hi => ?_⟩
  rw [show rd_L1 rs (i : Int) = rs[i] by unfold rd_L1; simp [hi]]
  exact h.2 _ (List.getElem_mem hi)
end StopsWalk
end Go.Proofs.Ytlncbckpcmojpaa
namespace Go.Proofs.Ytlncbckpcmojpaa
open Go.RowKit
namespace StopsWalk
open Go.RowKit Go.Shelf Go.Proofs.YtlncbckpcmojpaaW.PrintWords RangeD AllWalk P
attribute [local go_sem] Oper.semAt_some
theorem upTo_small {rs : List (List Int)} (hz : Small rs) : ∀ i, i ≤ rs.length → (upTo rs i).length ≤ 65536 * i
  | 0, _ => by simp [upTo]
  | i + 1, h => by
    have h1 := upTo_small hz i (by omega)
    have h2 := hz.2 i (by omega)
    rw [upTo_succ, List.length_append, ofRoute_length]
    omega
theorem stops_small {rs : List (List Int)} (hz : Small rs) : (stopsOf rs).length ≤ 4294967296 := by
  have h1 := upTo_small hz rs.length (Nat.le_refl _)
  have h2 := Nat.mul_le_mul_left 65536 hz.1
  unfold stopsOf
  omega
end StopsWalk
end Go.Proofs.Ytlncbckpcmojpaa
namespace Go.Proofs.Ytlncbckpcmojpaa
open Go.RowKit
namespace StopsWalk
open Go.RowKit Go.Shelf Go.Proofs.YtlncbckpcmojpaaW.PrintWords RangeD AllWalk P
attribute [local go_sem] Oper.semAt_some

/-- A block that holds these numbers. -/
def Rowed (W : World) (g : Nat) (cs : List Int) : Prop := W.heap[g]? = some (.cells (cs.map (Value.int .i64)).toArray 3 (0, 0))
theorem Rowed.lt {W : World} {g : Nat} {cs : List Int} (h : Rowed W g cs) : g < W.heap.size := (Array.getElem?_eq_some_iff.1 h).1
theorem Rowed.cell {W : World} {g : Nat} {cs : List Int} (h : Rowed W g cs) {j : Nat} (hj : j < cs.length) : W.cell? ⟨g, j, none⟩ = some (.int .i64 (cs.getD j 0)) := by
  simp [World.cell?, show W.heap[g]? = _ from h, hj]
theorem Rowed.frozen {W : World} {g : Nat} {cs : List Int} (h : Rowed W g cs) (j : Nat) : W.frozen? ⟨g, j, none⟩ = false := by simp [World.frozen?, show W.heap[g]? = _ from h]
theorem Rowed.set {W : World} {g : Nat} {cs : List Int} (h : Rowed W g cs) (j : Nat) (x : Int) : Rowed (W.setCell ⟨g, j, none⟩ (.int .i64 x)) g (cs.set j x) := by
  obtain ⟨hlt, hk⟩ := Array.getElem?_eq_some_iff.1 h
  show (W.heap.modify g _)[g]? = _
  rw [Array.getElem?_eq_getElem (by rw [Array.size_modify]; exact hlt), Array.getElem_modify_self, hk]
  simp
theorem Rowed.kept {W W' : World} {row : Option Nat} {g : Nat} {cs : List Int} (h : Rowed W g cs) (hg : W.grownBy W' row) (hne : some g ≠ row) : Rowed W' g cs := (hg.block g h.lt hne).trans h
theorem rowed_own {β : Type} (g : Nat) (f : β → List Int) : Own (fun s W => Rowed W g (f s)) := fun s X Y row hs hg hrow =>
  Rowed.kept hs hg (fun e' => by obtain ⟨o, ho, hc⟩ := hrow g e'.symm; rw [show X.heap[g]? = _ from hs] at ho; cases ho; cases hc)
theorem Rowed.owned {W : World} {g base : Nat} {cs : List Int} (h : Rowed W g cs) (hb : base ≤ g) (hl : cs.length ≤ 65536) : Kd.R (Kd.int .i64) 3 W base (fun _ => True) (.slice (some ⟨g, 0, none⟩) cs.length cs.length) cs :=
  Kd.R_of_own ⟨by simp [encs], .inr ⟨g, cs.length, _, rfl, hb, h, Nat.le_refl _, by unfold maxLen; omega, by simp, by rw [List.toList_toArray, Nat.mul_one, List.take_of_length_le (by simp)]; rfl⟩⟩ (fun _ _ => trivial)
theorem made_row (n : Nat) : madeCells (Value.int .i64 0).cells (n * 1) = ((List.replicate n (0 : Int)).map (Value.int .i64)).toArray := by
  apply Array.ext
  · simp [size_madeCells]
  · intro i h1 h2
    simp [madeCells, Value.cells, Nat.mod_one]
theorem wpListIn_make (W : World) {F : Fence} {n : Nat} {P : Program} {ops : Array Oper} {rest : List Oper} {o : Oper} {a : Act} {Q : Exit → Act → World → Prop} (hg : o.guard = none) (l c : Operand) (t e : TypeId) (hop : o.op = Op.makeSlice t l c) (i : TypeInfo) (bytes : Nat)
    (h1 : P.underlying t = some (.slice e)) (h2 : P.info? e = some i) (h3 : i.zero = some (.int .i64 0)) (h4 : i.size = 1) (h5 : i.bytes = bytes) (m : Nat) (hl : a.eval l = .int .i64 (m : Int)) (hc : a.eval c = .int .i64 (m : Int)) (b2 : bytes * m ≤ 281474976710656) (b3 : m ≤ 65536)
    (hK : wpListIn F n P ops Q rest (a.put o.dst (.slice (some ⟨W.heap.size, 0, none⟩) m m)) (W.alloc (.cells ((List.replicate m (0 : Int)).map (Value.int .i64)).toArray e))) : wpListIn F n P ops Q (o :: rest) a W := by
  refine wpListIn_plain hg fun K hK' => ?_
  have h6 : (i.bytes : Int) * (m : Int) ≤ 281474976710656 := by
    rw [h5]
    have h7 : ((bytes * m : Nat) : Int) ≤ 281474976710656 := by omega
    rwa [Int.natCast_mul] at h7
  have hr := run_make (P := P) W t e i (.int .i64 0) h1 h2 h3 .i64 .i64 (m : Int) (m : Int) (by omega) (by omega) h6 (by omega)
  simp only [Int.toNat_natCast, h4] at hr
  rw [made_row] at hr
  unfold Oper.wpIn
  refine ⟨?_, ?_⟩
  · simp [Oper.about, hop]
  · rw [Oper.semAt_plain F _ _ (by rw [hop]; intro c hc'; cases hc')]
    simp [execOp, hop, hl, hc, hr, Result.andThen]
    have := hK' _ _ hK
    simp only [List.map_replicate, List.toArray_replicate] at this
    exact this

/-- The counts when these stops have come. -/
def counts (n : Nat) (l : List Stop) : List Int := (List.range n).map fun (c : Nat) => ((l.countP (fun x => x.2 == (c : Int)) : Nat) : Int)
theorem counts_length (n : Nat) (l : List Stop) : (counts n l).length = n := by simp [counts]
theorem counts_nil (n : Nat) : counts n [] = List.replicate n 0 := by
  apply List.ext_getElem
  · simp [counts]
  · intro i h1 h2
    simp [counts]
theorem counts_getD (n : Nat) (l : List Stop) {j : Nat} (hj : j < n) : (counts n l).getD j 0 = ((l.countP (fun x => x.2 == (j : Int)) : Nat) : Int) := by simp [counts, hj]
theorem counts_in (n : Nat) (l : List Stop) (x : Stop) {j : Nat} (hj : j < n) (hx : x.2 = (j : Int)) : counts n (l ++ [x]) = (counts n l).set j ((counts n l).getD j 0 + 1) := by
  apply List.ext_getElem
  · simp [counts]
  · intro i h1 h2
    rw [List.getElem_set]
    split
    · rename_i e; subst e
      rw [counts_getD _ _ hj]
      simp [counts, List.countP_append, hx]
    · rename_i e
      have : ¬ (x.2 = (i : Int)) := by omega
      simp [counts, List.countP_append, this]
theorem counts_out (n : Nat) (l : List Stop) (x : Stop) (hx : ¬ (0 ≤ x.2 ∧ x.2 < (n : Int))) : counts n (l ++ [x]) = counts n l := by
  apply List.ext_getElem
  · simp [counts]
  · intro i h1 h2
    have hi : i < n := by simpa [counts] using h1
    have : ¬ (x.2 = (i : Int)) := by omega
    simp [counts, List.countP_append, this]

set_option maxRecDepth 100000 in
set_option maxHeartbeats 4000000 in
theorem count_low (A : Option Addr) (cap : Nat) (rs : List (List Int)) (n : Int) (w : World) (hn : n < 1 ∨ 400 < n) :
    CallsIn Fence.wide 9 Try.prog 51 #[.agg #[.slice A rs.length cap], .int .i64 n] w fun e W' => e = .returned (.slice none 0 0) ∧ Below w.heap.size w W' := by
  refine callsIn_of_wp_marks Try.func51 rfl trivial ?_ rfl
  simp only [Try.ntmps51, List.size_toArray, List.length_cons, List.length_nil, Nat.reduceAdd, Nat.reduceSub, Array.replicate_succ, Array.replicate_zero, List.push_toArray, List.append_toArray, List.nil_append, List.cons_append]
  have hB : Below w.heap.size w ((w.alloc (.cells #[.slice A rs.length cap] 30)).alloc (.cells #[.int .i64 n] 3)) := ((Below.refl _ w).alloc (Nat.le_refl _) _).alloc (by simp) _
  by_cases h1 : n < 1
  · have d1 : decide (n < 1) = true := decide_eq_true h1
    gi_wp2
    exact ⟨_, results_tmp rfl _ _ _, rfl, hB⟩
  · have d1 : decide (n < 1) = false := decide_eq_false h1
    have d2 : decide (400 < n) = true := decide_eq_true (hn.resolve_left h1)
    gi_wp2
    exact ⟨_, results_tmp rfl _ _ _, rfl, hB⟩
set_option maxRecDepth 100000 in
set_option maxHeartbeats 4000000 in
theorem count_in (A : Option Addr) (cap : Nat) (rs : List (List Int)) (n : Nat) (w : World) (hz : Small rs) (hC : Kd.C (Kd.slice 3 (Kd.int .i64)) w A rs.length rs) (h1 : 1 ≤ n) (h4 : n ≤ 400) :
    CallsIn Fence.wide 9 Try.prog 51 #[.agg #[.slice A rs.length cap], .int .i64 (n : Int)] w fun e W' => ∃ g, e = .returned (.slice (some ⟨g, 0, none⟩) n n) ∧ w.heap.size ≤ g ∧ Rowed W' g (counts n (stopsOf rs)) ∧ Below w.heap.size w W' := by
  refine callsIn_of_wp_marks Try.func51 rfl trivial ?_ rfl
  simp only [Try.ntmps51, List.size_toArray, List.length_cons, List.length_nil, Nat.reduceAdd, Nat.reduceSub, Array.replicate_succ, Array.replicate_zero, List.push_toArray, List.append_toArray, List.nil_append, List.cons_append]
  have d1 : decide ((n : Int) < 1) = false := decide_eq_false (by omega)
  have d2 : decide (400 < (n : Int)) = false := decide_eq_false (by omega)
  obtain ⟨i0, hi0, hz0, hz1, hz2⟩ := info_parts P.info3
  gi_wp2_with (first | (gi_at_make; refine wpListIn_make _ rfl _ _ _ 3 rfl i0 8 Try.underlying23 hi0 hz0 hz1 hz2 n rfl rfl (by omega) (by omega) ?_) | (refine ⟨trivial, ?_⟩; gi_at_call 71; refine (stops_in _ _ _ _ _).mono ?_; rintro e w' ⟨rfl, rfl⟩))
  obtain ⟨V, hVe⟩ : ∃ V, V = (((((w.alloc (.cells #[.slice A rs.length cap] 30)).alloc (.cells #[.int .i64 (n : Int)] 3)).alloc (.cells ((List.replicate n (0 : Int)).map (Value.int .i64)).toArray 3)).alloc (.cells #[.slice (some ⟨w.heap.size + 1 + 1, 0, none⟩) n n] 23)).alloc (.cells #[.slice A rs.length cap] 30)) := ⟨_, rfl⟩
  have bN : Boxed V (w.heap.size + 1) 3 (.int .i64 (n : Int)) := by
    have := (((Boxed.new (w.alloc (.cells #[.slice A rs.length cap] 30)) 3 (.int .i64 (n : Int))).alloc (.cells ((List.replicate n (0 : Int)).map (Value.int .i64)).toArray 3)).alloc (.cells #[.slice (some ⟨w.heap.size + 1 + 1, 0, none⟩) n n] 23)).alloc (.cells #[.slice A rs.length cap] 30)
    rw [World.size_alloc] at this
    rw [hVe]; exact this
  have bO : Boxed V (w.heap.size + 1 + 1 + 1) 23 (.slice (some ⟨w.heap.size + 1 + 1, 0, none⟩) n n) := by
    have := (Boxed.new (((w.alloc (.cells #[.slice A rs.length cap] 30)).alloc (.cells #[.int .i64 (n : Int)] 3)).alloc (.cells ((List.replicate n (0 : Int)).map (Value.int .i64)).toArray 3)) 23 (.slice (some ⟨w.heap.size + 1 + 1, 0, none⟩) n n)).alloc (.cells #[.slice A rs.length cap] 30)
    simp only [World.size_alloc] at this
    rw [hVe]; exact this
  have bQ : Boxed V (w.heap.size + 1 + 1 + 1 + 1) 30 (.slice A rs.length cap) := by
    have := Boxed.new ((((w.alloc (.cells #[.slice A rs.length cap] 30)).alloc (.cells #[.int .i64 (n : Int)] 3)).alloc (.cells ((List.replicate n (0 : Int)).map (Value.int .i64)).toArray 3)).alloc (.cells #[.slice (some ⟨w.heap.size + 1 + 1, 0, none⟩) n n] 23)) 30 (.slice A rs.length cap)
    simp only [World.size_alloc] at this
    rw [hVe]; exact this
  have bR : Rowed V (w.heap.size + 1 + 1) (counts n []) := by
    have h0 : Rowed (((w.alloc (.cells #[.slice A rs.length cap] 30)).alloc (.cells #[.int .i64 (n : Int)] 3)).alloc (.cells ((List.replicate n (0 : Int)).map (Value.int .i64)).toArray 3)) (w.heap.size + 1 + 1) (List.replicate n 0) := by
      have := World.alloc_heap_new ((w.alloc (.cells #[.slice A rs.length cap] 30)).alloc (.cells #[.int .i64 (n : Int)] 3)) (.cells ((List.replicate n (0 : Int)).map (Value.int .i64)).toArray 3)
      simp only [World.size_alloc] at this
      exact this
    rw [counts_nil, hVe]
    exact (h0.kept (World.grownBy_alloc _ (.cells #[.slice (some ⟨w.heap.size + 1 + 1, 0, none⟩) n n] 23) none) (by simp)).kept (World.grownBy_alloc _ (.cells #[.slice A rs.length cap] 30) none) (by simp)
  have hB0 : Below w.heap.size w V := by
    rw [hVe]
    repeat (first | exact Below.refl _ _ | refine Below.alloc ?_ (by first | exact Nat.le_refl _ | (simp only [World.size_alloc]; omega)) _)
  have hV := hB0.size
  have hV1 : w.heap.size + 1 + 1 + 1 < V.heap.size := bO.lt
  try simp only [List.map_replicate, List.toArray_replicate] at hVe
  try simp only [List.map_replicate, List.toArray_replicate]
  rw [← hVe]
  clear hVe
  refine wpIn_rangeFunc_D (gf := 90) (lb := #[.pointer (some ⟨w.heap.size + 1 + 1 + 1 + 1, 0, none⟩)]) rfl (enters_of Try.func90 (by kernel_rfl) rfl)
    (stops_seq 8 (by omega) _ A cap rs w V hz hC hB0 bQ) (Below.refl _ _) hV (fun _ => rfl)
    (fun pre W' => Boxed W' (w.heap.size + 1) 3 (.int .i64 (n : Int)) ∧ Boxed W' (w.heap.size + 1 + 1 + 1) 23 (.slice (some ⟨w.heap.size + 1 + 1, 0, none⟩) n n) ∧ Rowed W' (w.heap.size + 1 + 1) (counts n pre) ∧ Below w.heap.size w W')
    (fun _ _ => False)
    (OwnFrom.and (Own.from (boxed_own _ _ _) _) (OwnFrom.and (Own.from (boxed_own _ _ _) _) (OwnFrom.and (Own.from (rowed_own _ _) _) (ownFrom_below (Nat.le_refl _) hV))))
    (fun _ _ _ _ hs _ _ => hs)
    ⟨bN, bO, bR, hB0⟩
    (fun pre x a' W' => a' = { tmps := #[.agg #[.slice A rs.length cap], .int .i64 (n : Int), .pointer (some ⟨w.heap.size, 0, none⟩), .pointer (some ⟨w.heap.size + 1, 0, none⟩), .slice none 0 0, .pointer (some ⟨w.heap.size + 1 + 1 + 1, 0, none⟩), undef, .int .i64 x.2, .int .i64 (n : Int), .bool false, .bool false, .int .i64 (n : Int), .bool false, .bool false, .int .i64 (n : Int), .slice (some ⟨w.heap.size + 1 + 1, 0, none⟩) n n, .agg #[.slice A rs.length cap], .func (.func 90) #[] #[.pointer (some ⟨w.heap.size + 1 + 1 + 1 + 1, 0, none⟩)], .agg #[.int .i64 (x.1.1 : Int), .int .i64 (x.1.2 : Int)], .int .i64 x.2, undef, undef, undef, undef, undef, undef, undef, undef, undef, undef, undef, undef, undef, undef], defers := [] } ∧
      Boxed W' (w.heap.size + 1) 3 (.int .i64 (n : Int)) ∧ Boxed W' (w.heap.size + 1 + 1 + 1) 23 (.slice (some ⟨w.heap.size + 1 + 1, 0, none⟩) n n) ∧ Rowed W' (w.heap.size + 1 + 1) (counts n pre) ∧ Below w.heap.size w W')
    (fun pre x a' => OwnFrom.and (ownFrom_pure _ _) (OwnFrom.and (Own.from (boxed_own _ _ _) _) (OwnFrom.and (Own.from (boxed_own _ _ _) _) (OwnFrom.and (Own.from (rowed_own _ _) _) (ownFrom_below (Nat.le_refl _) hV)))))
    ?assign ?body ?done ?stop
  case assign =>
    rintro l pre x W' K hI hK
    have hK' := hK _ W' (Below.refl _ _) (Above.refl _ _) ⟨rfl, hI⟩
    clear hK hI
    simp only [encS]
    gi_wp2
    exact hK'
  case body =>
    rintro l pre x a' W' hl ⟨rfl, bN1, bO1, bR1, hB1⟩ hlen
    have cN := bN1.cell
    have cO := bO1.cell
    by_cases c0 : 0 ≤ x.2
    · have d0 : decide (0 ≤ x.2) = true := decide_eq_true c0
      by_cases c1 : x.2 < (n : Int)
      · have d3 : decide (x.2 < (n : Int)) = true := decide_eq_true c1
        obtain ⟨j, hj⟩ : ∃ j : Nat, x.2 = (j : Int) := ⟨x.2.toNat, by omega⟩
        rw [hj] at c0 c1 d0 d3 ⊢
        have hjn : j < n := by omega
        have cR := bR1.cell (j := j) (by rw [counts_length]; exact hjn)
        have fR := bR1.frozen j
        have hbound : (counts n pre).getD j 0 ≤ 4294967296 ∧ 0 ≤ (counts n pre).getD j 0 := by
          rw [counts_getD _ _ hjn]
          have h2 := stops_small hz
          have h3 := List.countP_le_length (p := fun x : Stop => x.2 == (j : Int)) (l := pre)
          omega
        have e1 : wrap64 ((counts n pre).getD j 0 + 1) = (counts n pre).getD j 0 + 1 := by unfold wrap64; omega
        have E := Lib.hid (counts_in n pre x hjn hj)
        have fin := Lib.hid (show Above V.heap.size W' (W'.setCell ⟨w.heap.size + 1 + 1, j, none⟩ (.int .i64 ((counts n pre).getD j 0 + 1))) ∧ Below w.heap.size W' (W'.setCell ⟨w.heap.size + 1 + 1, j, none⟩ (.int .i64 ((counts n pre).getD j 0 + 1))) ∧
            Boxed (W'.setCell ⟨w.heap.size + 1 + 1, j, none⟩ (.int .i64 ((counts n pre).getD j 0 + 1))) (w.heap.size + 1) 3 (.int .i64 (n : Int)) ∧ Boxed (W'.setCell ⟨w.heap.size + 1 + 1, j, none⟩ (.int .i64 ((counts n pre).getD j 0 + 1))) (w.heap.size + 1 + 1 + 1) 23 (.slice (some ⟨w.heap.size + 1 + 1, 0, none⟩) n n) ∧
            Rowed (W'.setCell ⟨w.heap.size + 1 + 1, j, none⟩ (.int .i64 ((counts n pre).getD j 0 + 1))) (w.heap.size + 1 + 1) (counts n (pre ++ [x])) ∧ Below w.heap.size w (W'.setCell ⟨w.heap.size + 1 + 1, j, none⟩ (.int .i64 ((counts n pre).getD j 0 + 1))) from
          ⟨(Above.refl _ W').setCell (p := ⟨_, j, none⟩) (show w.heap.size + 1 + 1 < V.heap.size by omega) _, (Below.refl _ W').setCell (p := ⟨_, j, none⟩) (show w.heap.size ≤ w.heap.size + 1 + 1 by omega) _,
            (Below.heap_setCell _ _ _ _ (show w.heap.size + 1 ≠ w.heap.size + 1 + 1 by omega)).trans bN1, (Below.heap_setCell _ _ _ _ (show w.heap.size + 1 + 1 + 1 ≠ w.heap.size + 1 + 1 by omega)).trans bO1,
            by rw [E.out]; exact bR1.set j _, hB1.setCell (p := ⟨_, j, none⟩) (show w.heap.size ≤ w.heap.size + 1 + 1 by omega) _⟩)
        generalize (counts n pre).getD j 0 = v at *
        gi_wp2
        exact fin.out
      · have d3 : decide (x.2 < (n : Int)) = false := decide_eq_false c1
        have E := Lib.hid (counts_out n pre x (fun h => c1 h.2))
        gi_wp2
        exact ⟨Above.refl _ _, Below.refl _ _, bN1, bO1, by rw [E.out]; exact bR1, hB1⟩
    · have d0 : decide (0 ≤ x.2) = false := decide_eq_false c0
      have E := Lib.hid (counts_out n pre x (fun h => c0 h.1))
      gi_wp2
      exact ⟨Above.refl _ _, Below.refl _ _, bN1, bO1, by rw [E.out]; exact bR1, hB1⟩
  case done =>
    rintro D ys W' hD rfl ⟨bN1, bO1, bR1, hB1⟩ hDd
    have cO := bO1.cell
    have hBe := hB1.trans (belowK_b (w := w) (Nat.le_refl _) W' D _ (.deferred none) (by omega) hDd rfl rfl)
    have bRe := bR1.kept (grownBy_putObj' W' D (.deferred none)) (fun e => by have := Option.some.inj e; omega)
    gi_wp2
    refine ⟨by simp, .inl ⟨_, _, rfl, run_takeDeferred hDd, _, results_tmp rfl _ _ _, _, rfl, by omega, bRe, hBe⟩⟩
  case stop =>
    rintro D pre W' hD hpre h hDd
    exact h.elim
end StopsWalk
open StopsWalk Go.Proofs.YtlncbckpcmojpaaW.PrintWords
/-- What plan.Count computes. -/
def plan_Count.f (l0_0 : List (List Int)) (a1 : Int) : Option (List Int) := if smallB l0_0 = true then some (if a1 < 1 ∨ 400 < a1 then [] else counts a1.toNat (stopsOf l0_0)) else none
theorem plan_Count.calls (A0_0 : Option Addr) (c0_0 : Nat) (l0_0 : List (List Int)) (a1 : Int) (r : List Int) (w : World) (hr0_0 : Kd.C (Kd.slice 3 (Kd.int .i64)) w A0_0 l0_0.length l0_0) (_ : l0_0.length ≤ c0_0) (h : plan_Count.f l0_0 a1 = some r) :
    Calls Try.prog 51 #[.agg #[.slice A0_0 l0_0.length c0_0], .int .i64 a1] w fun e w' => ∃ v0_ : Value, e = .returned (v0_) ∧ Kd.R (Kd.int .i64) 3 w' w.heap.size (fun _ => True) v0_ r ∧ Below w.heap.size w w' := by
  unfold plan_Count.f at h
  split at h
  · rename_i hs
    have h := Option.some.inj h
    subst h
    by_cases hn : a1 < 1 ∨ 400 < a1
    · rw [if_pos hn]
      refine (callsIn_wide.1 (count_low A0_0 c0_0 l0_0 a1 w hn)).mono ?_
      rintro e w' ⟨rfl, hb⟩
      exact ⟨_, rfl, Kd.R_nil _ _ _ _ _, hb⟩
    · rw [if_neg hn]
      obtain ⟨n, rfl⟩ : ∃ n : Nat, a1 = (n : Int) := ⟨a1.toNat, by omega⟩
      refine (callsIn_wide.1 (count_in A0_0 c0_0 l0_0 n w (small_of hs) hr0_0 (by omega) (by omega))).mono ?_
      rintro e w' ⟨g, rfl, hg, hR, hb⟩
      have := hR.owned hg (by rw [counts_length]; omega)
      rw [counts_length] at this
      exact ⟨_, rfl, by rw [Int.toNat_natCast]; exact this, hb⟩
  · cases h
attribute [irreducible] plan_Count.f
end Go.Proofs.Ytlncbckpcmojpaa
namespace Go.Proofs.Ytlncbckpcmojpaa.P
open Go.RowKit Go.Proofs.YtlncbckpcmojpaaW.PrintWords Go.Proofs.YtlncbckpcmojpaaW.PrintLast Go.Proofs.YtlncbckpcmojpaaW.PrintMore
attribute [local go_sem] max2_int min2_int max_two min_two max_three min_three max_four min_four   -- for this text's walks alone
set_option linter.unusedVariables false
set_option linter.unusedSimpArgs false

/-! ### plan_Norm: function 27 -/
def plan_Norm.l0 : Nat → List (List Int) → Int → Int → List (List Int) → Option ((List (List Int)))
 | 0, _, _, _, _ => none
 | k + 1, x7, x8, x9, x111000 => if x9 < x8 then (if 0 ≤ x9 then (if x9 < (x7.length : Int) then (if ((rd_L1 x7 x9).length : Int) > 0 then ((slices_Clone_int_int.f (rd_L1 x7 x9)).bind fun t112 => (if x111000.length < 5864062014805 then (plan_Norm.l0 k x7 x8 (wrap64 (x9 + 1)) (x111000 ++ [t112])) else (none))) else (plan_Norm.l0 k x7 x8 (wrap64 (x9 + 1)) x111000)) else (none)) else (none)) else (some x111000)
def plan_Norm.f (k : Nat) (l0_0 : List (List Int)) : Option ((List (List Int))) := plan_Norm.l0 k l0_0 (l0_0.length : Int) 0 ([] : List (List Int))
theorem plan_Norm.mono_l : ∀ k, (∀ y0 y1 y2 y3, LeO (plan_Norm.l0 k y0 y1 y2 y3) (plan_Norm.l0 (k + 1) y0 y1 y2 y3))
 | 0 => fun _ _ _ _ r h => by simp [plan_Norm.l0] at h
 | k + 1 => by
  have ih0 := plan_Norm.mono_l k
  ·intro y0 y1 y2 y3
   unfold plan_Norm.l0
   repeat' first
   | (with_reducible exact ih0 _ _ _ _)
   | (with_reducible exact LeO.refl _)
   | (with_reducible exact LeO.none _)
   | (with_reducible refine LeO.ite ?_ ?_)
   | (with_reducible refine LeO.bind ?_ (fun _ => ?_))
   | exact ih0 _ _ _ _
   | exact LeO.none _
   | refine LeO.ite ?_ ?_
   | refine LeO.bind ?_ (fun _ => ?_)
theorem plan_Norm.mono : ∀ a0 k, LeO (plan_Norm.f k a0) (plan_Norm.f (k + 1) a0) := by
 intro a0 k
 have ih0 := plan_Norm.mono_l k
 unfold plan_Norm.f
 repeat' first
   | (with_reducible exact ih0 _ _ _ _)
   | (with_reducible exact LeO.refl _)
   | (with_reducible exact LeO.none _)
   | (with_reducible refine LeO.ite ?_ ?_)
   | (with_reducible refine LeO.bind ?_ (fun _ => ?_))
   | exact ih0 _ _ _ _
   | exact LeO.none _
   | refine LeO.ite ?_ ?_
   | refine LeO.bind ?_ (fun _ => ?_)
def plan_Norm.T6 : Bool × List (List Nat × List Nat) := (true, [([], []), ([0], [0]), ([], []), ([2], [2]), ([3], [3]), ([1, 4, 3], [1, 4]), ([0, 1, 2, 3, 4, 5], []), ([6, 5, 5, 0, 1, 2, 3, 4, 5], [5, 6])])
def plan_Norm.B6 : List Nat := [0, 1, 0, 4, 12, 31, 63, 127]
theorem plan_Norm.tab6 : rtab .any (opsOf Try.f27 6) = plan_Norm.T6 := by kernel_rfl
theorem plan_Norm.bits6 : waitsOk plan_Norm.T6.2 plan_Norm.B6 = true := by kernel_rfl
set_option maxHeartbeats 8000000 in
set_option maxRecDepth 100000 in
theorem plan_Norm.calls (k : Nat) (A0_0 : Option Addr) (c0_0 : Nat) (l0_0 : List (List Int)) (r : List (List Int)) (w : World) (hr0_0 : Kd.C (Kd.slice 3 (Kd.int .i64)) w A0_0 l0_0.length l0_0) (hc0_0 : l0_0.length ≤ c0_0) (h : plan_Norm.f k l0_0 = some r) :
  Calls Try.prog 27 #[.agg #[.slice A0_0 l0_0.length c0_0]] w fun e w' => ∃ v0_ : Value, e = .returned (.agg #[v0_]) ∧ Kd.S (Kd.slice 3 (Kd.int .i64)) 23 w' w.heap.size (fun _ => True) v0_ r ∧ Below w.heap.size w w' := by
 have hu30 := Try.underlying30
 have HR0_0 := Aside0.mk hr0_0
 have HC0_0 := Aside0.mk hc0_0
 clear hr0_0 hc0_0
 have HB := Aside0.mk (Below.refl w.heap.size w)
 have H : (plan_Norm.l0 k l0_0 (l0_0.length : Int) 0 ([] : List (List Int))) = some r := h
 clear h
 have H' := Aside0.mk H
 clear H
 go_enter Try.func27, Try.ntmps27
 go_wp2_with (first | ((with_reducible refine gate_dst (N := 1) rfl ?_); refine box_event ?hg (N := 1) ?hd (cs := #[.slice A0_0 l0_0.length c0_0]) (t := 30) ?hr ?_; (case hd => rfl); (case hg => rfl); (case hr => first | (go_simp; done) | (go_simp; rfl)); intro gb108 hg w2 hbox hb; have n0_ := Aside0.mk (below_step (by repeat (first | (with_reducible first | exact HB.out | apply below_alloc | apply pw_below_drewN | apply below_drew1) | exact HB.out)) hb); have n1_ := Aside0.mk (hbox); have n2_ := Aside0.mk ((by rw [hg]; exact (below_size (by repeat (first | (with_reducible first | exact HB.out | apply below_alloc | apply pw_below_drewN | apply below_drew1) | exact HB.out))) : w.heap.size ≤ gb108)); have n3_ := Aside0.mk ((by rw [hg]; exact (below_size (by repeat (first | (with_reducible first | exact HB.out | apply below_alloc | apply pw_below_drewN | apply below_drew1) | exact HB.out))) : w.heap.size ≤ gb108)); clear HB; have HB := n0_; have BK108 := n1_; have GW108 := n2_; have GE108 := n3_; clear n0_ n1_ n2_ n3_; clear hb hbox hg) | ((with_reducible refine gate_dst (N := 2) rfl ?_); refine box_event ?hg (N := 2) ?hd (cs := #[.slice none 0 0]) (t := 30) ?hr ?_; (case hd => rfl); (case hg => rfl); (case hr => first | (go_simp; done) | (go_simp; rfl)); intro gb109 hg w3 hbox hb; have n0_ := Aside0.mk (blk_below (g := gb108) (o := .cells #[.slice A0_0 l0_0.length c0_0] 30 (0, 0)) (by (with_reducible repeat (first | refine blk_drewN ?_ _ | refine blk_drew ?_ | refine blk_alloc ?_ _)); exact BK108.out) hb); have n1_ := Aside0.mk (below_step (by repeat (first | (with_reducible first | exact HB.out | apply below_alloc | apply pw_below_drewN | apply below_drew1 | refine below_set ?_ GE108.out) | exact HB.out)) hb); have n2_ := Aside0.mk (hbox); have n3_ := Aside0.mk ((by rw [hg]; exact (below_size (by repeat (first | (with_reducible first | exact HB.out | apply below_alloc | apply pw_below_drewN | apply below_drew1 | refine below_set ?_ GE108.out) | exact HB.out))) : w.heap.size ≤ gb109)); have n4_ := Aside0.mk ((by rw [hg]; exact (below_size (by repeat (first | (with_reducible first | exact HB.out | apply below_alloc | apply pw_below_drewN | apply below_drew1 | refine below_set ?_ GE108.out) | exact HB.out))) : w.heap.size ≤ gb109)); have n5_ := Aside0.mk ((by rw [hg]; exact Nat.ne_of_lt (blk_lt (g := gb108) (o := .cells #[.slice A0_0 l0_0.length c0_0] 30 (0, 0)) (by (with_reducible repeat (first | refine blk_drewN ?_ _ | refine blk_drew ?_ | refine blk_alloc ?_ _)); exact BK108.out)) : gb108 ≠ gb109)); have n6_ := Aside0.mk ((by rw [hg]; exact Nat.ne_of_gt (blk_lt (g := gb108) (o := .cells #[.slice A0_0 l0_0.length c0_0] 30 (0, 0)) (by (with_reducible repeat (first | refine blk_drewN ?_ _ | refine blk_drew ?_ | refine blk_alloc ?_ _)); exact BK108.out)) : gb109 ≠ gb108)); clear BK108; clear HB; have BK108 := n0_; have HB := n1_; have BK109 := n2_; have GW109 := n3_; have GE109 := n4_; have NB108_109 := n5_; have NB109_108 := n6_; clear n0_ n1_ n2_ n3_ n4_ n5_ n6_; clear hb hbox hg) | ((with_reducible refine gate_dst (N := 3) rfl ?_); refine box_event ?hg (N := 3) ?hd (cs := #[.slice none 0 0]) (t := 30) ?hr ?_; (case hd => rfl); (case hg => rfl); (case hr => first | (go_simp; done) | (go_simp; rfl)); intro gb110 hg w4 hbox hb; have n0_ := Aside0.mk (blk_below (g := gb108) (o := .cells #[.slice A0_0 l0_0.length c0_0] 30 (0, 0)) (by (with_reducible repeat (first | refine blk_drewN ?_ _ | refine blk_drew ?_ | refine blk_alloc ?_ _)); exact BK108.out) hb); have n1_ := Aside0.mk (blk_below (g := gb109) (o := .cells #[.slice none 0 0] 30 (0, 0)) (by (with_reducible repeat (first | refine blk_drewN ?_ _ | refine blk_drew ?_ | refine blk_alloc ?_ _)); exact BK109.out) hb); have n2_ := Aside0.mk (below_step (by repeat (first | (with_reducible first | exact HB.out | apply below_alloc | apply pw_below_drewN | apply below_drew1 | refine below_set ?_ GE108.out | refine below_set ?_ GE109.out) | exact HB.out)) hb); have n3_ := Aside0.mk (hbox); have n4_ := Aside0.mk ((by rw [hg]; exact (below_size (by repeat (first | (with_reducible first | exact HB.out | apply below_alloc | apply pw_below_drewN | apply below_drew1 | refine below_set ?_ GE108.out | refine below_set ?_ GE109.out) | exact HB.out))) : w.heap.size ≤ gb110)); have n5_ := Aside0.mk ((by rw [hg]; exact (below_size (by repeat (first | (with_reducible first | exact HB.out | apply below_alloc | apply pw_below_drewN | apply below_drew1 | refine below_set ?_ GE108.out | refine below_set ?_ GE109.out) | exact HB.out))) : w.heap.size ≤ gb110)); have n6_ := Aside0.mk ((by rw [hg]; exact Nat.ne_of_lt (blk_lt (g := gb108) (o := .cells #[.slice A0_0 l0_0.length c0_0] 30 (0, 0)) (by (with_reducible repeat (first | refine blk_drewN ?_ _ | refine blk_drew ?_ | refine blk_alloc ?_ _)); exact BK108.out)) : gb108 ≠ gb110)); have n7_ := Aside0.mk ((by rw [hg]; exact Nat.ne_of_gt (blk_lt (g := gb108) (o := .cells #[.slice A0_0 l0_0.length c0_0] 30 (0, 0)) (by (with_reducible repeat (first | refine blk_drewN ?_ _ | refine blk_drew ?_ | refine blk_alloc ?_ _)); exact BK108.out)) : gb110 ≠ gb108)); have n8_ := Aside0.mk ((by rw [hg]; exact Nat.ne_of_lt (blk_lt (g := gb109) (o := .cells #[.slice none 0 0] 30 (0, 0)) (by (with_reducible repeat (first | refine blk_drewN ?_ _ | refine blk_drew ?_ | refine blk_alloc ?_ _)); exact BK109.out)) : gb109 ≠ gb110)); have n9_ := Aside0.mk ((by rw [hg]; exact Nat.ne_of_gt (blk_lt (g := gb109) (o := .cells #[.slice none 0 0] 30 (0, 0)) (by (with_reducible repeat (first | refine blk_drewN ?_ _ | refine blk_drew ?_ | refine blk_alloc ?_ _)); exact BK109.out)) : gb110 ≠ gb109)); clear BK108; clear BK109; clear HB; have BK108 := n0_; have BK109 := n1_; have HB := n2_; have BK110 := n3_; have GW110 := n4_; have GE110 := n5_; have NB108_110 := n6_; have NB110_108 := n7_; have NB109_110 := n8_; have NB110_109 := n9_; clear n0_ n1_ n2_ n3_ n4_ n5_ n6_ n7_ n8_ n9_; clear hb hbox hg; have hnb5 := NB108_109.out; have hnc5 := NB109_108.out; have hnb6 := NB108_110.out; have hnc6 := NB110_108.out; obtain ⟨hcz7_0, hfz7_0⟩ := blk1_ BK108.out))
 go_loopg [9] k (fun kq v9 w' => ∃ (x9_1 : Int) (x111000_1 : List (List Int)) (u111000 : Value), v9 = .int .i64 x9_1 ∧ Aside0 (plan_Norm.l0 kq l0_0 (l0_0.length : Int) x9_1 x111000_1 = some r) ∧ Aside0 (kq ≤ k) ∧ Aside0 (Kd.S (Kd.slice 3 (Kd.int .i64)) 23 w' w.heap.size (fun _ => True) u111000 x111000_1) ∧ Aside0 (w'.heap[gb108]? = some (.cells #[(.slice A0_0 l0_0.length c0_0)] 30 (0, 0))) ∧ Aside0 (w'.heap[gb109]? = some (.cells #[(.slice none 0 0)] 30 (0, 0))) ∧ Aside0 (w'.heap[gb110]? = some (.cells #[u111000] 30 (0, 0))) ∧ Aside0 (Below w.heap.size w w'))
 case atStart => exact ⟨(0), (([] : List (List Int))), (.slice none 0 0), (by first | rfl | (simp; done) | (simp [*]; done)), H', ⟨Nat.le_refl _⟩, ⟨by first | exact Kd.S_nil _ _ _ _ _ | exact Kd.N_nil _ _ _ _ _ | exact Kd.V_nil _ _ _ _ _ | exact Kd.Q_nil _ _ _ _ _ | exact Kd.R_nil _ _ _ _ _⟩, ⟨by (with_reducible repeat (first | refine blk_drewN ?_ _ | refine blk_drew ?_ | refine blk_alloc ?_ _)); exact BK108.out⟩, ⟨by (with_reducible repeat (first | refine blk_drewN ?_ _ | refine blk_drew ?_ | refine blk_alloc ?_ _)); exact BK109.out⟩, ⟨by (with_reducible repeat (first | refine blk_drewN ?_ _ | refine blk_drew ?_ | refine blk_alloc ?_ _)); exact BK110.out⟩, ⟨by repeat (first | (with_reducible first | exact HB.out | apply below_alloc | apply pw_below_drewN | apply below_drew1 | refine below_set ?_ GE108.out | refine below_set ?_ GE109.out | refine below_set ?_ GE110.out) | exact HB.out)⟩⟩
 case round =>
  clear H'
  (try clear hcz7_0); (try clear hfz7_0)
  obtain ⟨x9_1, x111000_1, u111000, rfl, HA, HK1, HO_111000, BK108, BK109, BK110, HB⟩ := hrel
  cases gk with
  | zero => exact absurd HA.out (by simp [plan_Norm.l0])
  | succ k1 =>
   have H := HA.out
   clear HA
   simp only [plan_Norm.l0] at H
   by_cases c8 : x9_1 < (l0_0.length : Int)
   ·rw [if_pos c8] at H
    have c8b0 : decide (x9_1 < (l0_0.length : Int)) = true := decide_eq_true c8
    clear c8
    by_cases c9 : 0 ≤ x9_1
    ·rw [if_pos c9] at H
     have c9b0 : decide (0 ≤ x9_1) = true := decide_eq_true c9
     clear c9
     by_cases c10 : x9_1 < (l0_0.length : Int)
     ·rw [if_pos c10] at H
      have c10b0 : decide (x9_1 < (l0_0.length : Int)) = true := decide_eq_true c10
      clear c10
      by_cases c11 : ((rd_L1 l0_0 x9_1).length : Int) > 0
      ·rw [if_pos c11] at H
       have c11b0 : decide (0 < ((rd_L1 l0_0 x9_1).length : Int)) = true := decide_eq_true c11
       have c11b1 : decide (0 < (rd_L1 l0_0 x9_1).length) = true := decide_eq_true (by omega)
       clear c11
       replace H := Option.bind_eq_some_iff.mp H
       obtain ⟨t112, A120, H⟩ := H
       replace H : (if x111000_1.length < 5864062014805 then (plan_Norm.l0 k1 l0_0 (l0_0.length : Int) (wrap64 (x9_1 + 1)) (x111000_1 ++ [t112])) else (none)) = some r := H
       have A12 := Aside0.mk A120
       clear A120
       by_cases c13 : x111000_1.length < 5864062014805
       ·rw [if_pos c13] at H
        have LMc13 := Aside0.mk c13
        clear c13
        obtain ⟨y115, hy115⟩ : ∃ y_ : List (List Int), y_ = (x111000_1 ++ [t112]) := ⟨_, rfl⟩
        replace H : (plan_Norm.l0 k1 l0_0 (l0_0.length : Int) (wrap64 (x9_1 + 1)) y115) = some r := by first | (rw [hy115]; with_reducible exact H) | (have H2_ := (Option.bind_some _ _).symm.trans H; rw [hy115]; with_reducible exact H2_) | (have H2_ := (Option.bind_some _ _).symm.trans H; with_reducible exact H2_) | with_reducible exact H | (rw [hy115]; exact H) | exact H
        have Ny115 := Aside0.mk hy115
        clear hy115
        have H' := Aside0.mk H
        clear H
        have p111 : 0 ≤ (x9_1 : Int) := of_decide_eq_true (by first | (with_reducible assumption) | assumption)
        have q111 : x9_1 < (l0_0.length : Int) := of_decide_eq_true (by first | (with_reducible assumption) | assumption)
        obtain ⟨ad111, A111_0, c111_0, e111, hx111_0, hl111_0, hi111_0⟩ := at_L1 HR0_0.out x9_1 p111 q111
        cases e111
        replace hx111_0 := (HB.out.cell (World.block_lt_of_cell? w _ hx111_0)).trans hx111_0
        have HR111_0 := Aside0.mk hi111_0
        have HC111_0 := Aside0.mk hl111_0
        clear hi111_0 hl111_0
        replace p111 := eq_true p111
        replace q111 := eq_true q111
        try go_wp2
        have n0_ := Aside0.mk (Kd.S_drew HO_111000.out)
        have n1_ := Aside0.mk (blk_drew BK108.out)
        have n2_ := Aside0.mk (blk_drew BK109.out)
        have n3_ := Aside0.mk (blk_drew BK110.out)
        have n4_ := Aside0.mk (below_drew1 HB.out)
        clear HO_111000
        clear BK108
        clear BK109
        clear BK110
        clear HB
        have HO_111000 := n0_
        have BK108 := n1_
        have BK109 := n2_
        have BK110 := n3_
        have HB := n4_
        clear n0_ n1_ n2_ n3_ n4_
        refine start_ (n := 8) (S := fun w' => w'.cell? ⟨gb110, 0, none⟩ = some (u111000)) (ds := [7]) #[false, false, false, false, false, false, false, false] (by kernel_rfl) rfl rfl ((blk_cell BK110.out 0).trans rfl) (fun hHeld => ?_); refine with_tabW plan_Norm.tab6 plan_Norm.bits6 (fun HT_ HW_ => ?_)
        generalize wr.drew = w14 at HO_111000 BK108 BK109 BK110 HB hHeld ⊢
        refine pure_ (i := 0) (N := some 16) (v := ?_) (a' := ?_) #[true, false, false, false, false, false, false, false] rfl rfl (any_of HT_.out (by kernel_rfl)) (fun _ _ _ h => h) (Or.inl ⟨by rfl, ?_⟩) ?_ ?_
        rotate_left
        ·intro w'
         go_simp
         with_reducible rfl
        rotate_left
        ·simp only [Act.put, List.setIfInBounds_toArray, List.set_cons_zero, List.set_cons_succ, i64_w, i32_w]
         rfl
        refine pure_ (i := 2) (N := some 18) (v := ?_) (a' := ?_) #[true, false, true, false, false, false, false, false] rfl rfl (any_of HT_.out (by kernel_rfl)) (fun _ _ _ h => h) (Or.inl ⟨by rfl, ?_⟩) ?_ ?_
        rotate_left
        ·intro w'
         go_simp
         with_reducible rfl
        rotate_left
        ·simp only [Act.put, List.setIfInBounds_toArray, List.set_cons_zero, List.set_cons_succ, i64_w, i32_w]
         rfl
        refine take_ (i := 1) (N := some 17) (v := ?_) (a' := ?_) #[true, true, true, false, false, false, false, false] rfl rfl (take_ofW HT_.out HW_.out (by kernel_rfl)) (fun _ _ _ h => h) (Or.inl ⟨by rfl, ?_⟩) hHeld ?_ ?_
        rotate_left
        ·intro w' s0
         go_simp
         with_reducible rfl
        rotate_left
        ·simp only [Act.put, List.setIfInBounds_toArray, List.set_cons_zero, List.set_cons_succ, i64_w, i32_w]
         rfl
        refine one_ (i := 3) (N := some 19) #[true, true, true, true, false, false, false, false] rfl rfl (one_of HT_.out (by kernel_rfl)) (by decide) (fun K hK => ?_)
        refine goes_ Try.func34 (by kernel_rfl) rfl #[.slice A111_0 (rd_L1 l0_0 x9_1).length c111_0] (by rfl) rfl rfl (by (try simp only [List.map_toArray, List.map_cons, List.map_nil]); first | done | rfl | (simp only [List.length_drop, List.length_take]; rfl)) ?_
        with_reducible refine (slices_Clone_int_int.calls _ _ (rd_L1 l0_0 x9_1) t112 _ ?side1 ?side2 A12.out).mono ?_
        (case side1 => repeat (first | exact (Kd.C_below HR111_0.out HB.out) | (with_reducible refine Kd.C_alloc ?_ _) | (with_reducible refine Kd.C_drewN ?_ _) | (with_reducible refine Kd.C_drew ?_)))
        (case side2 => exact HC111_0.out)
        rintro e w15 ⟨v113, rfl, ho0, hb⟩
        refine ⟨_, rfl, ?_⟩
        have n0_ := Aside0.mk (Kd.S_elder' (by (with_reducible repeat (first | apply Kd.S_alloc | apply Kd.S_drewN | apply Kd.S_drew)); exact HO_111000.out) (Kd.R_base ho0) hb)
        have n1_ := Aside0.mk (Kd.R_lower ho0 (below_size (by repeat (first | (with_reducible first | exact HB.out | apply below_alloc | apply pw_below_drewN | apply below_drew1 | refine below_set ?_ GE108.out | refine below_set ?_ GE109.out | refine below_set ?_ GE110.out) | exact HB.out))))
        have n2_ := Aside0.mk (blk_below (g := gb108) (o := .cells #[.slice (some ad111) l0_0.length c0_0] 30 (0, 0)) (by (with_reducible repeat (first | refine blk_drewN ?_ _ | refine blk_drew ?_ | refine blk_alloc ?_ _)); exact BK108.out) hb)
        have n3_ := Aside0.mk (blk_below (g := gb109) (o := .cells #[.slice none 0 0] 30 (0, 0)) (by (with_reducible repeat (first | refine blk_drewN ?_ _ | refine blk_drew ?_ | refine blk_alloc ?_ _)); exact BK109.out) hb)
        have n4_ := Aside0.mk (blk_below (g := gb110) (o := .cells #[u111000] 30 (0, 0)) (by (with_reducible repeat (first | refine blk_drewN ?_ _ | refine blk_drew ?_ | refine blk_alloc ?_ _)); exact BK110.out) hb)
        have n5_ := Aside0.mk (below_step (by repeat (first | (with_reducible first | exact HB.out | apply below_alloc | apply pw_below_drewN | apply below_drew1 | refine below_set ?_ GE108.out | refine below_set ?_ GE109.out | refine below_set ?_ GE110.out) | exact HB.out)) hb)
        clear HO_111000
        clear BK108
        clear BK109
        clear BK110
        clear HB
        have HO_111000 := n0_
        have HO114 := n1_
        have BK108 := n2_
        have BK109 := n3_
        have BK110 := n4_
        have HB := n5_
        clear n0_ n1_ n2_ n3_ n4_ n5_
        (try clear hb)
        (try clear hb2)
        (try clear hk)
        (try clear hi)
        (try clear ho0)
        obtain ⟨Ao17, co17, eo17⟩ := Kd.R_slice HO114.out
        (first | subst eo17 | (injection eo17 with f1_ f2_ f3_; have f4_ := f1_.symm; have f5_ := f3_.symm; clear f1_ f2_ f3_; subst f4_; subst f5_))
        refine hK.out _ _ ((blk_cell BK110.out 0).trans rfl) (fun hHeld => ?_)
        clear hK K
        refine norm_ (a' := ?_) ?_ ?_
        rotate_left
        ·show Act.put _ (some 19) _ = _
         simp only [Act.put, List.setIfInBounds_toArray, List.set_cons_zero, List.set_cons_succ, i64_w, i32_w]
         rfl
        refine one_ (i := 4) (N := some 20) #[true, true, true, true, true, false, false, false] rfl rfl (one_of HT_.out (by kernel_rfl)) (by decide) (fun K hK => ?_)
        refine value_ (w1 := ?_) (v := ?_) (by rfl) rfl ?_ ?_
        rotate_left 2
        ·go_simp
         constructor
         ·rfl
         ·rfl
        refine hK.out _ _ ((blk_cell (blk_alloc BK110.out _) 0).trans rfl) (fun hHeld => ?_)
        clear hK K
        refine norm_ (a' := ?_) ?_ ?_
        rotate_left
        ·show Act.put _ (some 20) _ = _
         simp only [Act.put, List.setIfInBounds_toArray, List.set_cons_zero, List.set_cons_succ, i64_w, i32_w]
         rfl
        refine one_ (i := 5) (N := some 21) #[true, true, true, true, true, true, false, false] rfl rfl (one_of HT_.out (by kernel_rfl)) (by decide) (fun K hK => ?_)
        refine Kd.S_append_step (Kd.slice 3 (Kd.int .i64)) (w0 := w) w.heap.size (by rfl) (.tmp 17) (.tmp 20) 28 23 (.slice none 0 0) 24 rfl Try.underlying28 info23 rfl (by decide) (by omega) u111000 x111000_1 t112 [.slice Ao17 t112.length co17] (fun _ => True) (fun k_ => some k_ = (.slice Ao17 t112.length co17 : Value).ownBlock) rfl rfl ?aP (fun k_ hk_ => ((Kd.R_mono (ok' := fun k_ => ((fun _ => True)) k_ ∧ some k_ ≠ (u111000 : Value).ownBlock) (Kd.R_apart' (HO114.out) (Kd.S_typed HO_111000.out) (by decide)) (fun k_ hk => ⟨trivial, hk.2⟩))).1 k_ hk_.symm) ?aF ?aO ?aB ?aS ?aL ?_
        (case aP => exact Kd.M_row (Kd.R_mono (Kd.R_tight rfl (Kd.R_mono (ok' := fun k_ => ((fun _ => True)) k_ ∧ some k_ ≠ (u111000 : Value).ownBlock) (Kd.R_apart' (HO114.out) (Kd.S_typed HO_111000.out) (by decide)) (fun k_ hk => ⟨trivial, hk.2⟩))) (fun _ h_ => h_)))
        (case aB => exact (by repeat (first | (with_reducible first | exact HB.out | apply below_alloc | apply pw_below_drewN | apply below_drew1 | refine below_set ?_ GE108.out | refine below_set ?_ GE109.out | refine below_set ?_ GE110.out) | exact HB.out)))
        (case aF => exact (fun _ _ => trivial))
        (case aO => exact (by (with_reducible repeat (first | apply Kd.S_alloc | apply Kd.S_drewN | apply Kd.S_drew)); exact Kd.S_mono HO_111000.out (fun k_ hk => ⟨trivial, fun e_ => hk.2 e_⟩)))
        (case aS => exact (below_size (by repeat (first | (with_reducible first | exact HB.out | apply below_alloc | apply pw_below_drewN | apply below_drew1 | refine below_set ?_ GE108.out | refine below_set ?_ GE109.out | refine below_set ?_ GE110.out) | exact HB.out))))
        (case aL => have := LMc13.out; omega)
        intro v116 w16 ho hb hg hat
        rw [← Ny115.out] at ho
        have n0_ := Aside0.mk (blk_grown (g := gb108) (o := .cells #[.slice (some ad111) l0_0.length c0_0] 30 (0, 0)) (by (with_reducible repeat (first | refine blk_drewN ?_ _ | refine blk_drew ?_ | refine blk_alloc ?_ _)); exact BK108.out) hg (Kd.S_ne HO_111000.out BK108.out (by decide)))
        have n1_ := Aside0.mk (blk_grown (g := gb109) (o := .cells #[.slice none 0 0] 30 (0, 0)) (by (with_reducible repeat (first | refine blk_drewN ?_ _ | refine blk_drew ?_ | refine blk_alloc ?_ _)); exact BK109.out) hg (Kd.S_ne HO_111000.out BK109.out (by decide)))
        have n2_ := Aside0.mk (blk_grown (g := gb110) (o := .cells #[u111000] 30 (0, 0)) (by (with_reducible repeat (first | refine blk_drewN ?_ _ | refine blk_drew ?_ | refine blk_alloc ?_ _)); exact BK110.out) hg (Kd.S_ne HO_111000.out BK110.out (by decide)))
        have n3_ := Aside0.mk (hb)
        have n4_ := Aside0.mk (ho)
        clear BK108
        clear BK109
        clear BK110
        clear HB
        clear HO_111000
        clear HO114
        have BK108 := n0_
        have BK109 := n1_
        have BK110 := n2_
        have HB := n3_
        have HO117 := n4_
        clear n0_ n1_ n2_ n3_ n4_
        clear ho hb hg hat
        obtain ⟨Ao18, co18, eo18⟩ := Kd.S_slice HO117.out
        (first | subst eo18 | (injection eo18 with f1_ f2_ f3_; have f4_ := f1_.symm; have f5_ := f3_.symm; clear f1_ f2_ f3_; subst f4_; subst f5_))
        refine hK.out _ _ ((blk_cell BK110.out 0).trans rfl) (fun hHeld => ?_)
        clear hK K
        refine norm_ (a' := ?_) ?_ ?_
        rotate_left
        ·show Act.put _ (some 21) _ = _
         simp only [Act.put, List.setIfInBounds_toArray, List.set_cons_zero, List.set_cons_succ, i64_w, i32_w]
         rfl
        refine pure_ (i := 6) (N := some 22) (v := ?_) (a' := ?_) #[true, true, true, true, true, true, true, false] rfl rfl (any_of HT_.out (by kernel_rfl)) (fun _ _ _ h => h) (Or.inl ⟨by rfl, ?_⟩) ?_ ?_
        rotate_left
        ·intro w'
         go_simp
         with_reducible rfl
        rotate_left
        ·simp only [Act.put, List.setIfInBounds_toArray, List.set_cons_zero, List.set_cons_succ, i64_w, i32_w]
         rfl
        refine last_ (i := 7) (N := none) #[true, true, true, true, true, true, true, true] rfl rfl (one_of HT_.out (by kernel_rfl)) (by decide) (fun K hK => ?_)
        have hs19 : w16.cell? ⟨gb110, 0, none⟩ = some (u111000) := (blk_cell BK110.out 0).trans rfl
        have hfs19 := blk_frozen BK110.out 0
        have hns19_0 := NB108_110.out
        have hns19_1 := NB109_110.out
        have hms19_0 := NB110_108.out
        have hms19_1 := NB110_109.out
        refine skip_ (w1 := ?_) (by rfl) rfl ?_ ?_
        rotate_left
        ·go_simp
         rfl
        refine hK.out _ _ ?_
        clear hK K
        refine done_ (done_of HT_.out (by kernel_rfl)) ?_
        try go_wp2
        go_roundg k1
        case measure => have := HK1.out; omega
        case rel => exact ⟨(wrap64 (x9_1 + 1)), (y115), (.slice Ao18 y115.length co18), (by first | rfl | (simp; done) | (simp [*]; done)), H', ⟨by have := HK1.out; omega⟩, ⟨by (with_reducible repeat (first | apply Kd.S_alloc | apply Kd.S_drewN | apply Kd.S_drew)); exact Kd.S_mono (Kd.S_far (p := ⟨gb110, 0, none⟩) (Kd.S_types HO117.out BK110.out (by decide)) (fun _ hk => hk.2) (.slice Ao18 y115.length co18)) (fun _ hk => trivial)⟩, ⟨by (with_reducible repeat (first | refine blk_drewN ?_ _ | refine blk_drew ?_ | refine blk_alloc ?_ _)); refine blk_far ?_ NB108_110.out _; (with_reducible repeat (first | refine blk_drewN ?_ _ | refine blk_drew ?_ | refine blk_alloc ?_ _)); exact BK108.out⟩, ⟨by (with_reducible repeat (first | refine blk_drewN ?_ _ | refine blk_drew ?_ | refine blk_alloc ?_ _)); refine blk_far ?_ NB109_110.out _; (with_reducible repeat (first | refine blk_drewN ?_ _ | refine blk_drew ?_ | refine blk_alloc ?_ _)); exact BK109.out⟩, ⟨by (with_reducible repeat (first | refine blk_drewN ?_ _ | refine blk_drew ?_ | refine blk_alloc ?_ _)); refine blk_put (cs := #[u111000]) ?_ 0 _ rfl; (with_reducible repeat (first | refine blk_drewN ?_ _ | refine blk_drew ?_ | refine blk_alloc ?_ _)); exact BK110.out⟩, ⟨by repeat (first | (with_reducible first | exact HB.out | apply below_alloc | apply pw_below_drewN | apply below_drew1 | refine below_set ?_ GE108.out | refine below_set ?_ GE109.out | refine below_set ?_ GE110.out) | exact HB.out)⟩⟩
       ·rw [if_neg c13] at H
        exact absurd H (by simp)
      ·rw [if_neg c11] at H
       have c11b0 : decide (0 < ((rd_L1 l0_0 x9_1).length : Int)) = false := decide_eq_false c11
       have c11b1 : decide (0 < (rd_L1 l0_0 x9_1).length) = false := decide_eq_false (by omega)
       clear c11
       have H' := Aside0.mk H
       clear H
       have p111 : 0 ≤ (x9_1 : Int) := of_decide_eq_true (by first | (with_reducible assumption) | assumption)
       have q111 : x9_1 < (l0_0.length : Int) := of_decide_eq_true (by first | (with_reducible assumption) | assumption)
       obtain ⟨ad111, A111_0, c111_0, e111, hx111_0, hl111_0, hi111_0⟩ := at_L1 HR0_0.out x9_1 p111 q111
       cases e111
       replace hx111_0 := (HB.out.cell (World.block_lt_of_cell? w _ hx111_0)).trans hx111_0
       have HR111_0 := Aside0.mk hi111_0
       have HC111_0 := Aside0.mk hl111_0
       clear hi111_0 hl111_0
       replace p111 := eq_true p111
       replace q111 := eq_true q111
       go_wp2
       go_roundg k1
       case measure => have := HK1.out; omega
       case rel => exact ⟨(wrap64 (x9_1 + 1)), (x111000_1), (u111000), (by first | rfl | (simp; done) | (simp [*]; done)), H', ⟨by have := HK1.out; omega⟩, ⟨by (with_reducible repeat (first | apply Kd.S_alloc | apply Kd.S_drewN | apply Kd.S_drew)); exact HO_111000.out⟩, ⟨by (with_reducible repeat (first | refine blk_drewN ?_ _ | refine blk_drew ?_ | refine blk_alloc ?_ _)); exact BK108.out⟩, ⟨by (with_reducible repeat (first | refine blk_drewN ?_ _ | refine blk_drew ?_ | refine blk_alloc ?_ _)); exact BK109.out⟩, ⟨by (with_reducible repeat (first | refine blk_drewN ?_ _ | refine blk_drew ?_ | refine blk_alloc ?_ _)); exact BK110.out⟩, ⟨by repeat (first | (with_reducible first | exact HB.out | apply below_alloc | apply pw_below_drewN | apply below_drew1 | refine below_set ?_ GE108.out | refine below_set ?_ GE109.out | refine below_set ?_ GE110.out) | exact HB.out)⟩⟩
     ·rw [if_neg c10] at H
      exact absurd H (by simp)
    ·rw [if_neg c9] at H
     exact absurd H (by simp)
   ·rw [if_neg c8] at H
    have c8b0 : decide (x9_1 < (l0_0.length : Int)) = false := decide_eq_false c8
    clear c8
    obtain rfl := Option.some.inj H
    have hnb20 := NB110_108.out
    have hnc20 := NB108_110.out
    have hnb21 := NB110_109.out
    have hnc21 := NB109_110.out
    obtain ⟨hcz22_0, hfz22_0⟩ := blk1_ BK110.out
    obtain ⟨Ao23, co23, eo23⟩ := Kd.S_slice HO_111000.out
    subst eo23
    have hnb24 := NB109_108.out
    have hnc24 := NB108_109.out
    obtain ⟨hcz25_0, hfz25_0⟩ := blk1_ BK109.out
    go_wp2
    refine bodyPost_ret (results_cell_row rfl _ _ gb109 30 #[.slice Ao23 x111000_1.length co23] (0, 0) _ rfl (by (with_reducible repeat (first | refine blk_drewN ?_ _ | refine blk_drew ?_ | refine blk_alloc ?_ _)); refine blk_put (cs := #[.slice none 0 0]) ?_ 0 _ rfl; (with_reducible repeat (first | refine blk_drewN ?_ _ | refine blk_drew ?_ | refine blk_alloc ?_ _)); exact BK109.out) Try.underlying30 rfl (by kernel_rfl)) rfl ?_
    exact ⟨_, by first | rfl | (simp [errW_none, errW_some] <;> rfl) | (simp [*, errW_none, errW_some] <;> rfl), by (with_reducible repeat (first | apply Kd.S_alloc | apply Kd.S_drewN | apply Kd.S_drew)); exact Kd.S_mono (Kd.S_far (p := ⟨gb109, 0, none⟩) (Kd.S_types HO_111000.out BK109.out (by decide)) (fun _ hk => hk.2) (.slice Ao23 x111000_1.length co23)) (fun _ hk => trivial), by repeat (first | (with_reducible first | exact HB.out | apply below_alloc | apply pw_below_drewN | apply below_drew1 | refine below_set ?_ GE108.out | refine below_set ?_ GE109.out | refine below_set ?_ GE110.out) | exact HB.out)⟩

end Go.Proofs.Ytlncbckpcmojpaa.P
