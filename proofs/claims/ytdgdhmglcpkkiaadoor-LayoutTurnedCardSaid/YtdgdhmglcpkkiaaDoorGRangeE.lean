/- A range over an iterator that reads boxes of its own between the rounds (Bx: what the loop's word says of them): what the loop says between two rounds abides the turn of any block of book-keeping that the iterator has laid (not of walks of maps alone), and a round leaves whatever the iterator has laid. Over any program, at the wide fence. -/
import Derived.RangeFuncNested
import Derived.RangeFuncLeaves
import Derived.RangeFuncBound
namespace Go.Proofs.YtdgdhmglcpkkiaaDoor
namespace RangeE
open Go.RowKit
variable {n : Nat} {P : Program}

/-- What is no cells and lay at B or beyond lies as it lay. -/
def Above (B : Nat) (W W' : World) : Prop := ∀ k o, B ≤ k → W.heap[k]? = some o → o.isCells = false → W'.heap[k]? = some o
theorem Above.refl (B : Nat) (W : World) : Above B W W := fun _ _ _ h _ => h
theorem Above.trans {B : Nat} {W V U : World} (h : Above B W V) (h' : Above B V U) : Above B W U := fun k o hk ho hc => h' k o hk (h k o hk ho hc) hc
theorem Above.mono {B C : Nat} {W V : World} (h : Above B W V) (hc : B ≤ C) : Above C W V := fun k o hk ho hd => h k o (Nat.le_trans hc hk) ho hd
theorem Above.alloc {B : Nat} {W V : World} (h : Above B W V) (o : Obj) : Above B W (V.alloc o) := fun k x hk hx hcl =>
  ((World.grownBy_alloc V o none).block k (Array.getElem?_eq_some_iff.1 (h k x hk hx hcl)).1 (fun e => by cases e)).trans (h k x hk hx hcl)
theorem Above.putObj {B : Nat} {W V : World} {l : Nat} (h : Above B W V) (hl : l < B) (o : Obj) : Above B W (V.putObj l o) := fun k x hk hx hcl =>
  (World.putObj_heap_other (by omega)).trans (h k x hk hx hcl)
theorem Above.setCell {B : Nat} {W V : World} {p : Addr} (h : Above B W V) (hp : p.block < B) (v : Value) : Above B W (V.setCell p v) := fun k x hk hx hcl =>
  (Below.heap_setCell _ _ _ k (by omega)).trans (h k x hk hx hcl)
theorem Above.drew {B : Nat} {W V : World} (h : Above B W V) : Above B W V.drew := h
theorem Above.grown {B : Nat} {W V U : World} {row : Option Nat} (h : Above B W V) (hg : V.grownBy U row) (hr : ∀ k, row = some k → k < B) : Above B W U := fun k x hk hx hcl =>
  (hg.block k (Array.getElem?_eq_some_iff.1 (h k x hk hx hcl)).1 (fun e => by have := hr k e.symm; omega)).trans (h k x hk hx hcl)
/-- What speaks of blocks at B or beyond that lay in W0 abides what turns beyond W0. -/
theorem own_above {β : Type} {B C : Nat} {W0 : World} (hC : W0.heap.size ≤ C) : OwnFrom C (fun (_ : β) W => Above B W0 W) := fun _ _ _ row hs hg hr k o hk ho hcl =>
  (hg.block k (Array.getElem?_eq_some_iff.1 (hs k o hk ho hcl)).1 (fun e => by have := (hr k e.symm).1; have := (Array.getElem?_eq_some_iff.1 ho).1; omega)).trans (hs k o hk ho hcl)
theorem Above.of_keeps {B : Nat} {W V : World} (h : KeepsOthers W V) : Above B W V := fun k o _ ho hc => h.2 k o ho hc
theorem own_at {β : Type} {C k : Nat} {o : Obj} (hk : k < C) : OwnFrom C (fun (_ : β) (W : World) => W.heap[k]? = some o) := fun _ _ _ row hs hg hr =>
  (hg.block k (Array.getElem?_eq_some_iff.1 hs).1 (fun e => by have := (hr k e.symm).1; omega)).trans hs
theorem OwnFrom.mono {β : Type} {B C : Nat} {I : β → World → Prop} (h : OwnFrom B I) (hc : B ≤ C) : OwnFrom C I := fun s W W' row hs hg hr => h s W W' row hs hg fun r e => ⟨Nat.le_trans hc (hr r e).1, (hr r e).2⟩
theorem OwnFrom.at {β γ : Type} {B : Nat} {I : β → World → Prop} (h : OwnFrom B I) (f : γ → β) : OwnFrom B (fun s W => I (f s) W) := fun s W W' row hs hg hr => h (f s) W W' row hs hg hr

/-- An iterator's word: as the kit's, but that the caller's word abides the turn of whatever is no cells and was laid since, and that a round keeps what the iterator has laid. -/
def SeqE {α : Type} (m : Nat) (P : Program) (g : Nat) (lb : Array Value) (encs : α → Array Value) (n₀ : Nat) (S Sp : List α → Prop) (Bx : World → Prop) (w : World) : Prop :=
  ∀ (l : Nat) (J Jx : List α → World → Prop) (W : World), Below w.heap.size w W → OwnFrom W.heap.size J → OwnFrom W.heap.size Jx → (∀ pre W', J pre W' → Bx W') →
    (∀ pre x W1, J pre W1 → Sp (pre ++ [x]) → YieldAt Fence.wide (m - 1) P l (encs x) W1 fun e W' =>
      (e = .returned (.bool true) ∧ J (pre ++ [x]) W' ∧ Below n₀ W1 W' ∧ Above W.heap.size W1 W') ∨ (e = .returned (.bool false) ∧ Jx (pre ++ [x]) W' ∧ Above W.heap.size W1 W')) →
    J [] W →
    CallsIn Fence.wide m P g (#[.func (.yield l) #[] #[]] ++ lb) W fun e W' => (∃ v, e = .returned v) ∧ ((∃ xs, S xs ∧ J xs W') ∨ (∃ pre, Sp pre ∧ Jx pre W'))

theorem yield_any {m m' l : Nat} {args : Array Value} {W : World} {R : Ending → World → Prop} (h : YieldAt Fence.wide m P l args W R) : YieldAt Fence.wide m' P l args W R := by
  obtain ⟨fn, tmps, assign, body, hy, hR⟩ := h
  exact ⟨fn, tmps, assign, body, hy, hR.1, fun c cs _ => hR.2 c cs (room_wide _)⟩

theorem yield_in {m m' l l₂ : Nat} {args : Array Value} {W : World} {R : Ending → World → Prop} (h : YieldAt Fence.wide m P l args W R) : YieldAt (Fence.wide.inRound l₂) m' P l args W R := by
  obtain ⟨fn, tmps, assign, body, hy, hR⟩ := h
  exact ⟨fn, tmps, assign, body, hy, hR.1, fun c cs _ => hR.2 c cs (room_wide _)⟩

def postE {α : Type} (B n₀ : Nat) (I : List α → World → Prop) (Ix : Code → List α → World → Prop) (xs : List α) (W : World) : Exit → Act → World → Prop
  | .normal, _, W' => Above B W W' ∧ Below n₀ W W' ∧ I xs W'
  | .ret, _, W' => Above B W W' ∧ Ix .ret xs W'
  | _, _, _ => False

theorem wpIn_rangeFunc_E {α : Type} {g : Operand} {ps : Array Tmp} {assign body : Code} {Q : Exit → Act → World → Prop} {a : Act} {w : World} {gf : Nat} {lb : Array Value}
    (hg : a.eval g = .func (.func gf) #[] lb) (eg : ∀ args w, (callFunc gf args).run P w = .ok (.enter gf args) w)
    {encs : α → Array Value} {n₀ : Nat} {S Sp : List α → Prop} {w0 : World} {Bx : World → Prop} (hseq : SeqE (n - 1) P gf lb encs n₀ S Sp Bx w0) (hb0 : Below w0.heap.size w0 w) (hn₀ : n₀ ≤ w.heap.size) (hps : ∀ x, (encs x).size = ps.size)
    (I : List α → World → Prop) (Ix : List α → World → Prop) (hI : OwnFrom w.heap.size I) (hIx : OwnFrom w.heap.size Ix) (hBx : ∀ pre W', I pre W' → Bx W') (h0 : I [] w) (Ax : List α → α → Act → World → Prop) (hAx : ∀ pre x a', OwnFrom w.heap.size (fun (_ : Unit) W => Ax pre x a' W))
    (hassign : ∀ (l : Nat) (pre : List α) (x : α) (W : World) (K : Act → World → Prop), I pre W → (∀ a' W', Below n₀ W W' → Above w.heap.size W W' → Ax pre x a' W' → K a' W') →
      assign.wpIn (Fence.wide.inRound l) (n - 1 - 1) P (Exit.then K (fun _ _ _ => False)) { tmps := (ps.zip (encs x)).foldl (fun t (p, v) => t.setIfInBounds p v) a.tmps, defers := [] } W)
    (hbody : ∀ (l : Nat) (pre : List α) (x : α) (a' : Act) (W : World), w.heap.size ≤ l → Ax pre x a' W → Sp (pre ++ [x]) → body.wpIn (Fence.wide.inRound l) (n - 1 - 1) P (postE w.heap.size n₀ I (fun _ => Ix) (pre ++ [x]) W) a' W)
    (hdone : ∀ (D : Nat) (xs : List α) (W : World), w.heap.size ≤ D → S xs → I xs W → W.heap[D]? = some (.deferred (some [])) → Q .normal { a with defers := { target := .collected D, args := #[] } :: a.defers } W)
    (hstop : ∀ (D : Nat) (pre : List α) (W : World), w.heap.size ≤ D → Sp pre → Ix pre W → W.heap[D]? = some (.deferred (some [])) → Code.ret.wpIn Fence.wide n P Q { a with defers := { target := .collected D, args := #[] } :: a.defers } W) :
    (Code.rangeFunc g ps assign body).wpIn Fence.wide n P Q a w := by
  refine wpIn_rangeFunc fun fn hfn => ?_
  rw [show Fence.wide.round = none from rfl]
  obtain ⟨rec, hrec⟩ : ∃ rec : LoopState → Option Code → Loop, rec = fun st pe => { state := st, pending := pe, fn, tmps := a.tmps, params := ps, assign, body, defers := w.heap.size } := ⟨_, rfl⟩
  obtain ⟨W1, hW1⟩ : ∃ W1, (w.alloc (.deferred (some []))).alloc (.loop (rec .ready none)) = W1 := ⟨_, rfl⟩
  have hs1 : W1.heap.size = w.heap.size + 2 := by rw [← hW1]; simp
  have hL1 : W1.heap[w.heap.size + 1]? = some (.loop (rec .ready none)) := by
    have := World.alloc_heap_new (w.alloc (.deferred (some []))) (.loop (rec .ready none))
    rw [World.size_alloc] at this
    rw [← hW1]; exact this
  have hK1 : W1.heap[w.heap.size]? = some (.deferred (some [])) := by
    rw [← hW1]; exact (Below.heap_alloc _ _ _ (by simp)).trans (World.alloc_heap_new w _)
  have hI1 : I [] W1 := by rw [← hW1]; exact hI.alloc _ (hI.alloc _ h0)
  have hb1 : Below w0.heap.size w0 W1 := by
    rw [← hW1]; exact hb0.trans ((((Below.refl _ w).alloc (Nat.le_refl _) _).alloc (by simp) _).mono hb0.size)
  refine ⟨w.heap.size + 1, [{ target := .collected w.heap.size, args := #[] }], W1, { target := .fn (.func gf) lb, args := #[.func (.yield (w.heap.size + 1)) #[] #[]] }, W1, gf,
    #[.func (.yield (w.heap.size + 1)) #[] #[]] ++ lb, W1, ?_, ?_, fun _ _ => trivial, ?_, fun h => (by simp [Fence.wide] at h), ?_⟩
  · rw [← hW1, hrec]; exact run_enterLoop_outer _ _ _ _ _
  · simp only [resolve, hg]
    simp [go_sem]
  · simp [invoke, go_sem, eg]
  · have dJ : OwnFrom W1.heap.size (fun pre W => I pre W ∧ W.heap[w.heap.size + 1]? = some (.loop (rec .ready none)) ∧ W.heap[w.heap.size]? = some (.deferred (some []))) :=
      OwnFrom.and (OwnFrom.mono hI (by omega)) (OwnFrom.and (own_at (by omega)) (own_at (by omega)))
    have dJx : OwnFrom W1.heap.size (fun pre W => Ix pre W ∧ W.heap[w.heap.size + 1]? = some (.loop (rec .done (some .ret))) ∧ W.heap[w.heap.size]? = some (.deferred (some []))) :=
      OwnFrom.and (OwnFrom.mono hIx (by omega)) (OwnFrom.and (own_at (by omega)) (own_at (by omega)))
    refine (hseq (w.heap.size + 1) _ _ W1 hb1 dJ dJx (fun pre W' h => hBx pre W' h.1) ?_ ⟨hI1, hL1, hK1⟩).mono ?_
    · rintro pre x W ⟨hi, hl, hk⟩ hlen
      have hy := run_yield (P := P) (args := encs x) hl (by rw [hrec]; exact hps x)
      rw [hrec] at hy
      refine ⟨fn, _, assign, body, hy, roundIn_of_wpIn hfn (hassign _ pre x W _ hi fun a' V hbV haV hm => ?_)⟩
      have hlV := haV _ _ (by omega) hl rfl
      have hkV := haV _ _ (Nat.le_refl _) hk rfl
      have hlt : w.heap.size + 1 < V.heap.size := (Array.getElem?_eq_some_iff.1 hlV).1
      refine ⟨_, run_beginRound hlV (by rw [hrec]), ?_⟩
      have hl2 : (V.putObj (w.heap.size + 1) (.loop { rec .ready none with state := .busy })).heap[w.heap.size + 1]? = some (.loop { rec .ready none with state := .busy }) := World.putObj_heap_same hlt
      have hk2 : (V.putObj (w.heap.size + 1) (.loop { rec .ready none with state := .busy })).heap[w.heap.size]? = some (.deferred (some [])) := (World.putObj_heap_other (by omega)).trans hkV
      have key : ∀ (j : Option Code) (U : World), Above w.heap.size (V.putObj (w.heap.size + 1) (.loop { rec .ready none with state := .busy })) U →
          U.heap[w.heap.size + 1]? = some (.loop { rec .ready none with state := .busy }) ∧ (Instr.endRound (w.heap.size + 1) j).run P U = .ok (.bool j.isNone) (U.putObj (w.heap.size + 1) (.loop (rec (if j.isNone then .ready else .done) j))) ∧
          (U.putObj (w.heap.size + 1) (.loop (rec (if j.isNone then .ready else .done) j))).heap[w.heap.size + 1]? = some (.loop (rec (if j.isNone then .ready else .done) j)) ∧
          (U.putObj (w.heap.size + 1) (.loop (rec (if j.isNone then .ready else .done) j))).heap[w.heap.size]? = some (.deferred (some [])) := fun j U hU => by
        have hl3 := hU _ _ (by omega) hl2 rfl
        have hr := run_endRound (P := P) j hl3
        rw [hrec] at hr
        refine ⟨hl3, by rw [hrec]; exact hr, World.putObj_heap_same (Array.getElem?_eq_some_iff.1 hl3).1, (World.putObj_heap_other (by omega)).trans (hU _ _ (Nat.le_refl _) hk2 rfl)⟩
      have hab : ∀ (j : Option Code) (U : World), Above w.heap.size (V.putObj (w.heap.size + 1) (.loop { rec .ready none with state := .busy })) U → Above W1.heap.size W (U.putObj (w.heap.size + 1) (.loop (rec (if j.isNone then .ready else .done) j))) := fun j U hU k o hk ho hcl => by
        rw [hs1] at hk
        exact (World.putObj_heap_other (by omega)).trans (hU k o (by omega) ((World.putObj_heap_other (by omega)).trans (haV k o (by omega) ho hcl)) hcl)
      have hbb : Below n₀ W (V.putObj (w.heap.size + 1) (.loop { rec .ready none with state := .busy })) :=
        hbV.grown (grownBy_putObj' _ _ _) (Nat.le_trans hn₀ (by omega)) (fun k e => by cases e; omega)
      refine wpIn_mono (hbody _ pre x a' _ (by omega) ((hAx pre x a').putObj (s := ()) _ hm (by omega) hlV rfl) hlen) ?_
      rintro e a3 U hp
      cases e with
      | normal =>
        obtain ⟨hU, hbU, hi3⟩ := hp
        obtain ⟨hl3, hr, hl4, hk4⟩ := key none U hU
        refine ⟨_, _, hr, .inl ⟨rfl, ⟨hI.putObj _ hi3 (by omega) hl3 rfl, hl4, hk4⟩, ?_, ?_⟩⟩
        · exact (hbb.trans hbU).grown (grownBy_putObj' _ _ _) (by have := (hbb.trans hbU).size; have := (Array.getElem?_eq_some_iff.1 hl).1; omega) (fun k e => by cases e; omega)
        · exact hab none U hU
      | ret =>
        obtain ⟨hU, hi3⟩ := hp
        obtain ⟨hl3, hr, hl4, hk4⟩ := key (some .ret) U hU
        exact ⟨_, _, hr, .inr ⟨rfl, ⟨hIx.putObj _ hi3 (by omega) hl3 rfl, hl4, hk4⟩, hab (some .ret) U hU⟩⟩
      | exit id => exact hp.elim
      | goto t => exact hp.elim
      | panic ch => exact hp.elim
      | outgrown => exact hp.elim
    · rintro e W2 ⟨⟨v, rfl⟩, (⟨xs, hS, hi, hl, hk⟩ | ⟨pre, hSp, hi, hl, hk⟩)⟩
      · have hr := run_endLoop (P := P) hl (by rw [hrec]; simp)
        rw [hrec] at hr
        exact ⟨none, _, hr, hdone _ xs _ (Nat.le_refl _) hS (hI.putObj _ hi (by omega) hl rfl) ((World.putObj_heap_other (by omega)).trans hk)⟩
      · have hr := run_endLoop (P := P) hl (by rw [hrec]; simp)
        rw [hrec] at hr
        exact ⟨some .ret, _, hr, hstop _ pre _ (Nat.le_refl _) hSp (hIx.putObj _ hi (by omega) hl rfl) ((World.putObj_heap_other (by omega)).trans hk)⟩

/-- Marks that the loops have left: each is taken at the return. -/
def mark (D : Nat) : Deferred := { target := .collected D, args := #[] }
def Marks (B : Nat) (Ds : List Nat) (W : World) : Prop := Ds.Nodup ∧ ∀ D ∈ Ds, B ≤ D ∧ W.heap[D]? = some (.deferred (some []))
theorem Marks.alloc {B : Nat} {Ds : List Nat} {W : World} (h : Marks B Ds W) (o : Obj) : Marks B Ds (W.alloc o) := ⟨h.1, fun D hD => ⟨(h.2 D hD).1, (Above.refl B W).alloc o D _ (h.2 D hD).1 (h.2 D hD).2 rfl⟩⟩
theorem Marks.above {B C : Nat} {Ds : List Nat} {W V : World} (h : Marks B Ds W) (ha : Above C W V) (hc : C ≤ B) : Marks B Ds V := ⟨h.1, fun D hD => ⟨(h.2 D hD).1, ha D _ (Nat.le_trans hc (h.2 D hD).1) (h.2 D hD).2 rfl⟩⟩
theorem Marks.cons {B D : Nat} {Ds : List Nat} {W V : World} (h : Marks B Ds W) (hV : W.heap.size ≤ D) (hB : B ≤ D) (hD : V.heap[D]? = some (.deferred (some []))) (h' : Marks B Ds V) : Marks B (D :: Ds) V :=
  ⟨List.nodup_cons.2 ⟨fun hm => by have := (Array.getElem?_eq_some_iff.1 (h.2 D hm).2).1; omega, h.1⟩, fun E hE => by
    rcases List.mem_cons.1 hE with rfl | hE
    · exact ⟨hB, hD⟩
    · exact h'.2 E hE⟩
theorem own_marks {β : Type} {B C : Nat} {Ds : List Nat} {V : World} (h : Marks B Ds V) (hC : V.heap.size ≤ C) : OwnFrom C (fun (_ : β) W => Marks B Ds W) := fun _ _ _ row hs hg hr =>
  ⟨hs.1, fun D hD => ⟨(hs.2 D hD).1, (hg.block D (Array.getElem?_eq_some_iff.1 (hs.2 D hD).2).1 (fun e => by have := (hr D e.symm).1; have := (Array.getElem?_eq_some_iff.1 (h.2 D hD).2).1; omega)).trans (hs.2 D hD).2⟩⟩
theorem leaves_marks {fn : Func} {tmps : Array Value} {R : Ending → World → Prop} {B : Nat} {G : World → Prop} (hG : OwnFrom B (fun (_ : Unit) W => G W)) (hfin : ∀ W, G W → LeavesInM Fence.wide n P fn tmps R [] .returning W) :
    ∀ (Ds : List Nat) (W : World), Marks B Ds W → G W → LeavesInM Fence.wide n P fn tmps R (Ds.map mark) .returning W
  | [], W, _, h => hfin W h
  | D :: Ds, W, ⟨hn, hm⟩, h => by
    have h1 := hm D (by simp)
    refine ⟨by simp, .inl ⟨D, _, rfl, run_takeDeferred h1.2, ?_⟩⟩
    rw [List.nodup_cons] at hn
    exact leaves_marks hG hfin Ds _ ⟨hn.2, fun E hE => ⟨(hm E (by simp [hE])).1, (World.putObj_heap_other (by rintro rfl; exact hn.1 hE)).trans (hm E (by simp [hE])).2⟩⟩ (hG.putObj (s := ()) _ h h1.1 h1.2 rfl)
end RangeE
end Go.Proofs.YtdgdhmglcpkkiaaDoor
