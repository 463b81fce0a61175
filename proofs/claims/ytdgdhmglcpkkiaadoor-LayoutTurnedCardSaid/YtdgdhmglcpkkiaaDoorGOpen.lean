/- How an argument that is plain data (numbers, strings, structs, slices of these, nested) reads in the print's words: one lemma a kind of data, over any program. -/
import Derived.ProofKit
import Derived.WalkKit
import Derived.Deep.Slices
import Derived.Test.YtdgdhmglcpkkiaaDoorWWords
namespace Go.Proofs.YtdgdhmglcpkkiaaDoor
namespace Open
open Go.RowKit Go.ChangeShapes Go.WideShapes Go.Deep Go.Proofs.YtdgdhmglcpkkiaaDoorW.PrintWords
universe u

/-- Whatever reads as data of type t is of kind d, and good. -/
def Opens (P : Program) (t : TypeId) {α : Type} (d : Kd α) (G : α → Prop) : Prop :=
  P.cellsOf t = d.sz ∧ ∀ (H : Type) (enc : TypeId × Value → H) (w : World) (fuel : Nat) (cs : List Value) (x : DataW H × List MemPlace), DataW.trod enc P w 0 (fun _ => true) true fuel t cs = some x → ∃ v : α, d.K w v cs ∧ G v

def WfInt (k : IntKind) (n : Int) : Prop := (Lit.int k n).wf = true
def WfRow {α : Type} (G : α → Prop) (xs : List α) : Prop := xs.length ≤ maxLen ∧ ∀ x ∈ xs, G x

variable {P : Program}

theorem opens_int {t : TypeId} {k : IntKind} (ht : P.underlying t = some (.int k)) (hc : P.cellsOf t = 1) : Opens P t (Kd.int k) (WfInt k) := by
  refine ⟨hc, fun H enc w fuel cs x h => ?_⟩
  cases fuel with
  | zero => simp [DataW.trod] at h
  | succ n =>
    unfold DataW.trod at h
    rw [ht] at h
    match cs, h with
    | [.int k' m], h =>
      simp only at h
      split at h
      · rename_i hk
        obtain ⟨rfl, hw⟩ := hk
        exact ⟨m, rfl, hw⟩
      · cases h
theorem opens_bool {t : TypeId} (ht : P.underlying t = some .bool) (hc : P.cellsOf t = 1) : Opens P t Kd.bool (fun _ => True) := by
  refine ⟨hc, fun H enc w fuel cs x h => ?_⟩
  cases fuel with
  | zero => simp [DataW.trod] at h
  | succ n =>
    unfold DataW.trod at h
    rw [ht] at h
    match cs, h with
    | [.bool b], h => exact ⟨b, rfl, trivial⟩
theorem opens_string {t : TypeId} (ht : P.underlying t = some .string) (hc : P.cellsOf t = 1) : Opens P t Kd.string (fun s => s.size ≤ maxLen) := by
  refine ⟨hc, fun H enc w fuel cs x h => ?_⟩
  cases fuel with
  | zero => simp [DataW.trod] at h
  | succ n =>
    unfold DataW.trod at h
    rw [ht] at h
    match cs, h with
    | [.string s], h =>
      simp only at h
      split at h
      · rename_i hk; exact ⟨s, rfl, hk⟩
      · cases h
theorem opens_slice {α : Type} {t e : TypeId} {d : Kd α} {G : α → Prop} (ht : P.underlying t = some (.slice e)) (hc : P.cellsOf t = 1) (he : Opens P e d G) : Opens P t (Kd.slice e d) (WfRow G) := by
  refine ⟨hc, fun H enc w fuel cs x h => ?_⟩
  rcases open_slice ht h with ⟨rfl, _⟩ | ⟨a, len, cap, m, n, D, Pl, rfl, _, hl, hm, hmm, _, hi⟩
  · exact ⟨[], ⟨none, 0, rfl, Nat.le_refl _, Kd.C_nil d w⟩, by unfold maxLen; simp, fun x hx => by cases hx⟩
  · simp only [if_true] at hmm
    subst hmm
    have key : ∀ i, i < len → ∃ v : α, (∃ c, w.cells? 0 (a.add (i * P.cellsOf e)) (P.cellsOf e) = some c ∧ d.K w v c) ∧ G v := fun i h => by
      obtain ⟨c, h1, h2⟩ := hi i (by omega)
      obtain ⟨v, hv, hg⟩ := he.2 H enc w n c _ h2
      exact ⟨v, ⟨c, h1, hv⟩, hg⟩
    by_cases h0 : len = 0
    · subst h0
      exact ⟨[], ⟨some a, m, rfl, Nat.zero_le _, rfl, by simp, fun h => absurd h (Nat.lt_irrefl 0)⟩, by unfold maxLen; simp, fun x hx => by cases hx⟩
    · obtain ⟨v0, _⟩ := key 0 (by omega)
      have key2 : ∀ i, ∃ v : α, i < len → (∃ c, w.cells? 0 (a.add (i * P.cellsOf e)) (P.cellsOf e) = some c ∧ d.K w v c) ∧ G v := fun i => by
        by_cases h : i < len
        · obtain ⟨v, hv⟩ := key i h; exact ⟨v, fun _ => hv⟩
        · exact ⟨v0, fun h' => absurd h' h⟩
      have hch := fun i => Classical.choose_spec (key2 i)
      obtain ⟨f, hf⟩ : ∃ f : Nat → α, ∀ i, i < len → (∃ c, w.cells? 0 (a.add (i * P.cellsOf e)) (P.cellsOf e) = some c ∧ d.K w (f i) c) ∧ G (f i) := ⟨_, hch⟩
      have hlen : ((List.range len).map f).length = len := by simp
      refine ⟨(List.range len).map f, ⟨some a, m, by rw [hlen], by rw [hlen]; exact hl, rfl, ?_, fun _ => ⟨a, rfl, fun j p hj => ?_⟩⟩, ?_, fun x hx => ?_⟩
      · rw [hlen]; unfold maxLen at hm; omega
      · have hjl : j < len := by
          have := (List.getElem?_eq_some_iff.1 hj).1
          rwa [hlen] at this
        obtain ⟨⟨c, h1, h2⟩, _⟩ := hf j hjl
        have hp : p = f j := by
          rw [List.getElem?_map, List.getElem?_range hjl] at hj
          exact (Option.some.inj hj).symm
        obtain ⟨_, hcl, hat⟩ := World.cells?_some h1
        rw [hp]
        refine ⟨c, d.K_len h2, h2, fun i u hu => ?_⟩
        have hil : i < P.cellsOf e := by have := (List.getElem?_eq_some_iff.1 hu).1; omega
        rw [← he.1, ← Go.Deep.add_add, hat i hil, hu]
      · rw [hlen]; omega
      · simp only [List.mem_map, List.mem_range] at hx
        obtain ⟨i, h1, rfl⟩ := hx
        exact (hf i h1).2

/-- The fields of a struct from a cell on. -/
def OpensFs (P : Program) : List Field → Nat → {α : Type} → Kd α → (α → Prop) → Prop := fun fs off α d G =>
  ∀ (H : Type) (enc : TypeId × Value → H) (w : World) (fuel : Nat) (cs : List Value), cs.length = off + d.sz →
    (∀ f ∈ fs, ∃ x : DataW H × List MemPlace, DataW.trod enc P w 0 (fun _ => true) true fuel f.type ((cs.drop f.offset).take (P.cellsOf f.type)) = some x) → ∃ v : α, d.K w v (cs.drop off) ∧ G v
theorem fs_one {α : Type} {f : Field} {off : Nat} {d : Kd α} {G : α → Prop} (ho : f.offset = off) (h : Opens P f.type d G) : OpensFs P [f] off d G := by
  intro H enc w fuel cs hl hf
  obtain ⟨x, hx⟩ := hf f (by simp)
  rw [ho, h.1, List.take_of_length_le (by rw [List.length_drop]; omega)] at hx
  exact h.2 H enc w fuel _ x hx
theorem fs_cons {α β : Type} {f : Field} {fs : List Field} {off : Nat} {a : Kd α} {b : Kd β} {Ga : α → Prop} {Gb : β → Prop} (ho : f.offset = off) (h : Opens P f.type a Ga) (hr : OpensFs P fs (off + a.sz) b Gb) :
    OpensFs P (f :: fs) off (Kd.pair a b) (fun p => Ga p.1 ∧ Gb p.2) := by
  intro H enc w fuel cs hl hf
  have hl' : cs.length = off + (a.sz + b.sz) := hl
  obtain ⟨x, hx⟩ := hf f (by simp)
  obtain ⟨v, hv, hg⟩ := h.2 H enc w fuel _ x hx
  obtain ⟨u, hu, hg2⟩ := hr H enc w fuel cs (by omega) (fun g hg => hf g (by simp [hg]))
  rw [ho, h.1] at hv
  refine ⟨(v, u), ⟨_, _, ?_, hv, hu⟩, hg, hg2⟩
  rw [← List.drop_drop, List.take_append_drop]
theorem opens_struct {α β : Type} {t : TypeId} {fs : Array Field} {d : Kd α} {G : α → Prop} (f : β → α) (g : α → β) (hfg : ∀ a, f (g a) = a) (ht : P.underlying t = some (.struct fs)) (hc : P.cellsOf t = d.sz) (h : OpensFs P fs.toList 0 d G) :
    Opens P t (Kd.iso d f) (fun b => G (f b)) := by
  refine ⟨hc, fun H enc w fuel cs x hx => ?_⟩
  obtain ⟨xs, n, rfl, _, hl, hxl, hget⟩ := DataW.trod_struct ht hx
  obtain ⟨v, hv, hg⟩ := h H enc w n cs (by rw [hl, hc]; omega) (fun z hz => by
    obtain ⟨i, hi, rfl⟩ := List.getElem_of_mem hz
    have hi' : i < fs.size := by simpa using hi
    have e := hget i fs[i] (Array.getElem?_eq_getElem hi')
    have e2 : fs.toList[i] = fs[i] := by simp
    rw [e2, e]
    exact ⟨_, List.getElem?_eq_getElem (by omega)⟩)
  refine ⟨g v, ?_, by show G (f (g v)); rw [hfg]; exact hg⟩
  show d.K w (f (g v)) cs
  rw [hfg]; exact hv

/-- An argument: its value's cells. -/
theorem opens_arg {α : Type} {t : TypeId} {d : Kd α} {G : α → Prop} (h : Opens P t d G) {H : Type} {enc : TypeId × Value → H} {w : World} {v : Value} {x : DataW H} {p : List MemPlace} (hv : DataW.Trod enc P w 0 (fun _ => true) true t v x p) :
    ∃ a : α, d.K w a v.cells.toList ∧ G a := by
  obtain ⟨fuel, hf⟩ := hv
  exact h.2 H enc w fuel _ _ hf
end Open
end Go.Proofs.YtdgdhmglcpkkiaaDoor
