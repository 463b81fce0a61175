/- Whatever the instance, if it is no longer than the bound: faults of the whole stand ahead of those of nodes; these rise by their nodes, and of one node by their fields. -/
import Derived.Test.YtfnnngoandpgkaaPxEntrepotlaw08CanonOrder
import Derived.Test.YtfnnngoandpgkaaMgf
namespace Go.Proofs.Ytfnnngoandpgkaa.Pure
open Go.RowKit Go.Proofs.Ytfnnngoandpgkaa.P Go.Proofs.YtfnnngoandpgkaaW.PrintWords Go.Proofs.YtfnnngoandpgkaaW.PrintLast CanonL

/-- What may follow p. -/
def Next (p f : F1) : Prop := (p.f0 ≤ 8 ∨ (8 < f.f0 ∧ p.f1 ≤ f.f1)) ∧ (p.f1 = f.f1 ∨ f.f0 ≤ 8 → p.f0 < f.f0)
def Fine (n : Nat) (f : F1) : Prop := 1 ≤ f.f0 ∧ f.f0 ≤ 13 ∧ (f.f0 ≤ 8 → f.f1 = 0) ∧ 0 ≤ f.f1 ∧ (8 < f.f0 → f.f1 < n)
theorem opt_sub (b : Bool) (f : F1) : (CanonWalk.opt b f).Sublist [f] := by unfold CanonWalk.opt; cases b <;> simp
def head6 : List F1 := [] ++ [⟨1, 0⟩] ++ [⟨2, 0⟩] ++ [⟨3, 0⟩] ++ [⟨4, 0⟩] ++ [⟨5, 0⟩] ++ [⟨6, 0⟩]
def node5 (i : Nat) : List F1 := [⟨9, i⟩] ++ [⟨10, i⟩] ++ [⟨11, i⟩] ++ [⟨12, i⟩] ++ [⟨13, i⟩]
theorem head_sub (nm : ByteArray) (kd mt sc cp fl : Int) : (CanonWalk.headOf nm kd mt sc cp fl).Sublist head6 := by
  unfold CanonWalk.headOf head6
  repeat (first | exact List.Sublist.refl _ | refine List.Sublist.append ?_ (opt_sub _ _))
theorem node_sub (kd mt : Int) (ns : List N1) (i : Nat) : (CanonWalk.nodeOf kd mt ns i).Sublist (node5 i) := by
  unfold CanonWalk.nodeOf node5
  repeat (first | exact opt_sub _ _ | refine List.Sublist.append ?_ (opt_sub _ _))
theorem nodes_sub (kd mt : Int) (ns : List N1) : ∀ n : Nat, ((List.range n).flatMap (CanonWalk.nodeOf kd mt ns)).Sublist ((List.range n).flatMap node5) := by
  intro n
  induction n with
  | zero => exact List.Sublist.refl _
  | succ n ih =>
    rw [List.range_succ, List.flatMap_append, List.flatMap_append]
    simp only [List.flatMap_cons, List.flatMap_nil, List.append_nil]
    exact ih.append (node_sub kd mt ns n)
/-- All faults that there may be. -/
def full (n : Nat) : List F1 := head6 ++ [⟨8, 0⟩] ++ (List.range n).flatMap node5
theorem faults_sub (nm : ByteArray) (kd mt sc cp fl : Int) (ns : List N1) (mx : List Int) : (CanonWalk.faultsOf nm kd mt sc cp fl ns mx).Sublist (full ns.length) ∨ (CanonWalk.faultsOf nm kd mt sc cp fl ns mx).Sublist (head6 ++ [⟨7, 0⟩]) := by
  unfold CanonWalk.faultsOf
  by_cases h : 1 ≤ ns.length ∧ ns.length ≤ 400
  · rw [if_pos h]
    exact .inl (((head_sub ..).append (opt_sub _ _)).append (nodes_sub kd mt ns _))
  · rw [if_neg h]
    exact .inr ((head_sub ..).append (List.Sublist.refl _))
theorem node5_pair (i : Nat) : (node5 i).Pairwise Next := by
  unfold node5 Next
  simp
theorem nodes_mem {n : Nat} {f : F1} (h : f ∈ (List.range n).flatMap node5) : ∃ i < n, f.f1 = (i : Int) ∧ 9 ≤ f.f0 ∧ f.f0 ≤ 13 := by
  obtain ⟨i, hi, hf⟩ := List.mem_flatMap.1 h
  refine ⟨i, List.mem_range.1 hi, ?_⟩
  unfold node5 at hf
  simp at hf
  rcases hf with rfl | rfl | rfl | rfl | rfl <;> simp
theorem nodes_pair : ∀ n : Nat, ((List.range n).flatMap node5).Pairwise Next := by
  intro n
  induction n with
  | zero => exact List.Pairwise.nil
  | succ n ih =>
    rw [List.range_succ, List.flatMap_append]
    simp only [List.flatMap_cons, List.flatMap_nil, List.append_nil]
    refine List.pairwise_append.2 ⟨ih, node5_pair n, fun p hp f hf => ?_⟩
    obtain ⟨i, hi, h1, h2, h3⟩ := nodes_mem hp
    have hf2 : f.f1 = (n : Int) ∧ 9 ≤ f.f0 := by
      unfold node5 at hf
      simp at hf
      rcases hf with rfl | rfl | rfl | rfl | rfl <;> simp
    exact ⟨.inr ⟨by omega, by omega⟩, fun h => by omega⟩
theorem head_mem {f : F1} (h : f ∈ head6) : f.f1 = 0 ∧ 1 ≤ f.f0 ∧ f.f0 ≤ 6 := by
  unfold head6 at h
  simp at h
  rcases h with rfl | rfl | rfl | rfl | rfl | rfl <;> simp
theorem head_pair : head6.Pairwise Next := by
  unfold head6 Next
  simp
theorem full_pair (n : Nat) : (full n).Pairwise Next := by
  unfold full
  refine List.pairwise_append.2 ⟨List.pairwise_append.2 ⟨head_pair, List.pairwise_singleton .., fun p hp f hf => ?_⟩, nodes_pair n, fun p hp f hf => ?_⟩
  · have := head_mem hp
    simp at hf; subst hf
    exact ⟨.inl (by omega), fun _ => by show p.f0 < 8; omega⟩
  · obtain ⟨i, hi, h1, h2, h3⟩ := nodes_mem hf
    have hp2 : p.f0 ≤ 8 := by
      rcases List.mem_append.1 hp with h | h
      · have := head_mem h; omega
      · simp at h; subst h; exact Int.le_refl _
    exact ⟨.inl hp2, fun _ => by omega⟩
theorem bad_pair : (head6 ++ [(⟨7, 0⟩ : F1)]).Pairwise Next := by
  refine List.pairwise_append.2 ⟨head_pair, List.pairwise_singleton .., fun p hp f hf => ?_⟩
  have := head_mem hp
  simp at hf; subst hf
  exact ⟨.inl (by omega), fun _ => by show p.f0 < 7; omega⟩
theorem order (nm : ByteArray) (kd mt sc cp fl : Int) (ns : List N1) (mx : List Int) : (CanonWalk.faultsOf nm kd mt sc cp fl ns mx).Pairwise Next ∧ ∀ f ∈ CanonWalk.faultsOf nm kd mt sc cp fl ns mx, Fine ns.length f := by
  rcases faults_sub nm kd mt sc cp fl ns mx with h | h
  · refine ⟨(full_pair _).sublist h, fun f hf => ?_⟩
    have := h.subset hf
    unfold full at this
    rcases List.mem_append.1 this with h1 | h1
    · rcases List.mem_append.1 h1 with h2 | h2
      · have := head_mem h2
        exact ⟨by omega, by omega, fun _ => this.1, by omega, fun _ => by omega⟩
      · simp at h2; subst h2
        exact ⟨by simp, by simp, fun _ => rfl, by simp, fun h => by simp at h⟩
    · obtain ⟨i, hi, e1, e2, e3⟩ := nodes_mem h1
      exact ⟨by omega, by omega, fun _ => by omega, by omega, fun _ => by omega⟩
  · refine ⟨bad_pair.sublist h, fun f hf => ?_⟩
    rcases List.mem_append.1 (h.subset hf) with h2 | h2
    · have := head_mem h2
      exact ⟨by omega, by omega, fun _ => this.1, by omega, fun _ => by omega⟩
    · simp at h2; subst h2
      exact ⟨by simp, by simp, fun _ => rfl, by simp, fun h => by simp at h⟩
variable (nm : ByteArray) (kd mt sc cp fl : Int) (ns : List N1) (mx : List Int)
theorem order_from {l : List F1} (hl : l.length ≤ 65536) (hp : l.Pairwise Next) (hf : ∀ f ∈ l, Fine ns.length f) (d : Nat) : ∀ i : Nat, i + d = l.length → Ev (fun k => entrepotlaw08_CanonOrder.l0 k l (i : Int) nm kd mt sc cp fl ns mx) true := by
  induction d with
  | zero =>
    intro i hi
    exact Ev.step (fun _ => entrepotlaw08_CanonOrder.l0.eq_2 ..) (Ev.neg (by omega) (Ev.now _))
  | succ d ih =>
    intro i hi
    have hlt : i < l.length := by omega
    have next := ih (i + 1) (by omega)
    have hF := hf _ (List.getElem_mem hlt)
    have hN : ∀ h : i ≠ 0, Next (l[i - 1]'(by omega)) l[i] := fun h => (List.pairwise_iff_getElem.1 hp) (i - 1) i (by omega) hlt (by omega)
    have J : Ev (fun k => entrepotlaw08_CanonOrder.j2 k l (i : Int) (decide (l[i].f0 ≤ 8)) false nm kd mt sc cp fl ns mx l[i].f0 l[i].f1) true := by
      refine Ev.step (fun _ => entrepotlaw08_CanonOrder.j2.eq_2 ..) (Ev.neg (by simp) ?_)
      rw [wrap64_succ (by omega)]
      by_cases h0 : i = 0
      · exact Ev.pos (by omega) next
      · have hn := hN h0
        refine Ev.neg (by omega) ?_
        rw [show wrap64 ((i : Int) - 1) = ((i - 1 : Nat) : Int) by unfold wrap64; omega, rdF_at (show i - 1 < l.length by omega)]
        refine Ev.pos (by omega) (Ev.pos (by omega) ?_)
        generalize l[i - 1]'(by omega) = p at *
        generalize l[i] = f at *
        obtain ⟨n1, n2⟩ := hn
        by_cases c : p.f0 > 8
        · have c2 : 8 < f.f0 ∧ p.f1 ≤ f.f1 := by omega
          refine Ev.pos c (Ev.neg (by simp; omega) (Ev.neg (by omega) ?_))
          by_cases e : p.f1 = f.f1
          · exact Ev.pos e (Ev.neg (by have := n2 (.inl e); omega) next)
          · exact Ev.neg e next
        · refine Ev.neg c ?_
          by_cases e : p.f1 = f.f1
          · exact Ev.pos e (Ev.neg (by have := n2 (.inl e); omega) next)
          · refine Ev.neg e ?_
            by_cases g : f.f0 ≤ 8
            · exact Ev.pos (decide_eq_true g) (Ev.neg (by have := n2 (.inr g); omega) next)
            · exact Ev.neg (by simpa using g) next
    obtain ⟨g1, g2, g3, g4, g5⟩ := hF
    refine Ev.step (fun _ => entrepotlaw08_CanonOrder.l0.eq_2 ..) (Ev.pos (by omega) (Ev.pos (by omega) ?_))
    rw [rdF_at hlt]
    generalize l[i] = f at *
    refine Ev.neg (by omega) (Ev.neg (by omega) ?_)
    by_cases c : f.f0 ≤ 8
    · exact Ev.pos c (Ev.pos (g3 c) (Ev.neg (by omega) (Ev.pos c J)))
    · refine Ev.neg c (Ev.neg (by omega) (Ev.neg c ?_))
      rw [decide_eq_false (show ¬ f.f1 ≥ (ns.length : Int) by have := g5 (by omega); omega)]
      exact J
theorem CanonOrder (nm : ByteArray) (kd mt sc cp fl : Int) (ns : List Open.Node) (mx : List Int) (hg : Open.InstGood nm kd mt sc cp fl ns mx) :
    ∃ k, entrepotlaw08_CanonOrder.f k nm kd mt sc cp fl ns mx = some true := by
  refine Ev.rounds ?_
  unfold entrepotlaw08_CanonOrder.f
  obtain ⟨b, hb, hl⟩ := long_tells nm kd mt sc cp fl ns mx
  refine Ev.bs hb ?_
  cases b with
  | true => exact Ev.pos rfl (Ev.step (fun _ => entrepotlaw08_CanonOrder.j0.eq_2 ..) (Ev.pos rfl (Ev.bs shown_true (Ev.now _))))
  | false =>
    obtain ⟨hn, hm, hs⟩ := hl rfl
    have hle := faultsOf_le nm kd mt sc cp fl mx (wide_of hg.nodes)
    obtain ⟨hp, hf⟩ := order nm kd mt sc cp fl ns mx
    refine Ev.neg (by simp) (Ev.bs shown_true (Ev.step (fun _ => entrepotlaw08_CanonOrder.j0.eq_2 ..) (Ev.neg (by simp) ?_)))
    refine Ev.bs (show canon_Check.f nm kd mt sc cp fl ns mx = some _ from by unfold canon_Check.f; exact if_pos (by omega)) ?_
    exact order_from nm kd mt sc cp fl ns mx hle hp hf (CanonWalk.faultsOf nm kd mt sc cp fl ns mx).length 0 (by omega)
end Go.Proofs.Ytfnnngoandpgkaa.Pure
