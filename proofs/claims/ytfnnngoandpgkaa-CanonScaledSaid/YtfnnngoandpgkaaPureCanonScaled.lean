/- Whatever the instance, if it is well-formed and no longer than the bound: told ten times as far in a scale of one more it has the same normal form. -/
import Derived.Test.YtfnnngoandpgkaaPxEntrepotlaw08CanonScaled
import Derived.Test.YtfnnngoandpgkaaMgf
import Derived.Test.YtfnnngoandpgkaaGCanonN
namespace Go.Proofs.Ytfnnngoandpgkaa.Pure
open Go.RowKit Go.Proofs.Ytfnnngoandpgkaa.P Go.Proofs.YtfnnngoandpgkaaW.PrintWords Go.Proofs.YtfnnngoandpgkaaW.PrintLast
open CanonNorm (normGo div10)
open CanonL (N1 N2 conv conv_at)
open CanonN (shown_true long_tells norm_some rdN_at wrap64_succ)

/-- What well-formed says of the scale, and of each node's place. -/
theorem well_says {nm : ByteArray} {kd mt sc cp fl : Int} {ns : List N1} {mx : List Int} (h : Ref08.wellB nm kd mt sc cp fl (ns.map conv) mx = true) : (0 ≤ sc ∧ sc ≤ 6) ∧ ∀ d ∈ ns, (-100000000 ≤ d.f0 ∧ d.f0 ≤ 100000000) ∧ (-100000000 ≤ d.f1 ∧ d.f1 ≤ 100000000) := by
  have h := of_decide_eq_true (show decide (Ref08.faultsOf nm kd mt sc cp fl (ns.map conv) mx = []) = true from h)
  have opt_true : ∀ {b : Bool} {f : Ref08.Fault}, Ref08.opt b f = [] → b = true := fun {b f} h => by cases b with | true => rfl | false => simp [Ref08.opt] at h
  unfold Ref08.faultsOf at h
  split at h
  · simp at h
  · rename_i hc
    have h1 := (List.append_eq_nil_iff.1 h).1
    have h2 := (List.append_eq_nil_iff.1 h).2
    have h3 := (List.append_eq_nil_iff.1 h1).1
    unfold Ref08.headOf at h3
    have h4 := opt_true (List.append_eq_nil_iff.1 (List.append_eq_nil_iff.1 (List.append_eq_nil_iff.1 h3).1).1).2
    have h5 := of_decide_eq_true (show decide (0 ≤ sc ∧ sc ≤ 6 ∧ (mt = 0 → sc = 0)) = true from h4)
    refine ⟨⟨h5.1, h5.2.1⟩, fun d hd => ?_⟩
    obtain ⟨i, hi, rfl⟩ := List.getElem_of_mem hd
    have h6 := List.flatMap_eq_nil_iff.1 h2 i (List.mem_range.2 (by simpa using hi))
    unfold Ref08.nodeOf at h6
    have h7 := opt_true (List.append_eq_nil_iff.1 (List.append_eq_nil_iff.1 (List.append_eq_nil_iff.1 (List.append_eq_nil_iff.1 h6).1).1).1).1
    rw [show Ref08.rdN (ns.map conv) (i : Int) = conv ns[i] from conv_at hi] at h7
    unfold Ref08.coordB at h7
    simp only [Bool.and_eq_true] at h7
    have a := of_decide_eq_true (show decide (-100000000 ≤ ns[i].f0 ∧ ns[i].f0 ≤ 100000000) = true from h7.1.1)
    have b := of_decide_eq_true (show decide (-100000000 ≤ ns[i].f1 ∧ ns[i].f1 ≤ 100000000) = true from h7.1.2)
    exact ⟨a, b⟩
def mul10 (d : N1) : N1 := ⟨wrap64 (10 * d.f0), wrap64 (10 * d.f1), d.f2, d.f3, d.f4, d.f5, d.f6⟩
def Near (d : N1) : Prop := (-100000000 ≤ d.f0 ∧ d.f0 ≤ 100000000) ∧ (-100000000 ≤ d.f1 ∧ d.f1 ≤ 100000000)
theorem ten {x : Int} (h1 : -100000000 ≤ x) (h2 : x ≤ 100000000) : wrap64 (10 * x) = 10 * x ∧ Int.tmod (10 * x) 10 = 0 ∧ wrap64 (Int.tdiv (10 * x) 10) = x := by
  have e : Int.tdiv (10 * x) 10 = x := by rw [Int.mul_comm]; exact Int.mul_tdiv_cancel x (by decide)
  refine ⟨by unfold wrap64; omega, Int.mul_tmod_right .., ?_⟩
  rw [e]; unfold wrap64; omega
theorem mul_odd {d : N1} (h : Near d) : NodeFind.oddB (mul10 d) = false := by
  obtain ⟨a1, a2, _⟩ := ten h.1.1 h.1.2
  obtain ⟨b1, b2, _⟩ := ten h.2.1 h.2.2
  unfold NodeFind.oddB mul10
  simp only
  rw [a1, b1, a2, b2]; rfl
theorem mul_div {d : N1} (h : Near d) : div10 (mul10 d) = d := by
  obtain ⟨a1, _, a3⟩ := ten h.1.1 h.1.2
  obtain ⟨b1, _, b3⟩ := ten h.2.1 h.2.2
  unfold div10 mul10
  simp only
  rw [a1, b1, a3, b3]
theorem fuel : ∀ (k : Nat) (sc : Int) (l : List N1), (1 ≤ sc → sc ≤ 6 → sc ≤ k) → normGo (k + 1) sc l = normGo k sc l := by
  intro k
  induction k with
  | zero =>
    intro sc l hk
    refine if_neg (fun h => ?_)
    have := of_decide_eq_true (show decide (1 ≤ sc ∧ sc ≤ 6) = true from h.1)
    have := hk this.1 this.2
    omega
  | succ k ih =>
    intro sc l hk
    by_cases c : CanonNorm.okScale sc = true ∧ l.any NodeFind.oddB = false
    · have := of_decide_eq_true (show decide (1 ≤ sc ∧ sc ≤ 6) = true from c.1)
      rw [show normGo (k + 1 + 1) sc l = normGo (k + 1) (sc - 1) (l.map div10) from if_pos c, show normGo (k + 1) sc l = normGo k (sc - 1) (l.map div10) from if_pos c]
      exact ih _ _ (fun a b => by have := hk (by omega) (by omega); omega)
    · rw [show normGo (k + 1 + 1) sc l = (sc, l) from if_neg c, show normGo (k + 1) sc l = (sc, l) from if_neg c]
theorem norm_mul {sc : Int} (h0 : 0 ≤ sc) (h6 : sc < 6) {l : List N1} (hl : ∀ d ∈ l, Near d) : normGo 6 (sc + 1) (l.map mul10) = normGo 6 sc l := by
  have h1 : CanonNorm.okScale (sc + 1) = true := decide_eq_true (by omega)
  have h2 : (l.map mul10).any NodeFind.oddB = false := by
    rw [List.any_map, List.any_eq_false]
    intro d hd
    simp [mul_odd (hl d hd)]
  have h3 : (l.map mul10).map div10 = l := by
    rw [List.map_map]
    exact (List.map_congr_left (fun d hd => mul_div (hl d hd))).trans (List.map_id' l)
  rw [show normGo 6 (sc + 1) (l.map mul10) = normGo 5 (sc + 1 - 1) ((l.map mul10).map div10) from if_pos ⟨h1, h2⟩, h3, show sc + 1 - 1 = sc by omega]
  exact (fuel 5 sc l (fun _ h => by omega)).symm
section
variable (nm : ByteArray) (kd mt sc cp fl : Int) {ns : List N1} (mx : List Int)
theorem scaled_end (hn : ns.length ≤ 420) (hm : mx.length ≤ 1000) (h0 : 0 ≤ sc) (h6 : sc < 6) (hl : ∀ d ∈ ns, Near d) :
    Ev (fun k => entrepotlaw08_CanonScaled.l0 k (ns.length : Int) nm kd mt sc cp fl ns mx nm kd mt (sc + 1) cp fl (ns.map mul10) mx) true := by
  refine Ev.step (fun _ => entrepotlaw08_CanonScaled.l0.eq_2 ..) (Ev.neg (by omega) ?_)
  refine Ev.bs (norm_some nm kd mt sc cp fl ns mx hn hm) (Ev.bs (norm_some nm kd mt (sc + 1) cp fl (ns.map mul10) mx (by simpa using hn) hm) ?_)
  rw [norm_mul h0 h6 hl]
  have hlen : ∀ (k : Nat) (s : Int) (l : List N1), (normGo k s l).2.length = l.length := by
    intro k
    induction k with
    | zero => intro s l; rfl
    | succ k ih =>
      intro s l
      by_cases c : CanonNorm.okScale s = true ∧ l.any NodeFind.oddB = false
      · rw [show normGo (k + 1) s l = normGo k (s - 1) (l.map div10) from if_pos c, ih, List.length_map]
      · rw [show normGo (k + 1) s l = (s, l) from if_neg c]
  refine Ev.bs (CanonN.same_some nm kd mt _ cp fl _ mx (by rw [hlen]; exact hn) hm) (Ev.pos rfl ?_)
  refine Ev.bs (show canon_Same.f nm kd mt sc cp fl ns mx nm kd mt (sc + 1) cp fl (ns.map mul10) mx = some false from ?_) (Ev.this rfl)
  unfold canon_Same.f
  rw [if_pos ⟨by omega, by omega⟩]
  have : CanonSame.five kd mt sc cp fl kd mt (sc + 1) cp fl = false := by
    unfold CanonSame.five
    rw [beq_eq_false_iff_ne.2 (show sc ≠ sc + 1 by omega)]; simp
  rw [this]; simp
theorem scaled_from (hn : ns.length ≤ 420) (hm : mx.length ≤ 1000) (h0 : 0 ≤ sc) (h6 : sc < 6) (hl : ∀ d ∈ ns, Near d) (d : Nat) : ∀ i : Nat, i + d = ns.length →
    Ev (fun k => entrepotlaw08_CanonScaled.l0 k (i : Int) nm kd mt sc cp fl ns mx nm kd mt (sc + 1) cp fl ((ns.take i).map mul10) mx) true := by
  induction d with
  | zero =>
    intro i hi
    obtain rfl : i = ns.length := by omega
    have := scaled_end nm kd mt sc cp fl mx hn hm h0 h6 hl
    rwa [List.take_of_length_le (Nat.le_refl _)]
  | succ d ih =>
    intro i hi
    have hlt : i < ns.length := by omega
    have next := ih (i + 1) (by omega)
    refine Ev.step (fun _ => entrepotlaw08_CanonScaled.l0.eq_2 ..) (Ev.pos (by omega) (Ev.pos (by omega) (Ev.pos (by simp; omega) ?_)))
    rw [rdN_at hlt, wrap64_succ (by omega)]
    rwa [List.take_succ_eq_append_getElem hlt, List.map_append] at next
end
theorem CanonScaled (nm : ByteArray) (kd mt sc cp fl : Int) (ns : List Open.Node) (mx : List Int) (_ : Open.InstGood nm kd mt sc cp fl ns mx) :
    ∃ k, entrepotlaw08_CanonScaled.f k nm kd mt sc cp fl ns mx = some true := by
  refine Ev.rounds ?_
  unfold entrepotlaw08_CanonScaled.f
  obtain ⟨b, hb, hl⟩ := long_tells nm kd mt sc cp fl ns mx
  refine Ev.bs hb ?_
  have S : Ev (fun k => entrepotlaw08_CanonScaled.j0 k true nm kd mt sc cp fl ns mx) true := Ev.step (fun _ => entrepotlaw08_CanonScaled.j0.eq_2 ..) (Ev.pos rfl (Ev.bs shown_true (Ev.now _)))
  cases b with
  | true => exact Ev.pos rfl S
  | false =>
    obtain ⟨hn, hm, hs⟩ := hl rfl
    refine Ev.neg (by simp) (Ev.bind (CanonL.its_ev nm kd mt sc cp fl mx (by omega)) (Ev.bind (Ref08.well_ev nm kd mt sc cp fl (ns.map conv) mx (by omega)) ?_))
    cases hw : Ref08.wellB nm kd mt sc cp fl (ns.map conv) mx with
    | false => exact Ev.neg (by simp) S
    | true =>
      refine Ev.pos rfl ?_
      obtain ⟨⟨h0, _⟩, hl⟩ := well_says hw
      by_cases c6 : sc ≥ 6
      · exact Ev.pos c6 S
      · refine Ev.neg c6 ?_
        by_cases cm : mt = 0
        · exact Ev.pos cm S
        · refine Ev.neg cm (Ev.bs shown_true (Ev.step (fun _ => entrepotlaw08_CanonScaled.j0.eq_2 ..) (Ev.neg (by simp) ?_)))
          rw [show wrap64 (sc + 1) = sc + 1 by unfold wrap64; omega]
          exact scaled_from nm kd mt sc cp fl mx hn hm h0 (by omega) hl ns.length 0 (by omega)
end Go.Proofs.Ytfnnngoandpgkaa.Pure
