/- Whatever the instance, if it is no longer than the bound: a normal form is its own, and has no fault that the instance has not. -/
import Derived.Test.YtfnnngoandpgkaaPxEntrepotlaw08CanonNormal
import Derived.Test.YtfnnngoandpgkaaGCanonN
namespace Go.Proofs.Ytfnnngoandpgkaa.Pure
open Go.RowKit Go.Proofs.Ytfnnngoandpgkaa.P Go.Proofs.YtfnnngoandpgkaaW.PrintWords Go.Proofs.YtfnnngoandpgkaaW.PrintLast CanonN
open CanonNorm (normGo div10)

theorem opt_mono {b b' : Bool} (f : F1) (h : b = true → b' = true) : (CanonWalk.opt b' f).Sublist (CanonWalk.opt b f) := by
  unfold CanonWalk.opt
  cases b with
  | true => rw [h rfl]; exact List.Sublist.refl _
  | false => cases b' <;> simp
theorem tdiv_in {x : Int} (h1 : -100000000 ≤ x) (h2 : x ≤ 100000000) : -100000000 ≤ wrap64 (Int.tdiv x 10) ∧ wrap64 (Int.tdiv x 10) ≤ 100000000 := by
  have h : -100000000 ≤ Int.tdiv x 10 ∧ Int.tdiv x 10 ≤ 100000000 := by
    rcases Int.le_total 0 x with h0 | h0
    · rw [Int.tdiv_eq_ediv_of_nonneg h0]; omega
    · have e0 : Int.tdiv x 10 = -(Int.tdiv (-x) 10) := by
        have := Int.neg_tdiv (a := -x) (b := 10)
        rwa [Int.neg_neg] at this
      have e : Int.tdiv x 10 = -((-x) / 10) := by rw [e0, Int.tdiv_eq_ediv_of_nonneg (a := -x) (by omega)]
      rw [e]; omega
  rw [show wrap64 (Int.tdiv x 10) = Int.tdiv x 10 by unfold wrap64; omega]; exact h
theorem sig_div {x : Int} (h : CanonWalk.sigB x = true) : CanonWalk.sigB (wrap64 (Int.tdiv x 10)) = true := by
  unfold CanonWalk.sigB at h ⊢
  have := of_decide_eq_true h
  exact decide_eq_true (tdiv_in this.1 this.2)
theorem bv_zero {a : Int} (h1 : -100000000 ≤ a) (h2 : a ≤ 100000000) (e : BitVec.ofInt 64 a = 0#64) : a = 0 := by
  have := congrArg BitVec.toNat e
  rw [BitVec.toNat_ofInt] at this
  simp at this
  omega
theorem orz_zero {a b : Int} (ha : CanonWalk.sigB a = true) (hb : CanonWalk.sigB b = true) (h : CanonWalk.orz a b = true) : a = 0 ∧ b = 0 := by
  unfold CanonWalk.sigB at ha hb
  have ha := of_decide_eq_true ha
  have hb := of_decide_eq_true hb
  unfold CanonWalk.orz bits at h
  simp only at h
  rw [show IntKind.i64.bits = 64 from rfl] at h
  have h := eq_of_beq h
  generalize hx : BitVec.ofInt 64 a ||| BitVec.ofInt 64 b = x at h
  have hlt := x.isLt
  rw [show IntKind.i64.wrap (x.toNat : Int) = wrap64 (x.toNat : Int) from (i64_w _)] at h
  have hz : x = 0#64 := by
    apply BitVec.eq_of_toNat_eq
    have : x.toNat = 0 := by unfold wrap64 at h; omega
    rw [this]; rfl
  rw [hz, BitVec.or_eq_zero_iff] at hx
  exact ⟨bv_zero ha.1 ha.2 hx.1, bv_zero hb.1 hb.2 hx.2⟩
theorem coord_mono (mt : Int) (d : N1) (h : CanonWalk.coordB mt d = true) : CanonWalk.coordB mt (div10 d) = true := by
  unfold CanonWalk.coordB at h ⊢
  simp only [Bool.and_eq_true, Bool.or_eq_true] at h ⊢
  obtain ⟨⟨h0, h1⟩, h2⟩ := h
  refine ⟨⟨sig_div h0, sig_div h1⟩, ?_⟩
  rcases h2 with h2 | h2
  · exact .inl h2
  · right
    obtain ⟨e0, e1⟩ := orz_zero h0 h1 h2
    unfold div10
    rw [e0, e1]
    show CanonWalk.orz (wrap64 (Int.tdiv 0 10)) (wrap64 (Int.tdiv 0 10)) = true
    decide +kernel
theorem rd_div {l : List N1} {i : Nat} (h : i < l.length) : rd_T46 (l.map div10) (i : Int) = div10 l[i] := by
  rw [rdN_at (by simpa using h)]; simp
theorem mate_div (kd : Int) {l : List N1} (i : Int) (d : N1) : CanonWalk.mateB kd (l.map div10) i (div10 d) = CanonWalk.mateB kd l i d := by
  unfold CanonWalk.mateB
  rw [List.length_map]
  rw [show (div10 d).f6 = d.f6 from rfl]
  by_cases h : kd ≠ 4 ∨ i = 0
  · rw [if_pos h, if_pos h]
  · rw [if_neg h, if_neg h]
    by_cases h1 : 1 ≤ d.f6 ∧ d.f6 ≤ (l.length : Int) - 1 ∧ d.f6 ≠ i
    · obtain ⟨m, hm⟩ : ∃ m : Nat, d.f6 = (m : Int) := ⟨d.f6.toNat, by omega⟩
      have hml : m < l.length := by omega
      rw [if_pos h1, if_pos h1, hm, rd_div hml, rdN_at hml]
      simp only [CanonWalk.pairB, div10]
    · rw [if_neg h1, if_neg h1]
theorem node_div (kd mt : Int) {l : List N1} {i : Nat} (h : i < l.length) : (CanonWalk.nodeOf kd mt (l.map div10) i).Sublist (CanonWalk.nodeOf kd mt l i) := by
  unfold CanonWalk.nodeOf
  rw [rd_div h, rdN_at h, mate_div]
  exact ((((opt_mono _ (coord_mono mt _)).append (opt_mono _ id)).append (opt_mono _ id)).append (opt_mono _ id)).append (opt_mono _ id)
theorem nodes_div (kd mt : Int) {l : List N1} : ∀ n : Nat, n ≤ l.length → ((List.range n).flatMap (CanonWalk.nodeOf kd mt (l.map div10))).Sublist ((List.range n).flatMap (CanonWalk.nodeOf kd mt l)) := by
  intro n
  induction n with
  | zero => intro _; rw [List.range_zero, List.flatMap_nil]; exact List.nil_sublist _
  | succ n ih =>
    intro h
    rw [List.range_succ, List.flatMap_append, List.flatMap_append]
    simp only [List.flatMap_cons, List.flatMap_nil, List.append_nil]
    exact (ih (by omega)).append (node_div kd mt (by omega))
theorem scale_mono (mt : Int) {sc : Int} (h : CanonNorm.okScale sc = true) : CanonWalk.scaleB mt sc = true → CanonWalk.scaleB mt (sc - 1) = true := by
  intro h1
  unfold CanonWalk.scaleB at h1 ⊢
  have hs := of_decide_eq_true h
  rw [Bool.and_eq_true, Bool.or_eq_true] at h1 ⊢
  have e1 := of_decide_eq_true h1.1
  refine ⟨decide_eq_true (by omega), ?_⟩
  rcases h1.2 with h2 | h2
  · exact .inl h2
  · have := of_decide_eq_true h2; omega
theorem step_sub (nm : ByteArray) (kd mt cp fl : Int) {sc : Int} {l : List N1} (mx : List Int) (h : CanonNorm.okScale sc = true) : (CanonWalk.faultsOf nm kd mt (sc - 1) cp fl (l.map div10) mx).Sublist (CanonWalk.faultsOf nm kd mt sc cp fl l mx) := by
  have hh : (CanonWalk.headOf nm kd mt (sc - 1) cp fl).Sublist (CanonWalk.headOf nm kd mt sc cp fl) := by
    unfold CanonWalk.headOf
    exact ((((List.Sublist.refl _).append (opt_mono _ (scale_mono mt h))).append (List.Sublist.refl _)).append (List.Sublist.refl _))
  unfold CanonWalk.faultsOf
  rw [List.length_map]
  by_cases c : 1 ≤ l.length ∧ l.length ≤ 400
  · rw [if_pos c, if_pos c]
    exact (hh.append (List.Sublist.refl _)).append (nodes_div kd mt _ (Nat.le_refl _))
  · rw [if_neg c, if_neg c]
    exact hh.append (List.Sublist.refl _)
/-- What the normal form's scale and nodes are. -/
theorem norm_tells (nm : ByteArray) (kd mt cp fl : Int) (mx : List Int) : ∀ (k : Nat) (sc : Int) (l : List N1), (1 ≤ sc → sc ≤ 6 → sc ≤ k) →
    (CanonWalk.faultsOf nm kd mt (normGo k sc l).1 cp fl (normGo k sc l).2 mx).Sublist (CanonWalk.faultsOf nm kd mt sc cp fl l mx) ∧ (normGo k sc l).1 ≤ sc ∧ (normGo k sc l).2.length = l.length ∧
      ¬ (CanonNorm.okScale (normGo k sc l).1 = true ∧ (normGo k sc l).2.any NodeFind.oddB = false) := by
  intro k
  induction k with
  | zero =>
    intro sc l hk
    refine ⟨List.Sublist.refl _, Int.le_refl _, rfl, fun h => ?_⟩
    have := of_decide_eq_true (show decide (1 ≤ sc ∧ sc ≤ 6) = true from h.1)
    have := hk this.1 this.2
    omega
  | succ k ih =>
    intro sc l hk
    by_cases c : CanonNorm.okScale sc = true ∧ l.any NodeFind.oddB = false
    · rw [show normGo (k + 1) sc l = normGo k (sc - 1) (l.map div10) from if_pos c]
      obtain ⟨h1, h2, h3, h4⟩ := ih (sc - 1) (l.map div10) (fun a b => by have := hk (by omega) (by have := of_decide_eq_true (show decide (1 ≤ sc ∧ sc ≤ 6) = true from c.1); omega); omega)
      exact ⟨h1.trans (step_sub nm kd mt cp fl mx c.1), by omega, by rw [h3, List.length_map], h4⟩
    · rw [show normGo (k + 1) sc l = (sc, l) from if_neg c]
      exact ⟨List.Sublist.refl _, Int.le_refl _, rfl, c⟩
theorem sub_tail {a b : F1} {r t : List F1} (h : (a :: r).Sublist (b :: t)) (hne : b ≠ a) : (a :: r).Sublist t := by
  cases h with
  | cons _ h => exact h
  | cons_cons _ h => exact absurd rfl hne
section
variable (nm : ByteArray) (kd mt sc cp fl : Int) (ns : List N1) (mx : List Int) (sc' : Int) (ns' : List N1)
theorem greedy {l m : List F1} (hl : l.length ≤ 65536) (hm : m.length ≤ 65536) (h1 : sc' ≤ sc) (h2 : ns'.length = ns.length) (d : Nat) : ∀ i k : Nat, i + d = m.length → (m.drop i).Sublist (l.drop k) → k ≤ l.length →
    Ev (fun q => entrepotlaw08_CanonNormal.l0 q l m (k : Int) (i : Int) nm kd mt sc cp fl ns mx nm kd mt sc' cp fl ns' mx) true := by
  induction d with
  | zero =>
    intro i k hi hs hk
    exact Ev.step (fun _ => entrepotlaw08_CanonNormal.l0.eq_2 ..) (Ev.neg (by omega) (Ev.pos h1 (Ev.this (by rw [h2]; simp))))
  | succ d ih =>
    intro i k hi hs hk
    have hlt : i < m.length := by omega
    refine Ev.step (fun _ => entrepotlaw08_CanonNormal.l0.eq_2 ..) (Ev.pos (by omega) ?_)
    rw [List.drop_eq_getElem_cons hlt] at hs
    have inner : ∀ e k : Nat, k + e = l.length → (m[i] :: m.drop (i + 1)).Sublist (l.drop k) → Ev (fun q => entrepotlaw08_CanonNormal.l1 q l m (k : Int) (i : Int) nm kd mt sc cp fl ns mx nm kd mt sc' cp fl ns' mx) true := by
      intro e
      induction e with
      | zero =>
        intro k hk hs
        have e0 : l.drop k = [] := List.drop_of_length_le (by omega)
        rw [e0] at hs
        cases hs
      | succ e ihe =>
        intro k hk hs
        have hkl : k < l.length := by omega
        refine Ev.step (fun _ => entrepotlaw08_CanonNormal.l1.eq_2 ..) (Ev.pos (by omega) (Ev.pos (by omega) (Ev.pos (by omega) (Ev.pos (by omega) ?_))))
        rw [rdF_at hkl, rdF_at hlt]
        by_cases he : l[k] = m[i]
        · refine Ev.neg (by rw [he]; simp) (Ev.neg (by omega) ?_)
          rw [wrap64_succ (by omega)]
          exact ih (i + 1) k (by omega) ((List.sublist_cons_self _ _).trans hs) (by omega)
        · refine Ev.pos ?_ ?_
          · cases h0 : l[k].f0 == m[i].f0 with
            | false => rfl
            | true =>
              cases h1 : l[k].f1 == m[i].f1 with
              | false => rfl
              | true =>
                exfalso; apply he
                have e0 := eq_of_beq h0
                have e1 := eq_of_beq h1
                generalize l[k] = a at *
                generalize m[i] = b at *
                obtain ⟨a0, a1⟩ := a
                obtain ⟨b0, b1⟩ := b
                simp only at e0 e1
                rw [e0, e1]
          · rw [wrap64_succ (by omega)]
            refine ihe (k + 1) (by omega) ?_
            rw [List.drop_eq_getElem_cons hkl] at hs
            exact sub_tail hs he
    exact inner (l.length - k) k (by omega) hs
end
theorem CanonNormal (nm : ByteArray) (kd mt sc cp fl : Int) (ns : List Open.Node) (mx : List Int) (_ : Open.InstGood nm kd mt sc cp fl ns mx) :
    ∃ k, entrepotlaw08_CanonNormal.f k nm kd mt sc cp fl ns mx = some true := by
  refine Ev.rounds ?_
  unfold entrepotlaw08_CanonNormal.f
  obtain ⟨b, hb, hl⟩ := long_tells nm kd mt sc cp fl ns mx
  refine Ev.bs hb ?_
  cases b with
  | true => exact Ev.pos rfl (Ev.step (fun _ => entrepotlaw08_CanonNormal.j0.eq_2 ..) (Ev.pos rfl (Ev.bs shown_true (Ev.now _))))
  | false =>
    obtain ⟨hn, hm, hs⟩ := hl rfl
    obtain ⟨t1, t2, t3, t4⟩ := norm_tells nm kd mt cp fl mx 6 sc ns (fun _ h => by omega)
    have e2 : normGo 6 (normGo 6 sc ns).1 (normGo 6 sc ns).2 = normGo 6 sc ns := by rw [CanonNorm.normGo_end t4]
    have hnorm := norm_some nm kd mt sc cp fl ns mx hn hm
    have hnorm2 := norm_some nm kd mt (normGo 6 sc ns).1 cp fl (normGo 6 sc ns).2 mx (by omega) hm
    rw [e2] at hnorm2
    generalize normGo 6 sc ns = r at *
    have hsame := same_some nm kd mt r.1 cp fl r.2 mx (by omega) hm
    have hself := same_some nm kd mt sc cp fl ns mx hn hm
    have hw := well_some nm kd mt sc cp fl ns mx hs
    have hw2 := well_some nm kd mt r.1 cp fl r.2 mx hs
    refine Ev.neg (by simp) (Ev.bs shown_true (Ev.step (fun _ => entrepotlaw08_CanonNormal.j0.eq_2 ..) (Ev.neg (by simp) ?_)))
    refine Ev.bs hnorm (Ev.bs hnorm2 (Ev.bs hsame (Ev.pos rfl (Ev.bs hw ?_))))
    have J : Ev (fun k => entrepotlaw08_CanonNormal.j1 k false nm kd mt sc cp fl ns mx nm kd mt r.1 cp fl r.2 mx) true := by
      refine Ev.step (fun _ => entrepotlaw08_CanonNormal.j1.eq_2 ..) (Ev.neg (by simp) ?_)
      refine Ev.bs (check_some nm kd mt sc cp fl ns mx hs) (Ev.bs (check_some nm kd mt r.1 cp fl r.2 mx hs) ?_)
      exact greedy nm kd mt sc cp fl ns mx r.1 r.2 (faults_le nm kd mt sc cp fl ns mx) (faults_le nm kd mt r.1 cp fl r.2 mx) t2 t3 (CanonWalk.faultsOf nm kd mt r.1 cp fl r.2 mx).length 0 0 (by omega) (by simpa using t1) (by omega)
    by_cases c : (CanonWalk.faultsOf nm kd mt sc cp fl ns mx).length = 0
    · have c2 : (CanonWalk.faultsOf nm kd mt r.1 cp fl r.2 mx).length = 0 := by have := t1.length_le; omega
      exact Ev.pos (beq_iff_eq.2 (by omega)) (Ev.bs hw2 (Ev.pos (beq_iff_eq.2 (by omega)) (Ev.bs hself J)))
    · exact Ev.neg (by rw [beq_iff_eq]; omega) (Ev.bs hself J)
end Go.Proofs.Ytfnnngoandpgkaa.Pure
