/- Whatever the two instances, if they are no longer than the bound: the normal form, and whether the two are the same, are the reference's. -/
import Derived.Test.YtfnnngoandpgkaaPxEntrepotlaw08CanonNorms
import Derived.Test.YtfnnngoandpgkaaGIts8
import Derived.Test.YtfnnngoandpgkaaGCanonN
namespace Go.Proofs.Ytfnnngoandpgkaa.Pure
open Go.RowKit Go.Proofs.Ytfnnngoandpgkaa.P Go.Proofs.YtfnnngoandpgkaaW.PrintWords Go.Proofs.YtfnnngoandpgkaaW.PrintLast
open CanonNorm (normGo div10)
open CanonL (N1 N2 conv rdN2_at rd_at its_ev)
open CanonN (shown_true long_tells norm_some wrap64_succ)

def odd2 (d : N2) : Bool := Int.tmod d.f0 10 != 0 || Int.tmod d.f1 10 != 0
def div2 (d : N2) : N2 := ⟨wrap64 (Int.tdiv d.f0 10), wrap64 (Int.tdiv d.f1 10), d.f2, d.f3, d.f4, d.f5, d.f6⟩
theorem conv_div (d : N1) : conv (div10 d) = div2 (conv d) := rfl
theorem any_conv (l : List N1) : (l.map conv).any odd2 = l.any NodeFind.oddB := by rw [List.any_map]; rfl
def eq2 (a b : N2) : Bool := a.f0 == b.f0 && a.f1 == b.f1 && a.f2 == b.f2 && a.f3 == b.f3 && a.f4 == b.f4 && a.f5 == b.f5 && a.f6 == b.f6
theorem eq2_iff (a b : N2) : eq2 a b = true ↔ a = b := by
  obtain ⟨a0, a1, a2, a3, a4, a5, a6⟩ := a
  obtain ⟨b0, b1, b2, b3, b4, b5, b6⟩ := b
  simp [eq2, and_assoc]
theorem not2 (a b : N2) : (!(a.f0 == b.f0) || (!(a.f1 == b.f1) || (!(a.f2 == b.f2) || (!(a.f3 == b.f3) || (!(a.f4 == b.f4) || (!(a.f5 == b.f5) || (!(a.f6 == b.f6)))))))) = !(eq2 a b) := by
  unfold eq2
  simp only [Bool.not_and, Bool.or_assoc]
theorem conv_inj {a b : N1} (h : conv a = conv b) : a = b := by
  obtain ⟨a0, a1, a2, a3, a4, a5, a6⟩ := a
  obtain ⟨b0, b1, b2, b3, b4, b5, b6⟩ := b
  unfold conv at h
  injection h with h0 h1 h2 h3 h4 h5 h6
  simp only at h0 h1 h2 h3 h4 h5 h6
  subst h0; subst h1; subst h2; subst h3; subst h4; subst h5; subst h6
  rfl

/-! The reference's normal form. -/
section
variable (nm : ByteArray) (kd mt sc cp fl : Int) (ns : List N2) (mx : List Int)
abbrev Out (s : Int) (l : List N2) : ByteArray × Int × Int × Int × Int × Int × List N2 × List Int := (nm, kd, mt, s, cp, fl, l, mx)
theorem rd_mid (a b : List N2) (x : N2) {i : Nat} (h : a.length = i) : rd_T60 (a ++ x :: b) (i : Int) = x := by
  unfold rd_T60
  rw [Int.toNat_natCast, List.getD_eq_getElem?_getD, List.getElem?_append_right (by omega), h]; simp
theorem set_mid (a b : List N2) (x y : N2) {i : Nat} (h : a.length = i) : (a ++ x :: b).set ((i : Int)).toNat y = a ++ y :: b := by
  rw [Int.toNat_natCast, List.set_append_right _ _ (by omega), h]; simp
theorem div_from {l : List N2} (hl : l.length ≤ 65536) (R : ByteArray × Int × Int × Int × Int × Int × List N2 × List Int) (hR : Ev (fun k => entrepotref08_Norm.l0 k (l.map div2) nm kd mt (wrap64 (sc - 1)) cp fl ns mx) R) (d : Nat) : ∀ i : Nat, i + d = l.length →
    Ev (fun k => entrepotref08_Norm.l2 k ((l.take i).map div2 ++ l.drop i) (i : Int) nm kd mt sc cp fl ns mx) R := by
  induction d with
  | zero =>
    intro i hi
    refine Ev.step (fun _ => entrepotref08_Norm.l2.eq_2 ..) (Ev.neg (by simp; omega) ?_)
    rwa [List.take_of_length_le (by omega), List.drop_of_length_le (by omega), List.append_nil]
  | succ d ih =>
    intro i hi
    have hlt : i < l.length := by omega
    have next := ih (i + 1) (by omega)
    rw [List.take_succ_eq_append_getElem hlt, List.map_append, List.append_assoc] at next
    have hl : ((l.take i).map div2).length = i := by simp; omega
    rw [List.drop_eq_getElem_cons hlt]
    generalize (l.take i).map div2 = a at *
    generalize l.drop (i + 1) = b at *
    generalize l[i] = x at *
    refine Ev.step (fun _ => entrepotref08_Norm.l2.eq_2 ..) (Ev.pos (by rw [List.length_append, List.length_cons]; omega) (Ev.pos (by omega) (Ev.bs rfl ?_)))
    rw [wrap64_succ (by omega), rd_mid a b x hl, set_mid a b x _ hl, rd_mid a b _ hl, set_mid a b _ _ hl]
    exact next
theorem last_ev (hm : mx.length ≤ 1000) (l : List N2) : Ev (fun _ => (some (([] : List Int) : List Int)).bind fun y => (if y.length + mx.length < 17592186044416 then (some (nm, kd, mt, sc, cp, fl, l, (y ++ mx))) else (none))) (Out nm kd mt cp fl mx sc l) :=
  Ev.this (by rw [Option.bind_some, if_pos (by simp; omega)]; rfl)
theorem whole_from (hm : mx.length ≤ 1000) {l : List N2} (hl : l.length ≤ 65536) (R : ByteArray × Int × Int × Int × Int × Int × List N2 × List Int)
    (hT : l.any odd2 = false → Ev (fun k => entrepotref08_Norm.l2 k l 0 nm kd mt sc cp fl ns mx) R) (hF : l.any odd2 = true → R = Out nm kd mt cp fl mx sc l) (d : Nat) : ∀ i : Nat, i + d = l.length →
    Ev (fun k => entrepotref08_Norm.l1 k l (!((l.take i).any odd2)) (i : Int) nm kd mt sc cp fl ns mx) R := by
  induction d with
  | zero =>
    intro i hi
    rw [List.take_of_length_le (by omega)]
    refine Ev.step (fun _ => entrepotref08_Norm.l1.eq_2 ..) (Ev.neg (by omega) ?_)
    cases h : l.any odd2 with
    | true => rw [hF h]; exact Ev.neg (by simp) (last_ev nm kd mt sc cp fl mx hm l)
    | false => exact Ev.pos rfl (hT h)
  | succ d ih =>
    intro i hi
    have hlt : i < l.length := by omega
    have next := ih (i + 1) (by omega)
    rw [List.take_succ_eq_append_getElem hlt, List.any_append] at next
    simp only [List.any_cons, List.any_nil, Bool.or_false] at next
    refine Ev.step (fun _ => entrepotref08_Norm.l1.eq_2 ..) (Ev.pos (by omega) ?_)
    rw [wrap64_succ (by omega), rdN2_at hlt]
    cases h : (l.take i).any odd2 with
    | true =>
      rw [h] at next
      exact Ev.neg (by simp) next
    | false =>
      rw [h, Bool.false_or] at next
      refine Ev.pos rfl (Ev.pos (by omega) ?_)
      unfold odd2 at next
      by_cases c : Int.tmod l[i].f0 10 = 0
      · refine Ev.pos c ?_
        rw [bne_eq_false_iff_eq.2 c, Bool.false_or, bne, Bool.not_not] at next
        exact next
      · refine Ev.neg c ?_
        rw [bne_iff_ne.2 c, Bool.true_or] at next
        exact next
theorem norm_from (hm : mx.length ≤ 1000) : ∀ (m : Nat) (s : Int) (l : List N1), l.length ≤ 65536 → (1 ≤ s → s ≤ 6 → s ≤ m) →
    Ev (fun k => entrepotref08_Norm.l0 k (l.map conv) nm kd mt s cp fl ns mx) (Out nm kd mt cp fl mx (normGo m s l).1 ((normGo m s l).2.map conv)) := by
  have stop : ∀ (s : Int) (l : List N1), CanonNorm.okScale s = false → Ev (fun k => entrepotref08_Norm.l0 k (l.map conv) nm kd mt s cp fl ns mx) (Out nm kd mt cp fl mx s (l.map conv)) := by
    intro s l h
    have h := of_decide_eq_false h
    have J : Ev (fun k => entrepotref08_Norm.j1 k (l.map conv) false nm kd mt s cp fl ns mx) (Out nm kd mt cp fl mx s (l.map conv)) :=
      Ev.step (fun _ => entrepotref08_Norm.j1.eq_2 ..) (Ev.neg (by simp) (last_ev nm kd mt s cp fl mx hm _))
    by_cases c : s ≥ 1
    · refine Ev.step (fun _ => entrepotref08_Norm.l0.eq_2 ..) (Ev.pos c ?_)
      rw [decide_eq_false (show ¬ s ≤ 6 by omega)]; exact J
    · exact Ev.step (fun _ => entrepotref08_Norm.l0.eq_2 ..) (Ev.neg c J)
  intro m
  induction m with
  | zero =>
    intro s l hl hk
    refine stop s l (decide_eq_false (fun h => ?_))
    have := hk h.1 h.2
    omega
  | succ m ih =>
    intro s l hl hk
    cases hs : CanonNorm.okScale s with
    | false =>
      rw [show normGo (m + 1) s l = (s, l) from if_neg (fun h => by rw [hs] at h; cases h.1)]
      exact stop s l hs
    | true =>
      have h16 := of_decide_eq_true (show decide (1 ≤ s ∧ s ≤ 6) = true from hs)
      refine Ev.step (fun _ => entrepotref08_Norm.l0.eq_2 ..) (Ev.pos h16.1 ?_)
      rw [decide_eq_true h16.2]
      refine Ev.step (fun _ => entrepotref08_Norm.j1.eq_2 ..) (Ev.pos rfl ?_)
      refine whole_from nm kd mt s cp fl ns mx hm (l := l.map conv) (by simpa using hl) _ (fun h => ?_) (fun h => ?_) (l.map conv).length 0 (by omega)
      · rw [any_conv] at h
        rw [show normGo (m + 1) s l = normGo m (s - 1) (l.map div10) from if_pos ⟨hs, h⟩]
        have next := ih (s - 1) (l.map div10) (by simpa using hl) (fun a b => by have := hk (by omega) (by omega); omega)
        have e : (l.map div10).map conv = (l.map conv).map div2 := by rw [List.map_map, List.map_map]; rfl
        rw [e] at next
        have := div_from nm kd mt s cp fl ns mx (l := l.map conv) (by simpa using hl) _ (by rw [show wrap64 (s - 1) = s - 1 by unfold wrap64; omega]; exact next) (l.map conv).length 0 (by omega)
        simpa using this
      · rw [any_conv] at h
        rw [show normGo (m + 1) s l = (s, l) from if_neg (fun e => by rw [h] at e; cases e.2)]
theorem norm2_ev (hm : mx.length ≤ 1000) (l : List N1) (hl : l.length ≤ 65536) : Ev (fun k => entrepotref08_Norm.f k nm kd mt sc cp fl (l.map conv) mx) (Out nm kd mt cp fl mx (normGo 6 sc l).1 ((normGo 6 sc l).2.map conv)) := by
  unfold entrepotref08_Norm.f
  refine Ev.bs rfl (Ev.pos (by simp; omega) ?_)
  rw [List.nil_append]
  exact norm_from nm kd mt cp fl (l.map conv) mx hm 6 sc l hl (fun _ h => by omega)
end

/-! Whether two are the same, as the reference tells it. -/
section
variable (nm : ByteArray) (kd mt sc cp fl : Int) (ns : List N2) (mx : List Int) (nm' : ByteArray) (kd' mt' sc' cp' fl' : Int) (ns' : List N2) (mx' : List Int)
instance : DecidableEq N2 := fun a b => decidable_of_iff _ (eq2_iff a b)
theorem ints_from (hl : mx.length = mx'.length) (hz : mx.length ≤ 65536) (d : Nat) : ∀ i : Nat, i + d = mx.length → mx.take i = mx'.take i → Ev (fun k => entrepotref08_Same.l1 k (i : Int) nm kd mt sc cp fl ns mx nm' kd' mt' sc' cp' fl' ns' mx') (decide (mx = mx')) := by
  induction d with
  | zero =>
    intro i hi he
    refine Ev.step (fun _ => entrepotref08_Same.l1.eq_2 ..) (Ev.neg (by omega) (Ev.this ?_))
    rw [List.take_of_length_le (by omega), List.take_of_length_le (by omega)] at he
    rw [decide_eq_true he]
  | succ d ih =>
    intro i hi he
    have h0 : i < mx.length := by omega
    have h1 : i < mx'.length := by omega
    refine Ev.step (fun _ => entrepotref08_Same.l1.eq_2 ..) (Ev.pos (by omega) (Ev.pos (by omega) (Ev.pos (by omega) ?_)))
    rw [rd_at h0, rd_at h1, wrap64_succ (by omega)]
    by_cases hx : mx[i] = mx'[i]
    · exact Ev.pos hx (ih (i + 1) (by omega) (by rw [List.take_succ_eq_append_getElem h0, List.take_succ_eq_append_getElem h1, he, hx]))
    · have hne : mx ≠ mx' := fun e => hx (by subst e; rfl)
      refine Ev.neg hx (Ev.this ?_)
      rw [decide_eq_false hne]
theorem nodes_from (hl : ns.length = ns'.length) (hz : ns.length ≤ 65536) (hl2 : mx.length = mx'.length) (hz2 : mx.length ≤ 65536) (d : Nat) : ∀ i : Nat, i + d = ns.length → ns.take i = ns'.take i → Ev (fun k => entrepotref08_Same.l0 k (i : Int) nm kd mt sc cp fl ns mx nm' kd' mt' sc' cp' fl' ns' mx') (decide (ns = ns') && decide (mx = mx')) := by
  induction d with
  | zero =>
    intro i hi he
    refine Ev.step (fun _ => entrepotref08_Same.l0.eq_2 ..) (Ev.neg (by omega) ?_)
    rw [List.take_of_length_le (by omega), List.take_of_length_le (by omega)] at he
    rw [decide_eq_true he, Bool.true_and]
    exact ints_from nm kd mt sc cp fl ns mx nm' kd' mt' sc' cp' fl' ns' mx' hl2 hz2 mx.length 0 (by omega) rfl
  | succ d ih =>
    intro i hi he
    have h0 : i < ns.length := by omega
    have h1 : i < ns'.length := by omega
    refine Ev.step (fun _ => entrepotref08_Same.l0.eq_2 ..) (Ev.pos (by omega) (Ev.pos (by omega) (Ev.pos (by omega) ?_)))
    rw [rdN2_at h0, rdN2_at h1, wrap64_succ (by omega), not2]
    by_cases hx : ns[i] = ns'[i]
    · exact Ev.neg (by rw [(eq2_iff _ _).2 hx]; simp) (ih (i + 1) (by omega) (by rw [List.take_succ_eq_append_getElem h0, List.take_succ_eq_append_getElem h1, he, hx]))
    · have hne : ns ≠ ns' := fun e => hx (by subst e; rfl)
      refine Ev.pos (by cases h : eq2 ns[i] ns'[i] with | true => exact absurd ((eq2_iff _ _).1 h) hx | false => rfl) (Ev.this ?_)
      rw [decide_eq_false hne]; rfl
theorem same2_ev (hz : ns.length ≤ 65536) (hz2 : mx.length ≤ 65536) : Ev (fun k => entrepotref08_Same.f k nm kd mt sc cp fl ns mx nm' kd' mt' sc' cp' fl' ns' mx')
    (decide (nm.toList = nm'.toList) && (decide (kd = kd') && (decide (mt = mt') && (decide (sc = sc') && (decide (cp = cp') && (decide (fl = fl') && (decide (ns = ns') && decide (mx = mx')))))))) := by
  have F : Ev (fun k => entrepotref08_Same.j0 k true nm kd mt sc cp fl ns mx nm' kd' mt' sc' cp' fl' ns' mx') false := Ev.step (fun _ => entrepotref08_Same.j0.eq_2 ..) (Ev.pos rfl (Ev.now _))
  unfold entrepotref08_Same.f
  by_cases c1 : nm.toList = nm'.toList
  · rw [decide_eq_true c1]
    refine Ev.pos c1 ?_
    by_cases c2 : kd = kd'
    · rw [decide_eq_true c2]
      refine Ev.pos c2 ?_
      by_cases c3 : mt = mt'
      · rw [decide_eq_true c3]
        refine Ev.pos c3 ?_
        by_cases c4 : sc = sc'
        · rw [decide_eq_true c4]
          refine Ev.pos c4 ?_
          by_cases c5 : cp = cp'
          · rw [decide_eq_true c5]
            refine Ev.pos c5 ?_
            by_cases c6 : fl = fl'
            · rw [decide_eq_true c6]
              refine Ev.pos c6 ?_
              by_cases c7 : ns.length = ns'.length
              · refine Ev.pos (by omega) ?_
                by_cases c8 : mx.length = mx'.length
                · rw [show ((mx.length : Int) != (mx'.length : Int)) = false from bne_eq_false_iff_eq.2 (by omega)]
                  simp only [Bool.true_and]
                  exact Ev.step (fun _ => entrepotref08_Same.j0.eq_2 ..) (Ev.neg (by simp) (nodes_from nm kd mt sc cp fl ns mx nm' kd' mt' sc' cp' fl' ns' mx' c7 hz c8 hz2 ns.length 0 (by omega) rfl))
                · rw [show ((mx.length : Int) != (mx'.length : Int)) = true from bne_iff_ne.2 (by omega), decide_eq_false (show mx ≠ mx' from fun e => c8 (by rw [e]))]
                  simpa using F
              · rw [decide_eq_false (show ns ≠ ns' from fun e => c7 (by rw [e]))]
                refine Ev.neg (by omega) ?_
                simpa using F
            · rw [decide_eq_false c6]; exact Ev.neg c6 (by simpa using F)
          · rw [decide_eq_false c5]; exact Ev.neg c5 (by simpa using F)
        · rw [decide_eq_false c4]; exact Ev.neg c4 (by simpa using F)
      · rw [decide_eq_false c3]; exact Ev.neg c3 (by simpa using F)
    · rw [decide_eq_false c2]; exact Ev.neg c2 (by simpa using F)
  · rw [decide_eq_false c1]; exact Ev.neg c1 (by simpa using F)
end
theorem same_tells (nm : ByteArray) (kd mt sc cp fl : Int) (ns : List N1) (mx : List Int) (nm' : ByteArray) (kd' mt' sc' cp' fl' : Int) (ns' : List N1) (mx' : List Int) (hz : ns.length ≤ 420) (hz2 : mx.length ≤ 1000) :
    canon_Same.f nm kd mt sc cp fl ns mx nm' kd' mt' sc' cp' fl' ns' mx' = some (decide (nm.toList = nm'.toList) && (decide (kd = kd') && (decide (mt = mt') && (decide (sc = sc') && (decide (cp = cp') && (decide (fl = fl') && (decide (ns.map conv = ns'.map conv) && decide (mx = mx')))))))) := by
  unfold canon_Same.f
  rw [if_pos ⟨by omega, by omega⟩]
  congr 1
  unfold CanonSame.sameNodes CanonSame.sameInts CanonSame.five
  have e : decide (ns.map conv = ns'.map conv) = decide (ns = ns') := by
    rw [decide_eq_decide]
    exact ⟨fun h => (List.map_inj_right (fun a b h => conv_inj h)).1 h, fun h => by rw [h]⟩
  rw [e]
  have b : ∀ a b : Int, (a == b) = decide (a = b) := fun a b => rfl
  rw [b, b, b, b, b]
  generalize decide (ns = ns') = x1
  generalize decide (mx = mx') = x2
  generalize decide (nm.toList = nm'.toList) = x3
  generalize decide (kd = kd') = x4
  generalize decide (mt = mt') = x5
  generalize decide (sc = sc') = x6
  generalize decide (cp = cp') = x7
  generalize decide (fl = fl') = x8
  revert x1 x2 x3 x4 x5 x6 x7 x8
  decide
theorem CanonNorms (nm : ByteArray) (kd mt sc cp fl : Int) (ns : List Open.Node) (mx : List Int) (nm' : ByteArray) (kd' mt' sc' cp' fl' : Int) (ns' : List Open.Node) (mx' : List Int) (_ : Open.InstGood nm kd mt sc cp fl ns mx) (_ : Open.InstGood nm' kd' mt' sc' cp' fl' ns' mx') :
    ∃ k, entrepotlaw08_CanonNorms.f k nm kd mt sc cp fl ns mx nm' kd' mt' sc' cp' fl' ns' mx' = some true := by
  refine Ev.rounds ?_
  unfold entrepotlaw08_CanonNorms.f
  obtain ⟨b, hb, hl⟩ := long_tells nm kd mt sc cp fl ns mx
  refine Ev.bs hb ?_
  have S : Ev (fun k => entrepotlaw08_CanonNorms.j0 k true nm kd mt sc cp fl ns mx nm' kd' mt' sc' cp' fl' ns' mx') true := Ev.step (fun _ => entrepotlaw08_CanonNorms.j0.eq_2 ..) (Ev.pos rfl (Ev.bs shown_true (Ev.now _)))
  cases b with
  | true => exact Ev.pos rfl S
  | false =>
    obtain ⟨hn, hm, hs⟩ := hl rfl
    obtain ⟨b', hb', hl'⟩ := long_tells nm' kd' mt' sc' cp' fl' ns' mx'
    refine Ev.neg (by simp) (Ev.bs hb' ?_)
    cases b' with
    | true => exact Ev.pos rfl S
    | false =>
      obtain ⟨hn', hm', hs'⟩ := hl' rfl
      refine Ev.neg (by simp) (Ev.bs shown_true (Ev.step (fun _ => entrepotlaw08_CanonNorms.j0.eq_2 ..) (Ev.neg (by simp) ?_)))
      have hlen : ∀ (k : Nat) (s : Int) (l : List N1), (normGo k s l).2.length = l.length := by
        intro k
        induction k with
        | zero => intro s l; rfl
        | succ k ih =>
          intro s l
          by_cases c : CanonNorm.okScale s = true ∧ l.any NodeFind.oddB = false
          · rw [show normGo (k + 1) s l = normGo k (s - 1) (l.map div10) from if_pos c, ih, List.length_map]
          · rw [show normGo (k + 1) s l = (s, l) from if_neg c]
      have hr := hlen 6 sc ns
      refine Ev.bs (norm_some nm kd mt sc cp fl ns mx hn hm) (Ev.bind (its_ev nm kd mt _ cp fl mx (by rw [hr]; omega)) (Ev.bind (its_ev nm kd mt sc cp fl mx (by omega)) (Ev.bind (norm2_ev nm kd mt sc cp fl mx hm ns (by omega)) ?_)))
      refine Ev.bind (Ev.eq (r' := true) (same2_ev nm kd mt (normGo 6 sc ns).1 cp fl ((normGo 6 sc ns).2.map conv) mx nm kd mt (normGo 6 sc ns).1 cp fl ((normGo 6 sc ns).2.map conv) mx (by rw [List.length_map, hr]; omega) (by omega)) (by simp)) (Ev.pos rfl ?_)
      refine Ev.bs (same_tells nm kd mt sc cp fl ns mx nm' kd' mt' sc' cp' fl' ns' mx' hn hm) (Ev.bind (its_ev nm kd mt sc cp fl mx (by omega)) (Ev.bind (its_ev nm' kd' mt' sc' cp' fl' mx' (by omega)) (Ev.bind (same2_ev nm kd mt sc cp fl (ns.map conv) mx nm' kd' mt' sc' cp' fl' (ns'.map conv) mx' (by rw [List.length_map]; omega) (by omega)) (Ev.this (by simp)))))
end Go.Proofs.Ytfnnngoandpgkaa.Pure
