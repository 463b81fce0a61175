/- Whatever the format, the instance and the field that is left, if the instance is no longer than the bound: with all its lacking fields turned it can be expressed; with one left, just that one lacks. -/
import Derived.Test.YtmapllahhpdedaaPxEntrepotlaw12ExpressTurned
import Derived.Test.YtmapllahhpdedaaGExp
import Derived.Test.YtmapllahhpdedaaGEv
namespace Go.Proofs.Ytmapllahhpdedaa.Pure
set_option linter.unusedVariables false
set_option linter.unusedSimpArgs false
open Go.RowKit Go.Proofs.Ytmapllahhpdedaa.P Go.Proofs.YtmapllahhpdedaaW.PrintWords Go.Proofs.YtmapllahhpdedaaW.PrintLast LacksWalk

abbrev Inst := ByteArray × Int × Int × Int × Int × Int × List LacksWalk.Node × List Int
def lilim : ByteArray := ⟨#[108, 105, 108, 105, 109]⟩
def fixN (g : Int) (d : LacksWalk.Node) : LacksWalk.Node :=
  if g = 10 then ⟨d.f0, d.f1, mx 0 d.f2, d.f3, d.f4, d.f5, d.f6⟩ else if g = 11 then ⟨d.f0, d.f1, d.f2, 0, 0, d.f5, d.f6⟩ else if g = 12 then ⟨d.f0, d.f1, d.f2, d.f3, d.f4, 0, d.f6⟩ else if g = 13 then ⟨d.f0, d.f1, d.f2, d.f3, d.f4, d.f5, 0⟩ else d
def turnI (f g : Int) (A : Inst) : Inst :=
  (if g = 1 then lilim else A.1, if g = 2 then wrap64 (f + 1) else A.2.1, if g = 3 then (if f = 1 then 2 else 6) else A.2.2.1, if g = 4 then 0 else A.2.2.2.1, A.2.2.2.2.1, if g = 6 then mn 1 (wrap64 (f - 1)) else A.2.2.2.2.2.1, A.2.2.2.2.2.2.1.map (fixN g), A.2.2.2.2.2.2.2)
theorem rd_mid (a b : List LacksWalk.Node) (x : LacksWalk.Node) {i : Nat} (h : a.length = i) : rd_T40 (a ++ x :: b) (i : Int) = x := by
  unfold rd_T40
  rw [Int.toNat_natCast, List.getD_eq_getElem?_getD, List.getElem?_append_right (by omega), h]; simp
theorem set_mid (a b : List LacksWalk.Node) (x y : LacksWalk.Node) {i : Nat} (h : a.length = i) : (a ++ x :: b).set ((i : Int)).toNat y = a ++ y :: b := by
  rw [Int.toNat_natCast, List.set_append_right _ _ (by omega), h]; simp
theorem turn_from (nm : ByteArray) (kd mt sc cp fl : Int) (mx' : List Int) (g : Int) {ns : List LacksWalk.Node} (hn : ns.length ≤ 400) (d : Nat) : ∀ i : Nat, i + d = ns.length →
    Ev (fun k => entrepotlaw12_turned.l0 k g (i : Int) nm kd mt sc cp fl ((ns.take i).map (fixN g) ++ ns.drop i) mx') (nm, kd, mt, sc, cp, fl, ns.map (fixN g), mx') := by
  induction d with
  | zero =>
    intro i hi
    refine Ev.step (fun _ => entrepotlaw12_turned.l0.eq_2 ..) (Ev.neg (by simp; omega) ?_)
    rw [List.take_of_length_le (by omega), List.drop_of_length_le (by omega), List.append_nil]; exact Ev.now _
  | succ d ih =>
    intro i hi
    have hlt : i < ns.length := by omega
    have next := ih (i + 1) (by omega)
    rw [List.take_succ_eq_append_getElem hlt, List.map_append, List.append_assoc] at next
    have hl : ((ns.take i).map (fixN g)).length = i := by simp; omega
    rw [List.drop_eq_getElem_cons hlt]
    generalize (ns.take i).map (fixN g) = a at *
    generalize ns.drop (i + 1) = b at *
    generalize ns[i] = x at *
    refine Ev.step (fun _ => entrepotlaw12_turned.l0.eq_2 ..) (Ev.pos (by rw [List.length_append, List.length_cons]; omega) ?_)
    rw [wrap64_succ (by omega)]
    by_cases c10 : g = 10
    · subst c10
      refine Ev.pos rfl (Ev.pos (by omega) ?_)
      rw [rd_mid a b x hl, set_mid a b x _ hl]
      exact next
    · refine Ev.neg c10 ?_
      by_cases c11 : g = 11
      · subst c11
        refine Ev.pos rfl (Ev.pos (by omega) (Ev.bs rfl ?_))
        rw [rd_mid a b x hl, set_mid a b x _ hl, rd_mid a b _ hl, set_mid a b _ _ hl]
        exact next
      · refine Ev.neg c11 ?_
        by_cases c12 : g = 12
        · subst c12
          refine Ev.pos rfl (Ev.pos (by omega) ?_)
          rw [rd_mid a b x hl, set_mid a b x _ hl]
          exact next
        · refine Ev.neg c12 ?_
          by_cases c13 : g = 13
          · subst c13
            refine Ev.pos rfl (Ev.pos (by omega) ?_)
            rw [rd_mid a b x hl, set_mid a b x _ hl]
            exact next
          · refine Ev.neg c13 ?_
            rwa [show [x].map (fixN g) = [x] by simp only [List.map_cons, List.map_nil, fixN]; rw [if_neg c10, if_neg c11, if_neg c12, if_neg c13]] at next
theorem turn_j (f g : Int) (nm : ByteArray) (kd mt sc cp fl : Int) (mx' : List Int) {ns : List LacksWalk.Node} (hn : ns.length ≤ 400) : Ev (fun k => entrepotlaw12_turned.j0 k g nm kd mt sc cp fl ns mx') (nm, kd, mt, sc, cp, fl, ns.map (fixN g), mx') := by
  have := turn_from nm kd mt sc cp fl mx' g hn ns.length 0 (by omega)
  simp only [List.take_zero, List.map_nil, List.nil_append, List.drop_zero] at this
  exact Ev.step (fun _ => entrepotlaw12_turned.j0.eq_2 ..) this
theorem turn_ev (f g : Int) (A : Inst) (hn : A.2.2.2.2.2.2.1.length ≤ 400) : Ev (fun k => entrepotlaw12_turned.f k f g A.1 A.2.1 A.2.2.1 A.2.2.2.1 A.2.2.2.2.1 A.2.2.2.2.2.1 A.2.2.2.2.2.2.1 A.2.2.2.2.2.2.2) (turnI f g A) := by
  obtain ⟨nm, kd, mt, sc, cp, fl, ns, mx'⟩ := A
  unfold entrepotlaw12_turned.f turnI
  simp only at hn ⊢
  refine Ev.bs rfl (Ev.pos (by simp; omega) (Ev.bs rfl ?_))
  rw [List.nil_append]
  by_cases c1 : g = 1
  · subst c1; exact Ev.pos rfl (turn_j f 1 _ _ _ _ _ _ _ hn)
  · refine Ev.neg c1 ?_
    rw [if_neg c1]
    by_cases c2 : g = 2
    · subst c2; exact Ev.pos rfl (turn_j f 2 _ _ _ _ _ _ _ hn)
    · refine Ev.neg c2 ?_
      rw [if_neg c2]
      by_cases c3 : g = 3
      · subst c3
        refine Ev.pos rfl ?_
        by_cases cf : f = 1
        · subst cf; exact Ev.pos rfl (turn_j 1 3 _ _ _ _ _ _ _ hn)
        · refine Ev.neg cf ?_
          rw [if_neg cf]; exact turn_j f 3 _ _ _ _ _ _ _ hn
      · refine Ev.neg c3 ?_
        rw [if_neg c3]
        by_cases c4 : g = 4
        · subst c4; exact Ev.pos rfl (turn_j f 4 _ _ _ _ _ _ _ hn)
        · refine Ev.neg c4 ?_
          rw [if_neg c4]
          by_cases c6 : g = 6
          · subst c6; exact Ev.pos rfl (turn_j f 6 _ _ _ _ _ _ _ hn)
          · refine Ev.neg c6 ?_
            rw [if_neg c6]; exact turn_j f g _ _ _ _ _ _ _ hn

/-- Can a format express a field? -/
def can (f : Int) (A : Inst) (h : Int) : Bool :=
  if f = 1 then (if h = 2 then A.2.1 == 1 || A.2.1 == 2 else if h = 3 then known A.2.2.1 && !(A.2.2.1 == 6) else if h = 6 then A.2.2.2.2.2.1 == 0 else if h = 10 then pos A.2.2.2.2.2.2.1 else if h = 11 then unwindowed A.2.2.2.2.2.2.1 else if h = 12 then unserved A.2.2.2.2.2.2.1 else if h = 13 then single A.2.2.2.2.2.2.1 else true)
  else if f = 2 then (if h = 2 then A.2.1 == 3 else if h = 3 then A.2.2.1 == 6 else if h = 6 then decide (1 ≤ A.2.2.2.2.2.1) else if h = 10 then pos A.2.2.2.2.2.2.1 else if h = 13 then single A.2.2.2.2.2.2.1 else true)
  else (if h = 1 then isLilim A.1 else if h = 2 then A.2.1 == 4 else if h = 3 then A.2.2.1 == 6 else if h = 4 then A.2.2.2.1 == 0 else if h = 6 then decide (1 ≤ A.2.2.2.2.2.1) else true)
theorem key1 : ∀ a b c d e f g : Bool, fails [⟨2, a⟩, ⟨3, b⟩, ⟨6, c⟩, ⟨10, d⟩, ⟨11, e⟩, ⟨12, f⟩, ⟨13, g⟩] = (LacksWalk.upto 13).filter (fun h => !(if h = 2 then a else if h = 3 then b else if h = 6 then c else if h = 10 then d else if h = 11 then e else if h = 12 then f else if h = 13 then g else true)) := by decide +kernel
theorem key2 : ∀ a b c d e : Bool, fails [⟨2, a⟩, ⟨3, b⟩, ⟨6, c⟩, ⟨10, d⟩, ⟨13, e⟩] = (LacksWalk.upto 13).filter (fun h => !(if h = 2 then a else if h = 3 then b else if h = 6 then c else if h = 10 then d else if h = 13 then e else true)) := by decide +kernel
theorem key3 : ∀ a b c d e : Bool, fails [⟨1, a⟩, ⟨2, b⟩, ⟨3, c⟩, ⟨4, d⟩, ⟨6, e⟩] = (LacksWalk.upto 13).filter (fun h => !(if h = 1 then a else if h = 2 then b else if h = 3 then c else if h = 4 then d else if h = 6 then e else true)) := by decide +kernel
theorem lacks_can {f : Int} (hf : f = 1 ∨ f = 2 ∨ f = 3) (A : Inst) : lacksOf f A.1 A.2.1 A.2.2.1 A.2.2.2.1 A.2.2.2.2.2.1 A.2.2.2.2.2.2.1 = (LacksWalk.upto 13).filter (fun h => !can f A h) := by
  obtain ⟨nm, kd, mt, sc, cp, fl, ns, mx'⟩ := A
  unfold lacksOf can
  rcases hf with rfl | rfl | rfl
  · simp only [Int.reduceEq, ↓reduceIte]; exact key1 ..
  · simp only [Int.reduceEq, ↓reduceIte]; exact key2 ..
  · simp only [Int.reduceEq, ↓reduceIte]; exact key3 ..
theorem any_fix (p : LacksWalk.Node → Bool) (g : Int) (l : List LacksWalk.Node) (h : ∀ d, p (fixN g d) = p d) : (l.map (fixN g)).any p = l.any p := by
  rw [List.any_map]; congr 1; funext d; exact h d
theorem any_none (p : LacksWalk.Node → Bool) (g : Int) (l : List LacksWalk.Node) (h : ∀ d, p (fixN g d) = false) : (l.map (fixN g)).any p = false := by
  rw [List.any_map, List.any_eq_false]; intro d _; simpa using h d
theorem pos_fix (g : Int) (l : List LacksWalk.Node) : pos (l.map (fixN g)) = (decide (g = 10) || pos l) := by
  unfold pos
  by_cases h : g = 10
  · subst h; rw [any_none _ _ _ (fun d => by simp only [fixN, if_true]; unfold mx; split <;> simp <;> omega)]; rfl
  · rw [any_fix _ _ _ (fun d => by unfold fixN; rw [if_neg h]; by_cases a : g = 10 <;> by_cases b : g = 11 <;> by_cases c : g = 12 <;> by_cases e : g = 13 <;> first | (simp only [a, b, c, e, if_true, if_false]; done) | simp_all), decide_eq_false h]; rfl
theorem unwindowed_fix (g : Int) (l : List LacksWalk.Node) : unwindowed (l.map (fixN g)) = (decide (g = 11) || unwindowed l) := by
  unfold unwindowed
  by_cases h : g = 11
  · subst h; rw [any_none _ _ _ (fun d => rfl)]; rfl
  · rw [any_fix _ _ _ (fun d => by unfold fixN; rw [if_neg h]; by_cases a : g = 10 <;> by_cases b : g = 11 <;> by_cases c : g = 12 <;> by_cases e : g = 13 <;> first | (simp only [a, b, c, e, if_true, if_false]; done) | simp_all), decide_eq_false h]; rfl
theorem unserved_fix (g : Int) (l : List LacksWalk.Node) : unserved (l.map (fixN g)) = (decide (g = 12) || unserved l) := by
  unfold unserved
  by_cases h : g = 12
  · subst h; rw [any_none _ _ _ (fun d => rfl)]; rfl
  · rw [any_fix _ _ _ (fun d => by unfold fixN; rw [if_neg h]; by_cases a : g = 10 <;> by_cases b : g = 11 <;> by_cases c : g = 12 <;> by_cases e : g = 13 <;> first | (simp only [a, b, c, e, if_true, if_false]; done) | simp_all), decide_eq_false h]; rfl
theorem single_fix (g : Int) (l : List LacksWalk.Node) : single (l.map (fixN g)) = (decide (g = 13) || single l) := by
  unfold single
  by_cases h : g = 13
  · subst h; rw [any_none _ _ _ (fun d => rfl)]; rfl
  · rw [any_fix _ _ _ (fun d => by unfold fixN; rw [if_neg h]; by_cases a : g = 10 <;> by_cases b : g = 11 <;> by_cases c : g = 12 <;> by_cases e : g = 13 <;> first | (simp only [a, b, c, e, if_true, if_false]; done) | simp_all), decide_eq_false h]; rfl
theorem w_small : wrap64 (1 + 1) = 2 ∧ wrap64 (2 + 1) = 3 ∧ wrap64 (3 + 1) = 4 ∧ mn 1 (wrap64 (1 - 1)) = 0 ∧ mn 1 (wrap64 (2 - 1)) = 1 ∧ mn 1 (wrap64 (3 - 1)) = 1 := by decide +kernel
/-- A field that lacks, turned: just that one can be expressed then, beside those that could. -/
theorem can_turn {f g : Int} (hf : f = 1 ∨ f = 2 ∨ f = 3) (A : Inst) (hg : can f A g = false) (h : Int) : can f (turnI f g A) h = (can f A h || decide (h = g)) := by
  obtain ⟨nm, kd, mt, sc, cp, fl, ns, mx'⟩ := A
  obtain ⟨w2, w3, w4, m0, m1, m2⟩ := w_small
  rcases hf with rfl | rfl | rfl
  · have hgs : g = 2 ∨ g = 3 ∨ g = 6 ∨ g = 10 ∨ g = 11 ∨ g = 12 ∨ g = 13 := by
      refine Classical.byContradiction fun hn => ?_
      simp only [not_or] at hn
      unfold can at hg
      simp only [Int.reduceEq, ↓reduceIte] at hg
      rw [if_neg hn.1, if_neg hn.2.1, if_neg hn.2.2.1, if_neg hn.2.2.2.1, if_neg hn.2.2.2.2.1, if_neg hn.2.2.2.2.2.1, if_neg hn.2.2.2.2.2.2] at hg
      cases hg
    unfold can turnI
    simp only [Int.reduceEq, ↓reduceIte, pos_fix, unwindowed_fix, unserved_fix, single_fix]
    rcases hgs with rfl | rfl | rfl | rfl | rfl | rfl | rfl
    all_goals
      simp only [Int.reduceEq, ↓reduceIte, decide_false, decide_true, Bool.false_or, Bool.true_or, w2, m0]
      by_cases hh : h = 2
      · subst hh; simp [known]
      · simp only [if_neg hh]
        by_cases hh3 : h = 3
        · subst hh3; simp [known]
        · simp only [if_neg hh3]
          by_cases hh6 : h = 6
          · subst hh6; simp
          · simp only [if_neg hh6]
            by_cases hh10 : h = 10
            · subst hh10; simp
            · simp only [if_neg hh10]
              by_cases hh11 : h = 11
              · subst hh11; simp
              · simp only [if_neg hh11]
                by_cases hh12 : h = 12
                · subst hh12; simp
                · simp only [if_neg hh12]
                  by_cases hh13 : h = 13
                  · subst hh13; simp
                  · (try simp only [if_neg hh13]); simp [hh, hh3, hh6, hh10, hh13]
  · have hgs : g = 2 ∨ g = 3 ∨ g = 6 ∨ g = 10 ∨ g = 13 := by
      refine Classical.byContradiction fun hn => ?_
      simp only [not_or] at hn
      unfold can at hg
      simp only [Int.reduceEq, ↓reduceIte] at hg
      rw [if_neg hn.1, if_neg hn.2.1, if_neg hn.2.2.1, if_neg hn.2.2.2.1, if_neg hn.2.2.2.2] at hg
      cases hg
    unfold can turnI
    simp only [Int.reduceEq, ↓reduceIte, pos_fix, unwindowed_fix, unserved_fix, single_fix]
    rcases hgs with rfl | rfl | rfl | rfl | rfl
    all_goals
      simp only [Int.reduceEq, ↓reduceIte, decide_false, decide_true, Bool.false_or, Bool.true_or, w3, m1]
      by_cases hh : h = 2
      · subst hh; simp
      · simp only [if_neg hh]
        by_cases hh3 : h = 3
        · subst hh3; simp
        · simp only [if_neg hh3]
          by_cases hh6 : h = 6
          · subst hh6; simp
          · simp only [if_neg hh6]
            by_cases hh10 : h = 10
            · subst hh10; simp
            · simp only [if_neg hh10]
              by_cases hh13 : h = 13
              · subst hh13; simp
              · (try simp only [if_neg hh13]); simp [hh, hh3, hh6, hh10, hh13]
  · have hgs : g = 1 ∨ g = 2 ∨ g = 3 ∨ g = 4 ∨ g = 6 := by
      refine Classical.byContradiction fun hn => ?_
      simp only [not_or] at hn
      unfold can at hg
      simp only [Int.reduceEq, ↓reduceIte] at hg
      rw [if_neg hn.1, if_neg hn.2.1, if_neg hn.2.2.1, if_neg hn.2.2.2.1, if_neg hn.2.2.2.2] at hg
      cases hg
    have hlm : isLilim lilim = true := by decide +kernel
    unfold can turnI
    simp only [Int.reduceEq, ↓reduceIte, pos_fix, unwindowed_fix, unserved_fix, single_fix]
    rcases hgs with rfl | rfl | rfl | rfl | rfl
    all_goals
      simp only [Int.reduceEq, ↓reduceIte, decide_false, decide_true, Bool.false_or, Bool.true_or, w4, m2, hlm]
      by_cases hh1 : h = 1
      · subst hh1; simp
      · simp only [if_neg hh1]
        by_cases hh : h = 2
        · subst hh; simp
        · simp only [if_neg hh]
          by_cases hh3 : h = 3
          · subst hh3; simp
          · simp only [if_neg hh3]
            by_cases hh4 : h = 4
            · subst hh4; simp
            · simp only [if_neg hh4]
              by_cases hh6 : h = 6
              · subst hh6; simp
              · (try simp only [if_neg hh6]); simp [hh, hh3, hh6, hh1, hh4]

theorem nodup_upto : (LacksWalk.upto 13).Nodup := by decide +kernel
theorem filter_one : ∀ x ∈ LacksWalk.upto 13, (LacksWalk.upto 13).filter (fun h => decide (h = x)) = [x] := by decide +kernel
theorem can_some (fmt : Int) (A : Inst) : express_Can.f fmt A.1 A.2.1 A.2.2.1 A.2.2.2.1 A.2.2.2.2.1 A.2.2.2.2.2.1 A.2.2.2.2.2.2.1 A.2.2.2.2.2.2.2 = some ((lacksOf fmt A.1 A.2.1 A.2.2.1 A.2.2.2.1 A.2.2.2.2.2.1 A.2.2.2.2.2.2.1).length == 0) := can_tells ..
theorem turned_loop {f : Int} (hf : f = 1 ∨ f = 2 ∨ f = 3) (I : Inst) (l : List Int) (hl : l = (LacksWalk.upto 13).filter (fun h => !can f I h)) (k0 : Nat) (hk0 : k0 < l.length) (d : Nat) :
    ∀ (i : Nat) (A B : Inst), i + d = l.length → A.2.2.2.2.2.2.1.length ≤ 400 → B.2.2.2.2.2.2.1.length ≤ 400 → (∀ h, can f A h = (can f I h || decide (h ∈ l.take i))) → (∀ h, can f B h = (can f I h || (decide (h ∈ l.take i) && decide (h ≠ l[k0])))) →
    Ev (fun k => entrepotlaw12_ExpressTurned.l0 k f l (k0 : Int) (i : Int) A.1 A.2.1 A.2.2.1 A.2.2.2.1 A.2.2.2.2.1 A.2.2.2.2.2.1 A.2.2.2.2.2.2.1 A.2.2.2.2.2.2.2 B.1 B.2.1 B.2.2.1 B.2.2.2.1 B.2.2.2.2.1 B.2.2.2.2.2.1 B.2.2.2.2.2.2.1 B.2.2.2.2.2.2.2) true := by
  have hnd : l.Nodup := by rw [hl]; exact List.Pairwise.sublist List.filter_sublist nodup_upto
  have hmem : ∀ h, h ∈ l ↔ h ∈ LacksWalk.upto 13 ∧ can f I h = false := fun h => by rw [hl, List.mem_filter]; simp
  have hlen : l.length ≤ 13 := by rw [hl]; exact Nat.le_trans (List.length_filter_le _ _) (by rw [LacksWalk.upto_len]; omega)
  induction d with
  | zero =>
    intro i A B hi hA hB cA cB
    rw [List.take_of_length_le (by omega)] at cA cB
    refine Ev.step (fun _ => entrepotlaw12_ExpressTurned.l0.eq_2 ..) (Ev.neg (by omega) ?_)
    have eA : (LacksWalk.upto 13).filter (fun h => !can f A h) = [] := by
      refine List.filter_eq_nil_iff.2 fun h hh => ?_
      rw [cA]
      cases hc : can f I h with
      | true => simp
      | false => rw [decide_eq_true ((hmem h).2 ⟨hh, hc⟩)]; simp
    have hx := (hmem l[k0]).1 (List.getElem_mem hk0)
    have eB : (LacksWalk.upto 13).filter (fun h => !can f B h) = [l[k0]] := by
      rw [← filter_one _ hx.1]
      refine List.filter_congr fun h hh => ?_
      rw [cB]
      by_cases he : h = l[k0]
      · rw [decide_eq_true he, he, hx.2]; simp
      · rw [decide_eq_false he]
        cases hc : can f I h with
        | true => simp
        | false => rw [decide_eq_true ((hmem h).2 ⟨hh, hc⟩), decide_eq_true he]; rfl
    refine Ev.bs (x := [l[k0]]) (by unfold express_Lacks.f; rw [lacks_can hf B, eB]) (Ev.bs (can_some f A) ?_)
    rw [lacks_can hf A, eA]
    refine Ev.pos rfl (Ev.pos rfl (Ev.pos (by simp) (Ev.pos (by omega) (Ev.pos (by omega) (Ev.this ?_)))))
    rw [rd_at hk0]
    congr 1
    exact beq_iff_eq.2 rfl
  | succ d ih =>
    intro i A B hi hA hB cA cB
    have hlt : i < l.length := by omega
    have hxi := (hmem l[i]).1 (List.getElem_mem hlt)
    have hni : l[i] ∉ l.take i := by
      intro hm
      obtain ⟨j, hj, e⟩ := List.getElem_of_mem hm
      have hji : j < i := by rw [List.length_take] at hj; omega
      rw [List.getElem_take] at e
      have := (List.getElem_inj hnd).1 e
      omega
    have cA0 : can f A l[i] = false := by rw [cA, hxi.2, decide_eq_false hni]; rfl
    have tk : ∀ h, decide (h ∈ l.take (i + 1)) = (decide (h ∈ l.take i) || decide (h = l[i])) := fun h => by
      rw [List.take_succ_eq_append_getElem hlt, ← Bool.decide_or, decide_eq_decide, List.mem_append, List.mem_singleton]
    have cA1 : ∀ h, can f (turnI f l[i] A) h = (can f I h || decide (h ∈ l.take (i + 1))) := fun h => by
      rw [can_turn hf A cA0, cA, tk, Bool.or_assoc]
    refine Ev.step (fun _ => entrepotlaw12_ExpressTurned.l0.eq_2 ..) (Ev.pos (by omega) (Ev.pos (by omega) ?_))
    rw [rd_at hlt, wrap64_succ (by omega)]
    refine Ev.bind (turn_ev f l[i] A hA) ?_
    by_cases hk : i = k0
    · subst hk
      refine Ev.pos rfl ?_
      refine ih (i + 1) (turnI f l[i] A) B (by omega) (by simpa [turnI] using hA) hB cA1 (fun h => ?_)
      rw [cB, tk]
      by_cases he : h = l[i]
      · rw [decide_eq_true he, decide_eq_false (show ¬ h ≠ l[i] from fun e => e he)]; simp
      · rw [decide_eq_false he, Bool.or_false]
    · refine Ev.neg (by omega) ?_
      have hne : l[i] ≠ l[k0] := fun e => hk ((List.getElem_inj hnd).1 e)
      have cB0 : can f B l[i] = false := by rw [cB, hxi.2, decide_eq_false hni]; rfl
      refine Ev.bind (turn_ev f l[i] B hB) ?_
      refine ih (i + 1) (turnI f l[i] A) (turnI f l[i] B) (by omega) (by simpa [turnI] using hA) (by simpa [turnI] using hB) cA1 (fun h => ?_)
      rw [can_turn hf B cB0, cB, tk, Bool.or_assoc]
      congr 1
      by_cases he : h = l[i]
      · subst he; rw [decide_eq_true hne]; simp
      · rw [decide_eq_false he, Bool.or_false, Bool.or_false]
theorem wf_u8 {n : Int} (h : Open.WfInt .u8 n) : 0 ≤ n ∧ n ≤ 255 := by
  have hmin : IntKind.u8.min = 0 := rfl
  have hmax : IntKind.u8.max = 255 := rfl
  unfold Open.WfInt at h
  simp only [Lit.wf, Bool.and_eq_true, decide_eq_true_eq] at h
  omega
theorem turned_shown (a f : Int) (nm : ByteArray) (kd mt sc cp fl : Int) (ns : List Open.Node) (mx : List Int) : Ev (fun k => entrepotlaw12_ExpressTurned.j0 k a f true nm kd mt sc cp fl ns mx) true :=
  Ev.step (fun _ => entrepotlaw12_ExpressTurned.j0.eq_2 ..) (Ev.pos rfl (Ev.this (by rw [shown_true, bind_s])))
theorem ExpressTurned (a : Int) (nm : ByteArray) (kd mt sc cp fl : Int) (ns : List Open.Node) (mx : List Int) (b : Int) (wa : Open.WfInt .u8 a) (_ : Open.InstGood nm kd mt sc cp fl ns mx) (wb : Open.WfInt .u8 b) :
    ∃ k, entrepotlaw12_ExpressTurned.f k a nm kd mt sc cp fl ns mx b = some true := by
  refine Ev.rounds ?_
  have ha := wf_u8 wa
  have hb := wf_u8 wb
  unfold entrepotlaw12_ExpressTurned.f
  obtain ⟨x, hx, hl⟩ := long_tells nm kd mt sc cp fl ns mx
  have hf : ∃ f, wrap64 (1 + Int.tmod (wrap64 a) 3) = f ∧ (f = 1 ∨ f = 2 ∨ f = 3) := by
    rw [wrap64_id (a := a) (by omega) (by omega), Int.tmod_eq_emod_of_nonneg ha.1, wrap64_id (by omega) (by omega)]
    exact ⟨_, rfl, by omega⟩
  obtain ⟨f, hfe, hf⟩ := hf
  rw [hfe]
  refine Ev.bs hx ?_
  cases x with
  | true => exact Ev.pos rfl (turned_shown ..)
  | false =>
    have hn := (hl rfl).1
    refine Ev.neg (by simp) (Ev.bs shown_true (Ev.step (fun _ => entrepotlaw12_ExpressTurned.j0.eq_2 ..) (Ev.neg (by simp) ?_)))
    let I : Inst := (nm, kd, mt, sc, cp, fl, ns, mx)
    have hI := lacks_can hf I
    refine Ev.bs (x := lacksOf f nm kd mt sc fl ns) (by unfold express_Lacks.f; rfl) ?_
    by_cases h0 : (lacksOf f nm kd mt sc fl ns).length = 0
    · refine Ev.pos (by omega) (Ev.bs (can_tells f nm kd mt sc cp fl ns mx) (Ev.this ?_))
      rw [h0]; rfl
    · refine Ev.neg (by omega) ?_
      have hlen : (lacksOf f nm kd mt sc fl ns).length ≤ 13 := by
        have e : lacksOf f nm kd mt sc fl ns = _ := hI
        rw [e]; exact Nat.le_trans (List.length_filter_le _ _) (by rw [LacksWalk.upto_len]; omega)
      obtain ⟨t, rfl⟩ : ∃ n : Nat, b = (n : Int) := ⟨b.toNat, by omega⟩
      rw [wrap64_id (a := (t : Int)) (by omega) (by omega), show Int.tmod (t : Int) ((lacksOf f nm kd mt sc fl ns).length : Int) = ((t % (lacksOf f nm kd mt sc fl ns).length : Nat) : Int) from rfl]
      exact turned_loop hf I (lacksOf f nm kd mt sc fl ns) hI _ (Nat.mod_lt _ (by omega)) (lacksOf f nm kd mt sc fl ns).length 0 I I (by omega) hn hn (fun h => by simp) (fun h => by simp)
end Go.Proofs.Ytmapllahhpdedaa.Pure
