/- express.Lacks: its contract, out of the walks, one a format. -/
import Derived.Test.YtmapllahhpdedaaGLacksB
namespace Go.Proofs.Ytmapllahhpdedaa
open Go.RowKit Go.Proofs.YtmapllahhpdedaaW.PrintWords Go.Proofs.YtmapllahhpdedaaW.PrintLast Go.Proofs.YtmapllahhpdedaaW.PrintMore
set_option linter.unusedVariables false
namespace LacksWalk

/-- the fields of the looks that fail. -/
def fails (l : List Look) : List Int := l.filterMap fun k => if k.f1 = true then none else some k.f0
theorem fails_yes (a : Look) (t : List Look) (h : a.f1 = true) : fails (a :: t) = fails t := by unfold fails; rw [List.filterMap_cons, if_pos h]
theorem fails_no (a : Look) (t : List Look) (h : ¬ a.f1 = true) : fails (a :: t) = a.f0 :: fails t := by unfold fails; rw [List.filterMap_cons, if_neg h]
theorem lacking_from (l : List Look) (hl : l.length ≤ 1000) (d : Nat) : ∀ (k i : Nat) (acc : List Int), i + d = l.length → d < k → acc.length ≤ i → P.express_lacking.l0 k acc l (l.length : Int) (i : Int) = some (acc ++ fails (l.drop i)) := by
  induction d with
  | zero =>
    intro k i acc hi hk ha
    obtain ⟨k, rfl⟩ : ∃ m, k = m + 1 := ⟨k - 1, by omega⟩
    simp only [P.express_lacking.l0]
    rw [if_neg (by omega), List.drop_of_length_le (by omega)]
    simp [fails]
  | succ d ih =>
    intro k i acc hi hk ha
    obtain ⟨k, rfl⟩ : ∃ m, k = m + 1 := ⟨k - 1, by omega⟩
    simp only [P.express_lacking.l0]
    have hlt : i < l.length := by omega
    have e : P.rd_T46 l (i : Int) = l[i] := by
      unfold P.rd_T46
      rw [Int.toNat_natCast, List.getD_eq_getElem?_getD, List.getElem?_eq_getElem hlt]; rfl
    have hw : wrap64 ((i : Int) + 1) = ((i + 1 : Nat) : Int) := by unfold wrap64; omega
    rw [if_pos (by omega), if_pos (by omega), if_pos (by omega), e, hw, List.drop_eq_getElem_cons hlt]
    by_cases hc : l[i].f1 = true
    · rw [if_pos hc, ih k (i + 1) acc (by omega) (by omega) (by omega), fails_yes _ _ hc]
    · rw [if_neg hc, if_pos (by omega), ih k (i + 1) _ (by omega) (by omega) (by simp; omega), fails_no _ _ hc, List.append_assoc]
      rfl
theorem lacking_tells (l : List Look) (hl : l.length ≤ 1000) : P.express_lacking.f (l.length + 1) l = some (fails l) := by
  unfold P.express_lacking.f
  have := lacking_from l hl l.length (l.length + 1) 0 [] (by omega) (by omega) (by simp)
  simpa using this
end LacksWalk
open LacksWalk

/-- What express.Lacks computes. -/
def lacksOf (fmt : Int) (name : ByteArray) (kind metric scale fleet : Int) (l : List LacksWalk.Node) : List Int :=
  if fmt = 1 then fails (looks1 kind metric fleet l) else if fmt = 2 then fails (looks2 kind metric fleet l) else if fmt = 3 then fails (looks3 name kind metric scale fleet) else if fmt = 4 ∨ fmt = 5 then [] else upto 13
def express_Lacks.f (a0 : Int) (a1_0 : ByteArray) (a1_1 : Int) (a1_2 : Int) (a1_3 : Int) (a1_4 : Int) (a1_5 : Int) (l1_6 : List LacksWalk.Node) (l1_7 : List Int) : Option (List Int) := some (lacksOf a0 a1_0 a1_1 a1_2 a1_3 a1_5 l1_6)
theorem express_Lacks.calls (a0 : Int) (a1_0 : ByteArray) (a1_1 : Int) (a1_2 : Int) (a1_3 : Int) (a1_4 : Int) (a1_5 : Int) (A1_6 : Option Addr) (c1_6 : Nat) (l1_6 : List LacksWalk.Node) (A1_7 : Option Addr) (c1_7 : Nat) (l1_7 : List Int) (r : List Int) (w : World) (hr1_6 : Kd.C P.k40 w A1_6 l1_6.length l1_6) (hc1_6 : l1_6.length ≤ c1_6) (hr1_7 : Kd.C (Kd.int .i64) w A1_7 l1_7.length l1_7) (hc1_7 : l1_7.length ≤ c1_7) (h : express_Lacks.f a0 a1_0 a1_1 a1_2 a1_3 a1_4 a1_5 l1_6 l1_7 = some r) :
    Calls Try.prog 9 #[.int .i64 a0, .agg #[.string a1_0, .int .i64 a1_1, .int .i64 a1_2, .int .i64 a1_3, .int .i64 a1_4, .int .i64 a1_5, .slice A1_6 l1_6.length c1_6, .slice A1_7 l1_7.length c1_7]] w fun e w' => ∃ v0_ : Value, e = .returned v0_ ∧ Kd.R (Kd.int .i64) 3 w' w.heap.size (fun _ => True) v0_ r ∧ Below w.heap.size w w' := by
  have h1 := Option.some.inj h
  subst h1
  unfold lacksOf
  by_cases f1 : a0 = 1
  · subst f1
    rw [if_pos rfl]
    have t := lacking_tells (looks1 a1_1 a1_2 a1_5 l1_6) (by simp [looks1])
    have kn := known_tells a1_2
    cases hk : known a1_2 with
    | true =>
      rw [hk] at kn
      cases hb : (a1_1 == 1) with
      | true => exact lacks1_tt a1_0 1 a1_1 a1_2 a1_3 a1_4 a1_5 A1_6 c1_6 l1_6 A1_7 c1_7 l1_7 _ _ w hr1_6 kn hb t
      | false => exact lacks1_ft a1_0 1 a1_1 a1_2 a1_3 a1_4 a1_5 A1_6 c1_6 l1_6 A1_7 c1_7 l1_7 _ _ w hr1_6 kn hb t
    | false =>
      rw [hk] at kn
      cases hb : (a1_1 == 1) with
      | true => exact lacks1_tf a1_0 1 a1_1 a1_2 a1_3 a1_4 a1_5 A1_6 c1_6 l1_6 A1_7 c1_7 l1_7 _ _ w hr1_6 kn hb t
      | false => exact lacks1_ff a1_0 1 a1_1 a1_2 a1_3 a1_4 a1_5 A1_6 c1_6 l1_6 A1_7 c1_7 l1_7 _ _ w hr1_6 kn hb t
  · rw [if_neg f1]
    by_cases f2 : a0 = 2
    · subst f2
      rw [if_pos rfl]
      exact lacks2 a1_0 2 a1_1 a1_2 a1_3 a1_4 a1_5 A1_6 c1_6 l1_6 A1_7 c1_7 l1_7 _ _ w hr1_6 (lacking_tells _ (by simp [looks2]))
    · rw [if_neg f2]
      by_cases f3 : a0 = 3
      · subst f3
        rw [if_pos rfl]
        exact lacks3 a1_0 3 a1_1 a1_2 a1_3 a1_4 a1_5 A1_6 c1_6 l1_6 A1_7 c1_7 l1_7 _ _ w hr1_6 (lacking_tells _ (by simp [looks3]))
      · rw [if_neg f3]
        by_cases f4 : a0 = 4
        · subst f4
          rw [if_pos (.inl rfl)]
          exact lacks4 a1_0 4 a1_1 a1_2 a1_3 a1_4 a1_5 A1_6 c1_6 l1_6 A1_7 c1_7 l1_7 [] 0 w hr1_6
        · by_cases f5 : a0 = 5
          · subst f5
            rw [if_pos (.inr rfl)]
            exact lacks5 a1_0 5 a1_1 a1_2 a1_3 a1_4 a1_5 A1_6 c1_6 l1_6 A1_7 c1_7 l1_7 [] 0 w hr1_6
          · rw [if_neg (fun h => h.elim f4 f5)]
            exact lacks_other a1_0 a0 a1_1 a1_2 a1_3 a1_4 a1_5 A1_6 c1_6 l1_6 A1_7 c1_7 l1_7 [] 0 w hr1_6 (beq_eq_false_iff_ne.2 f1) (beq_eq_false_iff_ne.2 f2) (beq_eq_false_iff_ne.2 f3) (beq_eq_false_iff_ne.2 f4) (beq_eq_false_iff_ne.2 f5)
theorem same_calls {P : Program} {f : FuncId} {args : Array Value} {w : World} {R : Ending → World → Prop} (h : Calls P f args w R) : Calls P f args w R := h
attribute [irreducible] lacksOf express_Lacks.f
end Go.Proofs.Ytmapllahhpdedaa
