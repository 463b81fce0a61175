/- Whatever the instance, if it is no longer than the bound and well-formed: it can be expressed in JSON and in bytes, and in one at most of the three others, by its kind. -/
import Derived.Test.YtmapllahhpdedaaPxEntrepotlaw12ExpressOne
import Derived.Test.YtmapllahhpdedaaGExp
import Derived.Test.YtmapllahhpdedaaGIts12
import Derived.Test.YtmapllahhpdedaaGRef08
namespace Go.Proofs.Ytmapllahhpdedaa.Pure
open Go.RowKit Go.Proofs.Ytmapllahhpdedaa.P Go.Proofs.YtmapllahhpdedaaW.PrintWords Go.Proofs.YtmapllahhpdedaaW.PrintLast LacksWalk Ref12

theorem fails_first {a : Look} {t : List Look} (h : (fails (a :: t)).length = 0) : a.f1 = true := by
  by_cases c : a.f1 = true
  · exact c
  · rw [fails_no _ _ c] at h; simp at h
variable (nm : ByteArray) (kd mt sc cp fl : Int) (ns : List Open.Node) (mx : List Int)
def canB (fmt : Int) : Bool := (lacksOf fmt nm kd mt sc fl ns).length == 0
theorem can1 (h : canB nm kd mt sc fl ns 1 = true) : kd = 1 ∨ kd = 2 := by
  unfold canB lacksOf at h
  rw [if_pos rfl] at h
  have := fails_first (eq_of_beq h)
  simpa using this
theorem can2 (h : canB nm kd mt sc fl ns 2 = true) : kd = 3 := by
  unfold canB lacksOf at h
  rw [if_neg (by omega), if_pos rfl] at h
  have := fails_first (eq_of_beq h)
  simpa using this
theorem can3 (h : canB nm kd mt sc fl ns 3 = true) : kd = 4 := by
  unfold canB lacksOf at h
  rw [if_neg (by omega), if_neg (by omega), if_pos rfl] at h
  have h2 := eq_of_beq h
  unfold looks3 at h2
  by_cases c : isLilim nm = true
  · rw [fails_yes _ _ c] at h2
    have := fails_first h2
    simpa using this
  · rw [fails_no _ _ c] at h2; simp at h2
theorem can45 : canB nm kd mt sc fl ns 4 = true ∧ canB nm kd mt sc fl ns 5 = true := by
  unfold canB lacksOf
  constructor
  · rw [if_neg (by omega), if_neg (by omega), if_neg (by omega), if_pos (.inl rfl)]; rfl
  · rw [if_neg (by omega), if_neg (by omega), if_neg (by omega), if_pos (.inr rfl)]; rfl
theorem can_some (fmt : Int) : express_Can.f fmt nm kd mt sc cp fl ns mx = some (canB nm kd mt sc fl ns fmt) := can_tells fmt nm kd mt sc cp fl ns mx
theorem w1 : wrap64 (0 + 1) = 1 ∧ wrap64 (1 + 1) = 2 ∧ wrap64 (2 + 1) = 3 ∧ wrap64 (3 + 1) = 4 := by decide +kernel
theorem one4 (n : Int) (h : n ≤ 1) : Ev (fun k => entrepotlaw12_ExpressOne.l0 k n 4 nm kd mt sc cp fl ns mx) true := by
  obtain ⟨h4, h5⟩ := can45 nm kd mt sc fl ns
  refine Ev.step (fun _ => entrepotlaw12_ExpressOne.l0.eq_2 ..) (Ev.neg (by omega) (Ev.pos h (Ev.bs (can_some ..) (Ev.pos h4 (Ev.bs (can_some ..) (Ev.this ?_))))))
  rw [h5]
theorem one3 (n : Int) (h0 : 0 ≤ n) (h : n ≤ 1) (hk : canB nm kd mt sc fl ns 3 = true → n = 0) : Ev (fun k => entrepotlaw12_ExpressOne.l0 k n 3 nm kd mt sc cp fl ns mx) true := by
  refine Ev.step (fun _ => entrepotlaw12_ExpressOne.l0.eq_2 ..) (Ev.pos (by omega) (Ev.bs (can_some ..) ?_))
  simp only [Int.reduceEq, ↓reduceIte]
  by_cases c : canB nm kd mt sc fl ns 3 = true
  · have := hk c
    subst this
    refine Ev.pos c (Ev.pos (can3 _ _ _ _ _ _ c) ?_)
    rw [w1.1, w1.2.2.2]
    exact one4 nm kd mt sc cp fl ns mx 1 (by omega)
  · refine Ev.neg c ?_
    rw [w1.2.2.2]
    exact one4 nm kd mt sc cp fl ns mx n h
theorem one2 (n : Int) (h0 : 0 ≤ n) (h : n ≤ 1) (hk : n = 0 ∨ (kd ≠ 3 ∧ kd ≠ 4)) : Ev (fun k => entrepotlaw12_ExpressOne.l0 k n 2 nm kd mt sc cp fl ns mx) true := by
  refine Ev.step (fun _ => entrepotlaw12_ExpressOne.l0.eq_2 ..) (Ev.pos (by omega) (Ev.bs (can_some ..) ?_))
  simp only [Int.reduceEq, ↓reduceIte]
  by_cases c : canB nm kd mt sc fl ns 2 = true
  · have h3 := can2 _ _ _ _ _ _ c
    have : n = 0 := by omega
    subst this
    refine Ev.pos c (Ev.pos h3 ?_)
    rw [w1.1, w1.2.2.1]
    exact one3 nm kd mt sc cp fl ns mx 1 (by omega) (by omega) (fun e => by have := can3 _ _ _ _ _ _ e; omega)
  · refine Ev.neg c ?_
    rw [w1.2.2.1]
    exact one3 nm kd mt sc cp fl ns mx n h0 h (fun e => by have := can3 _ _ _ _ _ _ e; omega)
theorem one1 : Ev (fun k => entrepotlaw12_ExpressOne.l0 k 0 1 nm kd mt sc cp fl ns mx) true := by
  refine Ev.step (fun _ => entrepotlaw12_ExpressOne.l0.eq_2 ..) (Ev.pos (by omega) (Ev.bs (can_some ..) ?_))
  simp only [Int.reduceEq, ↓reduceIte]
  by_cases c : canB nm kd mt sc fl ns 1 = true
  · have h3 := can1 _ _ _ _ _ _ c
    refine Ev.pos c (Ev.neg (by omega) ?_)
    rw [w1.1, w1.2.1]
    exact one2 nm kd mt sc cp fl ns mx 1 (by omega) (by omega) (by omega)
  · refine Ev.neg c ?_
    rw [w1.2.1]
    exact one2 nm kd mt sc cp fl ns mx 0 (by omega) (by omega) (.inl rfl)
theorem one_shown : Ev (fun k => entrepotlaw12_ExpressOne.j0 k true nm kd mt sc cp fl ns mx) true :=
  Ev.step (fun _ => entrepotlaw12_ExpressOne.j0.eq_2 ..) (Ev.pos rfl (Ev.this (by rw [shown_true, bind_s])))
theorem ExpressOne (nm : ByteArray) (kd mt sc cp fl : Int) (ns : List Open.Node) (mx : List Int) (_ : Open.InstGood nm kd mt sc cp fl ns mx) :
    ∃ k, entrepotlaw12_ExpressOne.f k nm kd mt sc cp fl ns mx = some true := by
  refine Ev.rounds ?_
  unfold entrepotlaw12_ExpressOne.f
  obtain ⟨b, hb, hl⟩ := long_tells nm kd mt sc cp fl ns mx
  refine Ev.bs hb ?_
  cases b with
  | true => exact Ev.pos rfl (one_shown nm kd mt sc cp fl ns mx)
  | false =>
    obtain ⟨hn, _, hs⟩ := hl rfl
    refine Ev.neg (by simp) (Ev.bind (its_ev nm kd mt sc cp fl mx hn) (Ev.bind (Ref08.well_ev nm kd mt sc cp fl (ns.map conv) mx (by omega)) ?_))
    cases Ref08.wellB nm kd mt sc cp fl (ns.map conv) mx with
    | true =>
      refine Ev.pos rfl (Ev.bs shown_true (Ev.step (fun _ => entrepotlaw12_ExpressOne.j0.eq_2 ..) (Ev.neg (by simp) ?_)))
      exact one1 nm kd mt sc cp fl ns mx
    | false => exact Ev.neg (by simp) (one_shown nm kd mt sc cp fl ns mx)
end Go.Proofs.Ytmapllahhpdedaa.Pure
