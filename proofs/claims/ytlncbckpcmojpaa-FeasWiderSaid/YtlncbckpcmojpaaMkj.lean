/- Texts of this session in one: What feas.Check tells, in plain words: which wrongs there are, and how they stand. Plain lemmas on lists.; Two instances that are alike for what feas.Check asks: the same wrongs, or no more. Plain lemmas. -/
import Derived.Test.YtlncbckpcmojpaaMkg
import Derived.Test.YtlncbckpcmojpaaMki
set_option linter.unusedVariables false
namespace Go.Proofs.Ytlncbckpcmojpaa
open Go.RowKit Go.Proofs.YtlncbckpcmojpaaW.PrintWords Go.Proofs.YtlncbckpcmojpaaW.PrintLast
namespace FeasP
open P FeasWalk StopsWalk AllWalk
theorem route_eq (x : Look) (i : Int) (l : List Int) : routeB x i l (looksOf x.kd).length = (if 2 ≤ x.kd ∧ x.kd ≤ 4 then loadB x i l else []) ++ ((if 3 ≤ x.kd ∧ x.kd ≤ 4 then lateB x i l else []) ++ (if x.kd = 4 then pairAll x i l l.length else [])) := by
  unfold routeB
  rw [List.take_length]
  unfold looksOf
  by_cases h4 : x.kd = 4
  · rw [if_pos h4, if_pos (by omega), if_pos (by omega), if_pos h4]; simp only [List.flatMap_cons, List.flatMap_nil, List.append_nil]; rfl
  · rw [if_neg h4, if_neg h4]
    by_cases h3 : x.kd = 3
    · rw [if_pos h3, if_pos (by omega), if_pos (by omega)]; simp only [List.flatMap_cons, List.flatMap_nil, List.append_nil]; rfl
    · rw [if_neg h3, if_neg (c := 3 ≤ x.kd ∧ x.kd ≤ 4) (by omega)]
      by_cases h2 : x.kd = 2
      · rw [if_pos h2, if_pos (by omega)]; simp only [List.flatMap_cons, List.flatMap_nil, List.append_nil]; rfl
      · rw [if_neg h2, if_neg (by omega)]; rfl
theorem rows_in {x : Look} {rs : List (List Int)} (h : badAll x rs rs.length = []) {i : Nat} (hi : i < rs.length) : ∀ s ∈ rs[i], 0 ≤ s ∧ s < (x.ns.length : Int) := by
  have := not_bad h hi
  rwa [Well11.rd1_at hi] at this
/-- What each one of them tells. -/
def Told (rs : List (List Int)) (w : Wrong) : Prop :=
  (w.f0 = 1 ∧ ∃ i : Nat, ∃ hi : i < rs.length, w.f1 = (i : Int) ∧ w.f2 ∈ rs[i]) ∨ (w.f0 = 2 ∧ w.f1 = 0 ∧ 1 < rs.flatten.count w.f2) ∨ (w.f0 = 3 ∧ w.f1 = 0 ∧ rs.flatten.count w.f2 = 0) ∨ (w.f0 = 4 ∧ w.f1 = 0) ∨
    (5 ≤ w.f0 ∧ w.f0 ≤ 8 ∧ ∃ i : Nat, ∃ hi : i < rs.length, w.f1 = (i : Int) ∧ (w.f2 ∈ rs[i] ∨ w.f0 = 6 ∧ w.f2 = 0))
theorem ok_good {kd mt sc cp fl : Int} {ns : List FeasWalk.Node} {mx : List Int} (g : Well11.Good kd mt sc cp fl ns mx) : okF mt ns.length mx.length = true :=
  decide_eq_true ⟨g.cnt.2, by have := g.cnt.1; omega, fun e => by rw [g.mxl.1 e]; exact Nat.le_refl _⟩
theorem few_long {rs : List (List Int)} (h1 : rs.length ≤ 300) (h2 : ∀ r ∈ rs, r.length ≤ 300) : fewF rs = true := by
  unfold fewF; simp only [Bool.and_eq_true, decide_eq_true_eq, List.all_eq_true]; exact ⟨h1, h2⟩
theorem feasible_some {nm : ByteArray} {kd mt sc cp fl : Int} {ns : List FeasWalk.Node} {mx : List Int} {rs : List (List Int)} (h1 : okF mt ns.length mx.length = true) (h2 : fewF rs = true) : feas_Feasible.f nm kd mt sc cp fl ns mx rs = some (wrongsOf (lk nm kd mt sc cp fl ns mx) rs).isEmpty := by
  unfold feas_Feasible.f; rw [if_pos ⟨h1, h2⟩]
end FeasP
end Go.Proofs.Ytlncbckpcmojpaa
set_option linter.unusedVariables false
namespace Go.Proofs.Ytlncbckpcmojpaa
open Go.RowKit Go.Proofs.YtlncbckpcmojpaaW.PrintWords Go.Proofs.YtlncbckpcmojpaaW.PrintLast
namespace FeasP
open P FeasWalk StopsWalk AllWalk
open Well11 (rdN)
/-- Alike but for capacity, fleet and the ends of windows. -/
structure Like (x y : Look) : Prop where
  kd : x.kd = y.kd
  u : unitOf x.mt = unitOf y.mt
  n : x.ns.length = y.ns.length
  some : 0 < x.ns.length
  leg : ∀ i j, i < x.ns.length → j < x.ns.length → legP x i j = legP y i j
  nod : ∀ i : Nat, i < x.ns.length → (rdN x.ns (i : Int)).f2 = (rdN y.ns (i : Int)).f2 ∧ (rdN x.ns (i : Int)).f3 = (rdN y.ns (i : Int)).f3 ∧ (rdN x.ns (i : Int)).f5 = (rdN y.ns (i : Int)).f5 ∧ (rdN x.ns (i : Int)).f6 = (rdN y.ns (i : Int)).f6
section
variable {x y : Look} (h : Like x y)
include h
/-- How runs through a route hang together; Q: of who is late. -/
def Twin (n : Nat) (Q : Int → Int → Prop) (r r' : Run) : Prop := r.at_ = r'.at_ ∧ r.now = r'.now ∧ r.out = r'.out ∧ r.at_ < n ∧ Q r.late r'.late
theorem twin_go {Q : Int → Int → Prop} (hQ : ∀ a b now (i : Nat), i < x.ns.length → Q a b → Q (lateT a now (unitOf x.mt) (rdN x.ns (i : Int)).f4 i) (lateT b now (unitOf x.mt) (rdN y.ns (i : Int)).f4 i)) {r r' : Run} (hr : Twin x.ns.length Q r r') {s : Nat} (hs : s < x.ns.length) :
    Twin x.ns.length Q (goTo x (unitOf x.mt) r s) (goTo y (unitOf y.mt) r' s) := by
  obtain ⟨h1, h2, h3, h4, h5⟩ := hr
  unfold goTo
  rw [← h.u, ← h1, ← h2, ← h.leg r.at_ s h4 hs]
  exact ⟨rfl, rfl, h3, hs, hQ _ _ _ s hs h5⟩
theorem twin_serve {Q : Int → Int → Prop} {r r' : Run} (hr : Twin x.ns.length Q r r') {s : Nat} (hs : s < x.ns.length) :
    Twin x.ns.length Q (FeasWalk.serve x (unitOf x.mt) r s) (FeasWalk.serve y (unitOf y.mt) r' s) := by
  obtain ⟨h1, h2, h3, h4, h5⟩ := hr
  obtain ⟨-, e3, e5, -⟩ := h.nod s hs
  unfold rdN at e3 e5
  unfold FeasWalk.serve
  rw [← h.u, ← h1, ← h2, ← h3, ← e3, ← e5]
  exact ⟨rfl, rfl, rfl, h4, h5⟩
theorem twin_along {Q : Int → Int → Prop} (hQ : ∀ a b now (i : Nat), i < x.ns.length → Q a b → Q (lateT a now (unitOf x.mt) (rdN x.ns (i : Int)).f4 i) (lateT b now (unitOf x.mt) (rdN y.ns (i : Int)).f4 i)) : ∀ (l : List Int) (hl : ∀ s ∈ l, 0 ≤ s ∧ s < (x.ns.length : Int)) (r r' : Run) (hr : Twin x.ns.length Q r r'),
    Twin x.ns.length Q (l.foldl (fun r s => FeasWalk.serve x (unitOf x.mt) (goTo x (unitOf x.mt) r s.toNat) s.toNat) r) (l.foldl (fun r s => FeasWalk.serve y (unitOf y.mt) (goTo y (unitOf y.mt) r s.toNat) s.toNat) r')
  | [], _, _, _, hr => hr
  | a :: l, hl, r, r', hr => by
    have ha := hl a List.mem_cons_self
    rw [List.foldl_cons, List.foldl_cons]
    exact twin_along hQ l (fun s hs => hl s (List.mem_cons_of_mem _ hs)) _ _ (twin_serve h (twin_go h hQ hr (s := a.toNat) (by omega)) (by omega))
theorem times_twin {Q : Int → Int → Prop} (h1 : Q (-1) (-1)) (hQ : ∀ a b now (i : Nat), i < x.ns.length → Q a b → Q (lateT a now (unitOf x.mt) (rdN x.ns (i : Int)).f4 i) (lateT b now (unitOf x.mt) (rdN y.ns (i : Int)).f4 i)) {l : List Int} (hl : ∀ s ∈ l, 0 ≤ s ∧ s < (x.ns.length : Int)) :
    (timesOf x l).1 = (timesOf y l).1 ∧ Q (timesOf x l).2 (timesOf y l).2 := by
  unfold timesOf
  split
  · exact ⟨rfl, h1⟩
  · have h0 := h.nod 0 h.some
    have hs : Twin x.ns.length Q (FeasWalk.start x (unitOf x.mt)) (FeasWalk.start y (unitOf y.mt)) := by
      refine ⟨rfl, ?_, rfl, h.some, h1⟩
      show wrap64 (unitOf x.mt * (rdN x.ns 0).f3) = wrap64 (unitOf y.mt * (rdN y.ns 0).f3)
      rw [← h.u, show (rdN x.ns 0).f3 = (rdN y.ns 0).f3 from h0.2.1]
    have := twin_go h hQ (twin_along h hQ l hl _ _ hs) (s := 0) h.some
    exact ⟨this.2.2.1, this.2.2.2.2⟩
theorem bad_like (rs : List (List Int)) (k : Nat) : badAll x rs k = badAll y rs k := by
  have e : badB x = badB y := funext fun s => by unfold badB; rw [h.n, h.kd]
  unfold badAll badTo
  rw [e]
theorem cov_like (cs : List Int) (k : Nat) : covAll x cs k = covAll y cs k := by
  have e : covB x = covB y := funext fun cs => funext fun k => by unfold covB; rw [h.kd]
  unfold covAll
  rw [e]
theorem sums_like : ∀ (l : List Int) (hl : ∀ s ∈ l, 0 ≤ s ∧ s < (x.ns.length : Int)) (s : Int), sumsFrom x s l = sumsFrom y s l
  | [], _, _ => rfl
  | a :: l, hl, s => by
    have ha := hl a List.mem_cons_self
    have e := (h.nod a.toNat (by omega)).1
    rw [show ((a.toNat : Nat) : Int) = a by omega] at e
    unfold rdN at e
    unfold sumsFrom
    rw [e, sums_like l (fun s hs => hl s (List.mem_cons_of_mem _ hs))]
theorem loads_like {l : List Int} (hl : ∀ s ∈ l, 0 ≤ s ∧ s < (x.ns.length : Int)) : loadsOf x l = loadsOf y l := by
  unfold loadsOf oddR
  rw [h.n, sums_like h l hl]
theorem pair_like (i : Int) {l : List Int} (hl : ∀ s ∈ l, 0 ≤ s ∧ s < (x.ns.length : Int)) : pairAll x i l l.length = pairAll y i l l.length := by
  unfold pairAll
  rw [List.flatMap_def, List.flatMap_def, List.map_congr_left (g := pairB y i l)]
  intro k hk
  have hk := List.mem_range.1 hk
  have hs : rd l (k : Int) ∈ l := by rw [rd_at' hk]; exact List.getElem_mem _
  have ha := hl _ hs
  have e := h.nod (rd l (k : Int)).toNat (by omega)
  rw [show (((rd l (k : Int)).toNat : Nat) : Int) = rd l (k : Int) by omega] at e
  unfold rdN at e
  unfold pairB
  rw [e.1, e.2.2.2]
end
theorem idx_neg {p : Int → Bool} {l : List Int} : idx p l < 0 ↔ ∀ a ∈ l, p a = false := by
  unfold idx
  split
  · rename_i h
    obtain ⟨a, ha, hp⟩ := List.any_eq_true.1 h
    exact ⟨fun e => by omega, fun e => by rw [e a ha] at hp; cases hp⟩
  · rename_i h
    have h := Bool.eq_false_iff.2 h
    rw [List.any_eq_false] at h
    exact ⟨fun _ a ha => Bool.eq_false_iff.2 (h a ha), fun _ => by omega⟩
theorem loadB_nil {x : Look} {i : Int} {l : List Int} : loadB x i l = [] ↔ ∀ a ∈ loadsOf x l, over x a = false := by
  rw [← idx_neg]
  unfold loadB
  split
  · exact ⟨fun e => (by cases e), fun e => by omega⟩
  · exact ⟨fun _ => by omega, fun _ => rfl⟩
theorem lateB_nil {x : Look} {i : Int} {l : List Int} : lateB x i l = [] ↔ (timesOf x l).2 < 0 := by
  unfold lateB
  split
  · exact ⟨fun e => (by cases e), fun e => by omega⟩
  · exact ⟨fun _ => by omega, fun _ => rfl⟩
theorem fleetB_nil {x : Look} {n : Int} : fleetB x n = [] ↔ ¬ ((x.kd = 1 ∧ n ≠ 1) ∨ (x.kd ≠ 1 ∧ x.fl > 0 ∧ n > x.fl)) := by
  unfold fleetB
  split
  · rename_i h; exact ⟨fun e => (by cases e), fun e => absurd h e⟩
  · rename_i h; exact ⟨fun _ => h, fun _ => rfl⟩
theorem routesB_nil {x : Look} {rs : List (List Int)} : routesB x rs rs.length = [] ↔ ∀ (i : Nat) (hi : i < rs.length), routeB x (i : Int) rs[i] (looksOf x.kd).length = [] := by
  unfold routesB
  rw [List.flatMap_eq_nil_iff]
  constructor
  · intro h i hi
    have := h i (List.mem_range.2 hi)
    rwa [Well11.rd1_at hi] at this
  · intro h i hi
    have hi := List.mem_range.1 hi
    rw [Well11.rd1_at hi]; exact h i hi
theorem wrongs_nil {x : Look} {rs : List (List Int)} : wrongsOf x rs = [] ↔ badAll x rs rs.length = [] ∧ covAll x (counts x.ns.length (stopsOf rs)) x.ns.length = [] ∧ fleetB x ((filled rs).length : Int) = [] ∧ routesB x rs rs.length = [] := by
  unfold wrongsOf
  split
  · rename_i h
    rw [List.append_eq_nil_iff, List.append_eq_nil_iff]
    exact ⟨fun e => ⟨h, e.1.1, e.1.2, e.2⟩, fun e => ⟨⟨e.2.1, e.2.2.1⟩, e.2.2.2⟩⟩
  · rename_i h
    exact ⟨fun e => absurd e h, fun e => absurd e.1 h⟩
theorem route_nil {x : Look} {i : Int} {l : List Int} : routeB x i l (looksOf x.kd).length = [] ↔ (2 ≤ x.kd ∧ x.kd ≤ 4 → ∀ a ∈ loadsOf x l, over x a = false) ∧ (3 ≤ x.kd ∧ x.kd ≤ 4 → (timesOf x l).2 < 0) ∧ (x.kd = 4 → pairAll x i l l.length = []) := by
  rw [route_eq, List.append_eq_nil_iff, List.append_eq_nil_iff]
  refine and_congr ?_ (and_congr ?_ ?_)
  · by_cases h : 2 ≤ x.kd ∧ x.kd ≤ 4
    · rw [if_pos h, loadB_nil]; exact ⟨fun e _ => e, fun e => e h⟩
    · rw [if_neg h]; exact ⟨fun _ e => absurd e h, fun _ => rfl⟩
  · by_cases h : 3 ≤ x.kd ∧ x.kd ≤ 4
    · rw [if_pos h, lateB_nil]; exact ⟨fun e _ => e, fun e => e h⟩
    · rw [if_neg h]; exact ⟨fun _ e => absurd e h, fun _ => rfl⟩
  · by_cases h : x.kd = 4
    · rw [if_pos h]; exact ⟨fun e _ => e, fun e => e h⟩
    · rw [if_neg h]; exact ⟨fun _ e => absurd e h, fun _ => rfl⟩
end FeasP
end Go.Proofs.Ytlncbckpcmojpaa
