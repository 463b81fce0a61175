/- Texts of this session in one: What feas.Check tells, in plain words: which wrongs there are, and how they stand. Plain lemmas on lists.; Two instances that are alike for what feas.Check asks: the same wrongs, or no more. Plain lemmas. -/
import Derived.Test.YtlncbckpcmojpaaMkg
import Derived.Test.YtlncbckpcmojpaaMki
set_option linter.unusedVariables false
namespace Go.Proofs.Ytlncbckpcmojpaa
open Go.RowKit Go.Proofs.YtlncbckpcmojpaaW.PrintWords Go.Proofs.YtlncbckpcmojpaaW.PrintLast
namespace FeasP
open P FeasWalk StopsWalk AllWalk
theorem rows_eq (rs : List (List Int)) : (List.range rs.length).map (fun i : Nat => rd_L1 rs (i : Int)) = rs := by
  refine List.ext_getElem (by simp) fun i h1 h2 => ?_
  rw [List.getElem_map, List.getElem_range, Well11.rd1_at h2]
theorem nums_eq (r : List Int) : (List.range r.length).map (fun i : Nat => rd r (i : Int)) = r := by
  refine List.ext_getElem (by simp) fun i h1 h2 => ?_
  rw [List.getElem_map, List.getElem_range]; unfold rd; rw [Int.toNat_natCast, List.getD_eq_getElem?_getD, List.getElem?_eq_getElem h2]; rfl
theorem stops_vals (rs : List (List Int)) : (stopsOf rs).map (fun y => y.2) = rs.flatten := by
  have e : ∀ i : Nat, (ofRoute rs i).map (fun y => y.2) = rd_L1 rs (i : Int) := fun i => by
    unfold ofRoute upto
    rw [List.map_map, List.map_map]
    exact nums_eq _
  unfold stopsOf upTo
  rw [List.map_flatMap]
  simp only [e]
  rw [List.flatMap_def, rows_eq]
theorem counts_at (rs : List (List Int)) {n c : Nat} (hc : c < n) : (counts n (stopsOf rs)).getD c 0 = ((rs.flatten.count (c : Int) : Nat) : Int) := by
  rw [counts_getD _ _ hc, ← stops_vals, List.count, List.countP_map]; rfl
theorem route_eq (x : Look) (i : Int) (l : List Int) : routeB x i l (looksOf x.kd).length = (if 2 ≤ x.kd ∧ x.kd ≤ 4 then loadB x i l else []) ++ ((if 3 ≤ x.kd ∧ x.kd ≤ 4 then lateB x i l else []) ++ (if x.kd = 4 then pairAll x i l l.length else [])) := by
  unfold routeB
  rw [List.take_length]
  unfold looksOf
  by_cases h4 : x.kd = 4
  · rw [if_pos h4, if_pos (by omega), if_pos (by omega), if_pos h4]; simp only [List.flatMap_cons, List.flatMap_nil, List.append_nil]; rfl
  · rw [if_neg h4, if_neg h4]
    by_cases h3 : x.kd = 3
    · rw [if_pos h3, if_pos (by omega), if_pos (by omega)]; simp only [List.flatMap_cons, List.flatMap_nil, List.append_nil]; rfl
    · rw [if_neg h3, if_neg (c := 3 ≤ x.kd ∧ x.kd ≤ 4) (by omega)]
      by_cases h2 : x.kd = 2
      · rw [if_pos h2, if_pos (by omega)]; simp only [List.flatMap_cons, List.flatMap_nil, List.append_nil]; rfl
      · rw [if_neg h2, if_neg (by omega)]; rfl
/-- The first that is late is none, or one of the stops. -/
theorem late_from (x : Look) (u : Int) : ∀ (l : List Int) (r : Run), (r.late = -1 ∨ 0 ≤ r.late) →
    ((l.foldl (fun r s => FeasWalk.serve x u (goTo x u r s.toNat) s.toNat) r).late = r.late ∧ True ∨ ∃ s ∈ l, (l.foldl (fun r s => FeasWalk.serve x u (goTo x u r s.toNat) s.toNat) r).late = (s.toNat : Int))
  | [], r, _ => .inl ⟨rfl, trivial⟩
  | a :: l, r, h => by
    rw [List.foldl_cons]
    have e : (FeasWalk.serve x u (goTo x u r a.toNat) a.toNat).late = r.late ∨ (FeasWalk.serve x u (goTo x u r a.toNat) a.toNat).late = (a.toNat : Int) := by
      show (lateT _ _ _ _ _) = _ ∨ (lateT _ _ _ _ _) = _
      unfold lateT
      split
      · exact .inr rfl
      · exact .inl rfl
    rcases late_from x u l (FeasWalk.serve x u (goTo x u r a.toNat) a.toNat) (by rcases e with e | e <;> omega) with ⟨h1, -⟩ | ⟨s, hs, h1⟩
    · rw [h1]
      rcases e with e | e
      · exact .inl ⟨e, trivial⟩
      · exact .inr ⟨a, List.mem_cons_self, e⟩
    · exact .inr ⟨s, List.mem_cons_of_mem _ hs, h1⟩
theorem late_in (x : Look) {l : List Int} (hl : ∀ s ∈ l, 0 ≤ s) : (timesOf x l).2 = -1 ∨ (timesOf x l).2 = 0 ∨ (timesOf x l).2 ∈ l := by
  unfold timesOf
  split
  · exact .inl rfl
  · show (lateT _ _ _ _ _) = -1 ∨ (lateT _ _ _ _ _) = 0 ∨ (lateT _ _ _ _ _) ∈ l
    unfold lateT
    split
    · exact .inr (.inl rfl)
    · unfold along
      rcases late_from x (unitOf x.mt) l (FeasWalk.start x (unitOf x.mt)) (.inl rfl) with ⟨h1, -⟩ | ⟨s, hs, h1⟩
      · rw [h1]; exact .inl rfl
      · rw [h1]
        have := hl s hs
        exact .inr (.inr (by rw [show ((s.toNat : Nat) : Int) = s by omega]; exact hs))
theorem mem_cov {x : Look} {rs : List (List Int)} {n : Nat} {w : Wrong} (h : w ∈ covAll x (counts n (stopsOf rs)) n) : ∃ c : Nat, c < n ∧ (w = ⟨2, 0, c⟩ ∧ 1 < rs.flatten.count (c : Int) ∨ w = ⟨3, 0, c⟩ ∧ rs.flatten.count (c : Int) = 0) := by
  unfold covAll at h
  obtain ⟨c, hc, hw⟩ := List.mem_flatMap.1 h
  have hc := List.mem_range.1 hc
  unfold covB at hw
  rw [counts_at rs hc] at hw
  refine ⟨c, hc, ?_⟩
  split at hw
  · cases hw
  · split at hw
    · exact .inl ⟨List.mem_singleton.1 hw, by omega⟩
    · split at hw
      · exact .inr ⟨List.mem_singleton.1 hw, by omega⟩
      · cases hw
theorem mem_bad {x : Look} {rs : List (List Int)} {w : Wrong} (h : w ∈ badAll x rs rs.length) : ∃ i : Nat, ∃ hi : i < rs.length, w.f0 = 1 ∧ w.f1 = (i : Int) ∧ w.f2 ∈ rs[i] := by
  unfold badAll at h
  obtain ⟨i, hi, hw⟩ := List.mem_flatMap.1 h
  have hi := List.mem_range.1 hi
  unfold badTo at hw
  obtain ⟨s, hs, e⟩ := List.mem_map.1 hw
  rw [Well11.rd1_at hi] at hs
  exact ⟨i, hi, by rw [← e], by rw [← e], by rw [← e]; exact (List.mem_filter.1 hs).1⟩
theorem mem_fleet {x : Look} {n : Int} {w : Wrong} (h : w ∈ fleetB x n) : w.f0 = 4 ∧ w.f1 = 0 := by
  unfold fleetB at h
  split at h
  · rw [List.mem_singleton.1 h]; exact ⟨rfl, rfl⟩
  · cases h
theorem mem_load {x : Look} {i : Int} {l : List Int} {w : Wrong} (h : w ∈ loadB x i l) : w.f0 = 5 ∧ w.f1 = i ∧ w.f2 ∈ l := by
  unfold loadB at h
  split at h
  · rename_i h0
    rw [List.mem_singleton.1 h]
    have h1 := idx_lt h0
    have h2 := loadsOf_le x l
    refine ⟨rfl, rfl, ?_⟩
    show rd l _ ∈ l
    generalize idx (over x) (loadsOf x l) = j at *
    obtain ⟨k, rfl⟩ : ∃ k : Nat, j = (k : Int) := ⟨j.toNat, by omega⟩
    rw [rd_at' (by omega)]
    exact List.getElem_mem _
  · cases h
theorem mem_late {x : Look} {i : Int} {l : List Int} (hl : ∀ s ∈ l, 0 ≤ s) {w : Wrong} (h : w ∈ lateB x i l) : w.f0 = 6 ∧ w.f1 = i ∧ (w.f2 = 0 ∨ w.f2 ∈ l) := by
  unfold lateB at h
  split at h
  · rw [List.mem_singleton.1 h]
    refine ⟨rfl, rfl, ?_⟩
    rcases late_in x hl with e | e | e
    · omega
    · exact .inl e
    · exact .inr e
  · cases h
theorem mem_pair {x : Look} {i : Int} {l : List Int} {w : Wrong} (h : w ∈ pairAll x i l l.length) : (w.f0 = 7 ∨ w.f0 = 8) ∧ w.f1 = i ∧ w.f2 ∈ l := by
  unfold pairAll at h
  obtain ⟨k, hk, hw⟩ := List.mem_flatMap.1 h
  have hk := List.mem_range.1 hk
  unfold pairB at hw
  have hm : rd l (k : Int) ∈ l := by rw [rd_at' hk]; exact List.getElem_mem _
  split at hw
  · cases hw
  · split at hw
    · cases hw
    · split at hw
      · rw [List.mem_singleton.1 hw]; exact ⟨.inr rfl, rfl, hm⟩
      · rw [List.mem_singleton.1 hw]; exact ⟨.inl rfl, rfl, hm⟩
theorem mem_route {x : Look} {i : Int} {l : List Int} (hl : ∀ s ∈ l, 0 ≤ s) {w : Wrong} (h : w ∈ routeB x i l (looksOf x.kd).length) : 5 ≤ w.f0 ∧ w.f0 ≤ 8 ∧ w.f1 = i ∧ (w.f2 ∈ l ∨ w.f0 = 6 ∧ w.f2 = 0) := by
  rw [route_eq] at h
  rcases List.mem_append.1 h with h | h
  · split at h
    · obtain ⟨h1, h2, h3⟩ := mem_load h; exact ⟨by omega, by omega, h2, .inl h3⟩
    · cases h
  · rcases List.mem_append.1 h with h | h
    · split at h
      · obtain ⟨h1, h2, h3⟩ := mem_late hl h; exact ⟨by omega, by omega, h2, h3.elim (fun e => .inr ⟨h1, e⟩) .inl⟩
      · cases h
    · split at h
      · obtain ⟨h1, h2, h3⟩ := mem_pair h; exact ⟨by omega, by omega, h2, .inl h3⟩
      · cases h
/-- What no two wrongs do. -/
def Apart (a b : Wrong) : Prop := (a.f0 = b.f0 → a.f1 = b.f1 → ¬ (b.f0 = 5 ∨ b.f0 = 6 ∨ b.f0 = 4)) ∧ (a.f0 = 1 ↔ b.f0 = 1)
theorem one_apart {l : List Wrong} (h : l.length ≤ 1) : l.Pairwise Apart := by
  match l, h with
  | [], _ => exact List.Pairwise.nil
  | [a], _ => exact List.pairwise_singleton _ _
theorem all_apart {l : List Wrong} (h : ∀ a ∈ l, ∀ b ∈ l, Apart a b) : l.Pairwise Apart := by
  induction l with
  | nil => exact List.Pairwise.nil
  | cons a l ih => exact List.Pairwise.cons (fun b hb => h a List.mem_cons_self b (List.mem_cons_of_mem _ hb)) (ih fun c hc d hd => h c (List.mem_cons_of_mem _ hc) d (List.mem_cons_of_mem _ hd))
theorem route_apart (x : Look) (i : Int) (l : List Int) (hl : ∀ s ∈ l, 0 ≤ s) : (routeB x i l (looksOf x.kd).length).Pairwise Apart := by
  rw [route_eq]
  have p1 : (if 2 ≤ x.kd ∧ x.kd ≤ 4 then loadB x i l else []).Pairwise Apart := one_apart (by have := loadB_le x i l; split <;> simp <;> omega)
  have p2 : (if 3 ≤ x.kd ∧ x.kd ≤ 4 then lateB x i l else []).Pairwise Apart := one_apart (by have := lateB_le x i l; split <;> simp <;> omega)
  have c1 : ∀ w ∈ (if 2 ≤ x.kd ∧ x.kd ≤ 4 then loadB x i l else []), w.f0 = 5 := fun w hw => by
    split at hw
    · exact (mem_load hw).1
    · cases hw
  have c2 : ∀ w ∈ (if 3 ≤ x.kd ∧ x.kd ≤ 4 then lateB x i l else []), w.f0 = 6 := fun w hw => by
    split at hw
    · exact (mem_late hl hw).1
    · cases hw
  have c3 : ∀ w ∈ (if x.kd = 4 then pairAll x i l l.length else []), w.f0 = 7 ∨ w.f0 = 8 := fun w hw => by
    split at hw
    · exact (mem_pair hw).1
    · cases hw
  refine List.pairwise_append.2 ⟨p1, List.pairwise_append.2 ⟨p2, all_apart fun a ha b hb => ?_, fun a ha b hb => ?_⟩, fun a ha b hb => ?_⟩
  · have h1 := c3 a ha; have h2 := c3 b hb; exact ⟨fun _ _ => by omega, by omega⟩
  · have h1 := c2 a ha; have h2 := c3 b hb; exact ⟨fun _ _ => by omega, by omega⟩
  · have h1 := c1 a ha
    rcases List.mem_append.1 hb with hb | hb
    · have h2 := c2 b hb; exact ⟨fun _ _ => by omega, by omega⟩
    · have h2 := c3 b hb; exact ⟨fun _ _ => by omega, by omega⟩
theorem range_apart (n : Nat) : (List.range n).Pairwise (fun a b => a ≠ b) := List.nodup_range
theorem rows_in {x : Look} {rs : List (List Int)} (h : badAll x rs rs.length = []) {i : Nat} (hi : i < rs.length) : ∀ s ∈ rs[i], 0 ≤ s ∧ s < (x.ns.length : Int) := by
  have := not_bad h hi
  rwa [Well11.rd1_at hi] at this
theorem wrongs_apart (x : Look) (rs : List (List Int)) : (wrongsOf x rs).Pairwise Apart := by
  unfold wrongsOf
  split
  · rename_i hb
    have hrow : ∀ w ∈ routesB x rs rs.length, 5 ≤ w.f0 ∧ w.f0 ≤ 8 := fun w hw => by
      unfold routesB at hw
      obtain ⟨i, hi, hw⟩ := List.mem_flatMap.1 hw
      have hi := List.mem_range.1 hi
      rw [Well11.rd1_at hi] at hw
      obtain ⟨h1, h2, _⟩ := mem_route (fun s hs => (rows_in hb hi s hs).1) hw
      exact ⟨h1, h2⟩
    refine List.pairwise_append.2 ⟨List.pairwise_append.2 ⟨all_apart fun a ha b hb => ?_, one_apart (fleetB_le _ _), fun a ha b hb => ?_⟩, ?_, fun a ha b hb => ?_⟩
    · obtain ⟨c, _, h1⟩ := mem_cov ha
      obtain ⟨d, _, h2⟩ := mem_cov hb
      rcases h1 with ⟨rfl, _⟩ | ⟨rfl, _⟩ <;> rcases h2 with ⟨rfl, _⟩ | ⟨rfl, _⟩ <;> exact ⟨fun _ _ => by simp, by simp⟩
    · obtain ⟨c, _, h1⟩ := mem_cov ha
      obtain ⟨h2, _⟩ := mem_fleet hb
      rcases h1 with ⟨rfl, _⟩ | ⟨rfl, _⟩ <;> exact ⟨fun e => by simp only at e; omega, by simp only; omega⟩
    · unfold routesB
      refine List.pairwise_flatMap.2 ⟨fun i hi => ?_, ?_⟩
      · have hi := List.mem_range.1 hi
        refine route_apart x _ _ ?_
        rw [Well11.rd1_at hi]
        exact fun s hs => (rows_in hb hi s hs).1
      · refine List.Pairwise.imp_of_mem ?_ (range_apart rs.length)
        intro i j hi hj hne a ha b hb2
        have hi := List.mem_range.1 hi
        have hj := List.mem_range.1 hj
        rw [Well11.rd1_at hi] at ha
        rw [Well11.rd1_at hj] at hb2
        obtain ⟨a1, a2, a3, _⟩ := mem_route (fun s hs => (rows_in hb hi s hs).1) ha
        obtain ⟨b1, b2, b3, _⟩ := mem_route (fun s hs => (rows_in hb hj s hs).1) hb2
        exact ⟨fun _ e => absurd (by rw [a3, b3] at e; omega) hne, by omega⟩
    · have hr := hrow b hb
      rcases List.mem_append.1 ha with ha | ha
      · obtain ⟨c, _, h1⟩ := mem_cov ha
        rcases h1 with ⟨rfl, _⟩ | ⟨rfl, _⟩ <;> exact ⟨fun e => by simp only at e; omega, by simp only; omega⟩
      · obtain ⟨h1, _⟩ := mem_fleet ha
        exact ⟨fun e => by omega, by omega⟩
  · refine all_apart fun a ha b hb => ?_
    obtain ⟨i, hi, h1, _⟩ := mem_bad ha
    obtain ⟨j, hj, h2, _⟩ := mem_bad hb
    exact ⟨fun _ _ => by omega, by omega⟩
/-- What each one of them tells. -/
def Told (rs : List (List Int)) (w : Wrong) : Prop :=
  (w.f0 = 1 ∧ ∃ i : Nat, ∃ hi : i < rs.length, w.f1 = (i : Int) ∧ w.f2 ∈ rs[i]) ∨ (w.f0 = 2 ∧ w.f1 = 0 ∧ 1 < rs.flatten.count w.f2) ∨ (w.f0 = 3 ∧ w.f1 = 0 ∧ rs.flatten.count w.f2 = 0) ∨ (w.f0 = 4 ∧ w.f1 = 0) ∨
    (5 ≤ w.f0 ∧ w.f0 ≤ 8 ∧ ∃ i : Nat, ∃ hi : i < rs.length, w.f1 = (i : Int) ∧ (w.f2 ∈ rs[i] ∨ w.f0 = 6 ∧ w.f2 = 0))
theorem wrongs_told {x : Look} {rs : List (List Int)} {w : Wrong} (h : w ∈ wrongsOf x rs) : Told rs w := by
  unfold wrongsOf at h
  split at h
  · rename_i hb
    rcases List.mem_append.1 h with h | h
    · rcases List.mem_append.1 h with h | h
      · obtain ⟨c, _, h1⟩ := mem_cov h
        rcases h1 with ⟨rfl, h2⟩ | ⟨rfl, h2⟩
        · exact .inr (.inl ⟨rfl, rfl, h2⟩)
        · exact .inr (.inr (.inl ⟨rfl, rfl, h2⟩))
      · exact .inr (.inr (.inr (.inl (mem_fleet h))))
    · unfold routesB at h
      obtain ⟨i, hi, hw⟩ := List.mem_flatMap.1 h
      have hi := List.mem_range.1 hi
      rw [Well11.rd1_at hi] at hw
      obtain ⟨h1, h2, h3, h4⟩ := mem_route (fun s hs => (rows_in hb hi s hs).1) hw
      exact .inr (.inr (.inr (.inr ⟨h1, h2, i, hi, h3, h4⟩)))
  · obtain ⟨i, hi, h1, h2, h3⟩ := mem_bad h
    exact .inl ⟨h1, i, hi, h2, h3⟩
theorem wrongs_len (x : Look) {rs : List (List Int)} (hf : Few rs) (hn : x.ns.length ≤ 400) : (wrongsOf x rs).length ≤ 1000000 := by
  have h0 := hf.1
  unfold wrongsOf
  split
  · have h1 := covAll_le x (counts x.ns.length (stopsOf rs)) x.ns.length
    have h2 := fleetB_le x ((filled rs).length : Int)
    have h3 := routesB_le x hf rs.length (Nat.le_refl _)
    simp only [List.length_append]; omega
  · have := badAll_le x hf rs.length (Nat.le_refl _); omega
theorem ok_good {kd mt sc cp fl : Int} {ns : List FeasWalk.Node} {mx : List Int} (g : Well11.Good kd mt sc cp fl ns mx) : okF mt ns.length mx.length = true :=
  decide_eq_true ⟨g.cnt.2, by have := g.cnt.1; omega, fun e => by rw [g.mxl.1 e]; exact Nat.le_refl _⟩
theorem few_long {rs : List (List Int)} (h1 : rs.length ≤ 300) (h2 : ∀ r ∈ rs, r.length ≤ 300) : fewF rs = true := by
  unfold fewF; simp only [Bool.and_eq_true, decide_eq_true_eq, List.all_eq_true]; exact ⟨h1, h2⟩
theorem check_some {nm : ByteArray} {kd mt sc cp fl : Int} {ns : List FeasWalk.Node} {mx : List Int} {rs : List (List Int)} (h1 : okF mt ns.length mx.length = true) (h2 : fewF rs = true) : feas_Check.f nm kd mt sc cp fl ns mx rs = some (wrongsOf (lk nm kd mt sc cp fl ns mx) rs) := by
  unfold feas_Check.f; rw [if_pos ⟨h1, h2⟩]
end FeasP
end Go.Proofs.Ytlncbckpcmojpaa
set_option linter.unusedVariables false
namespace Go.Proofs.Ytlncbckpcmojpaa
open Go.RowKit Go.Proofs.YtlncbckpcmojpaaW.PrintWords Go.Proofs.YtlncbckpcmojpaaW.PrintLast
namespace FeasP
open P FeasWalk StopsWalk AllWalk
open Well11 (rdN)
/-- Alike but for capacity, fleet and the ends of windows. -/
structure Like (x y : Look) : Prop where
  kd : x.kd = y.kd
  u : unitOf x.mt = unitOf y.mt
  n : x.ns.length = y.ns.length
  some : 0 < x.ns.length
  leg : ∀ i j, i < x.ns.length → j < x.ns.length → legP x i j = legP y i j
  nod : ∀ i : Nat, i < x.ns.length → (rdN x.ns (i : Int)).f2 = (rdN y.ns (i : Int)).f2 ∧ (rdN x.ns (i : Int)).f3 = (rdN y.ns (i : Int)).f3 ∧ (rdN x.ns (i : Int)).f5 = (rdN y.ns (i : Int)).f5 ∧ (rdN x.ns (i : Int)).f6 = (rdN y.ns (i : Int)).f6
section
variable {x y : Look} (h : Like x y)
include h
end
end FeasP
end Go.Proofs.Ytlncbckpcmojpaa
