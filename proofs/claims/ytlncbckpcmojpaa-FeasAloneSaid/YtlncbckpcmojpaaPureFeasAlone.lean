/- Whatever the instance, if it is no longer than the bound and well-formed: with a route for each customer nobody is missing and nobody comes twice; with capacities alone that is feasible just where the fleet is enough and each demand fits; a tour of all nodes in order is feasible. -/
import Derived.Test.YtlncbckpcmojpaaMkj
import Derived.Test.YtlncbckpcmojpaaMka
import Derived.Test.YtlncbckpcmojpaaPxEntrepotlaw11FeasAlone
set_option linter.unusedVariables false
namespace Go.Proofs.Ytlncbckpcmojpaa.Pure
open Go.RowKit Go.Proofs.Ytlncbckpcmojpaa.P Go.Proofs.YtlncbckpcmojpaaW.PrintWords Go.Proofs.YtlncbckpcmojpaaW.PrintLast
open FeasWalk FeasP StopsWalk
open Well11 (w64s wellF good_of rdN rdN_at)
/-- All nodes in order. -/
def allN (i : Nat) : List Int := (List.range i).map fun j : Nat => (j : Int)
/-- A route for each customer. -/
def ones (i : Nat) : List (List Int) := (List.range (i - 1)).map fun j : Nat => [((j + 1 : Nat) : Int)]
def fitsN (cp : Int) (ns : List FeasWalk.Node) (i : Nat) : Bool := (List.range (i - 1)).all fun j : Nat => decide ((rdN ns ((j + 1 : Nat) : Int)).f2 ≤ cp)
theorem allN_succ (i : Nat) : allN (i + 1) = allN i ++ [(i : Int)] := by unfold allN; rw [List.range_succ, List.map_append]; rfl
theorem allN_len (i : Nat) : (allN i).length = i := by simp [allN]
theorem ones_len (i : Nat) : (ones i).length = i - 1 := by simp [ones]
theorem ones_succ {i : Nat} (h : 0 < i) : ones (i + 1) = ones i ++ [[(i : Int)]] := by
  unfold ones
  obtain ⟨m, rfl⟩ : ∃ m, i = m + 1 := ⟨i - 1, by omega⟩
  rw [Nat.add_sub_cancel, Nat.add_sub_cancel, List.range_succ, List.map_append]; rfl
theorem fits_succ (cp : Int) (ns : List FeasWalk.Node) {i : Nat} (h : 0 < i) : fitsN cp ns (i + 1) = (fitsN cp ns i && decide ((rdN ns (i : Int)).f2 ≤ cp)) := by
  unfold fitsN
  obtain ⟨m, rfl⟩ : ∃ m, i = m + 1 := ⟨i - 1, by omega⟩
  rw [Nat.add_sub_cancel, Nat.add_sub_cancel, List.range_succ, List.all_append]; simp
theorem ones_at {i k : Nat} (h : k < (ones i).length) : (ones i)[k] = [((k + 1 : Nat) : Int)] := by simp [ones]
theorem allN_mem {n : Nat} {s : Int} : s ∈ allN n ↔ 0 ≤ s ∧ s < (n : Int) := by
  unfold allN
  rw [List.mem_map]
  constructor
  · rintro ⟨j, hj, rfl⟩; have := List.mem_range.1 hj; omega
  · intro h; exact ⟨s.toNat, List.mem_range.2 (by omega), by omega⟩
theorem ones_flat (n : Nat) : (ones n).flatten = (List.range (n - 1)).map fun j : Nat => ((j + 1 : Nat) : Int) := by
  unfold ones
  generalize n - 1 = m
  induction m with
  | zero => rfl
  | succ m ih => rw [List.range_succ, List.map_append, List.flatten_append, ih, List.map_append]; rfl
theorem once {f : Nat → Int} (hf : ∀ a b, f a = f b → a = b) {n k : Nat} (hk : k < n) : ((List.range n).map f).count (f k) = 1 := by
  have hd : ((List.range n).map f).Nodup := by
    unfold List.Nodup
    rw [List.pairwise_map]
    exact List.Pairwise.imp (fun h e => h (hf _ _ e)) List.nodup_range
  rw [hd.count, if_pos (List.mem_map.2 ⟨k, List.mem_range.2 hk, rfl⟩)]
theorem bad_none {x : Look} {rs : List (List Int)} (h : ∀ (i : Nat) (hi : i < rs.length), ∀ s ∈ rs[i], badB x s = false) : badAll x rs rs.length = [] := by
  unfold badAll
  rw [List.flatMap_eq_nil_iff]
  intro i hi
  have hi := List.mem_range.1 hi
  unfold badTo
  rw [Well11.rd1_at hi, List.map_eq_nil_iff, List.filter_eq_nil_iff]
  exact fun s hs => by rw [h i hi s hs]; exact Bool.false_ne_true
theorem bad_of {x : Look} {s : Int} (h0 : 0 ≤ s) (h1 : s < (x.ns.length : Int)) (h2 : least x.kd ≤ s) : badB x s = false := by
  unfold badB oddB
  rw [decide_eq_false (by omega), decide_eq_false (by omega), decide_eq_false (by omega)]; rfl
theorem cov_none {x : Look} {rs : List (List Int)} (h : ∀ c : Nat, c < x.ns.length → least x.kd ≤ (c : Int) → rs.flatten.count (c : Int) = 1) : covAll x (counts x.ns.length (stopsOf rs)) x.ns.length = [] := by
  unfold covAll
  rw [List.flatMap_eq_nil_iff]
  intro c hc
  have hc := List.mem_range.1 hc
  unfold covB
  split
  · rfl
  · rename_i hl
    rw [counts_at rs hc, h c hc (by omega)]; rfl
theorem tour_fine {x : Look} (hk : x.kd = 1) (hn : 0 < x.ns.length) : wrongsOf x [allN x.ns.length] = [] := by
  have hl : least x.kd = 0 := if_pos hk
  refine wrongs_nil.2 ⟨bad_none fun i hi s hs => ?_, cov_none fun c hc _ => ?_, fleetB_nil.2 ?_, routesB_nil.2 fun i hi => route_nil.2 ⟨fun e => by omega, fun e => by omega, fun e => by omega⟩⟩
  · obtain rfl : i = 0 := by simpa using hi
    have := allN_mem.1 (show s ∈ allN x.ns.length from hs)
    exact bad_of this.1 this.2 (by omega)
  · have := once (f := fun j : Nat => (j : Int)) (fun a b e => Int.ofNat.inj e) hc
    simpa [allN] using this
  · rw [show (filled [allN x.ns.length]).length = 1 by unfold filled; rw [List.filter_cons, if_pos (decide_eq_true (by rw [allN_len]; exact hn))]; rfl]
    omega
section
variable {x : Look} (hk : x.kd ≠ 1)
include hk
theorem ones_bad : badAll x (ones x.ns.length) (ones x.ns.length).length = [] := by
  have hl : least x.kd = 1 := if_neg hk
  refine bad_none fun i hi s hs => ?_
  rw [ones_at hi, List.mem_singleton] at hs
  rw [ones_len] at hi
  exact bad_of (by omega) (by omega) (by omega)
theorem ones_cov : covAll x (counts x.ns.length (stopsOf (ones x.ns.length))) x.ns.length = [] := by
  have hl : least x.kd = 1 := if_neg hk
  refine cov_none fun c hc h1 => ?_
  rw [ones_flat]
  have := once (f := fun j : Nat => ((j + 1 : Nat) : Int)) (fun a b e => by have e : ((a + 1 : Nat) : Int) = ((b + 1 : Nat) : Int) := e; omega) (show c - 1 < x.ns.length - 1 by omega)
  rwa [show ((c - 1 + 1 : Nat) : Int) = (c : Int) by omega] at this
theorem ones_wrongs : wrongsOf x (ones x.ns.length) = fleetB x ((filled (ones x.ns.length)).length : Int) ++ routesB x (ones x.ns.length) (ones x.ns.length).length := by
  unfold wrongsOf
  rw [if_pos (ones_bad hk), ones_cov hk]; rfl
theorem ones_codes {w : Wrong} (hm : ∀ s : Nat, 1 ≤ s → s < x.ns.length → x.kd = 4 → (rdN x.ns (s : Int)).f6 ≠ (s : Int)) (h : w ∈ wrongsOf x (ones x.ns.length)) : 3 < w.f0 ∧ w.f0 ≠ 8 ∧ (w.f0 = 7 → x.kd = 4) := by
  rw [ones_wrongs hk] at h
  rcases List.mem_append.1 h with h | h
  · have := (mem_fleet h).1; omega
  · unfold routesB at h
    obtain ⟨i, hi, hw⟩ := List.mem_flatMap.1 h
    have hi := List.mem_range.1 hi
    rw [Well11.rd1_at hi, ones_at hi, route_eq] at hw
    rw [ones_len] at hi
    rcases List.mem_append.1 hw with hw | hw
    · split at hw
      · have := (mem_load hw).1; omega
      · cases hw
    · rcases List.mem_append.1 hw with hw | hw
      · split at hw
        · have := (mem_late (fun s hs => by rw [List.mem_singleton] at hs; omega) hw).1; omega
        · cases hw
      · split at hw
        · rename_i h4
          have h7 : w.f0 = 7 := by
            unfold pairAll at hw
            obtain ⟨k, hk2, hw⟩ := List.mem_flatMap.1 hw
            obtain rfl : k = 0 := by have := List.mem_range.1 hk2; simpa using this
            unfold pairB at hw
            split at hw
            · cases hw
            · split at hw
              · cases hw
              · rename_i h5
                rw [if_neg (fun e => h5 (by simpa using e))] at hw
                rw [List.mem_singleton.1 hw]
          exact ⟨by omega, by omega, fun _ => h4⟩
        · cases hw
end
theorem filled_ones (n : Nat) : filled (ones n) = ones n := by
  unfold filled
  rw [List.filter_eq_self]
  intro r hr
  obtain ⟨k, hk, rfl⟩ := List.getElem_of_mem hr
  rw [ones_at hk]; rfl
/-- Capacities alone. -/
theorem ones_two {x : Look} (h2 : x.kd = 2) (hd : ∀ i : Nat, i < x.ns.length → 0 ≤ (rdN x.ns (i : Int)).f2 ∧ (rdN x.ns (i : Int)).f2 ≤ 100000000) (hfl : 0 ≤ x.fl) :
    (wrongsOf x (ones x.ns.length)).isEmpty = (fitsN x.cp x.ns x.ns.length && (decide (x.fl = 0) || decide (((ones x.ns.length).length : Int) ≤ x.fl))) := by
  rw [ones_wrongs (by omega), filled_ones]
  have key : (fleetB x ((ones x.ns.length).length : Int) ++ routesB x (ones x.ns.length) (ones x.ns.length).length = []) ↔ (fitsN x.cp x.ns x.ns.length && (decide (x.fl = 0) || decide (((ones x.ns.length).length : Int) ≤ x.fl))) = true := by
    rw [List.append_eq_nil_iff, fleetB_nil, routesB_nil, Bool.and_eq_true, Bool.or_eq_true, decide_eq_true_eq, decide_eq_true_eq, And.comm]
    refine and_congr ?_ (by omega)
    unfold fitsN
    rw [List.all_eq_true]
    have one : ∀ j : Nat, j < x.ns.length - 1 → (routeB x (j : Int) [((j + 1 : Nat) : Int)] (looksOf x.kd).length = [] ↔ decide ((rdN x.ns ((j + 1 : Nat) : Int)).f2 ≤ x.cp) = true) := fun j hj => by
      have hdj := hd (j + 1) (by omega)
      rw [route_nil, decide_eq_true_eq]
      have hlo : loadsOf x [((j + 1 : Nat) : Int)] = [(rdN x.ns ((j + 1 : Nat) : Int)).f2] := by
        unfold loadsOf oddR
        rw [if_neg (by simp [oddB]; omega)]
        show [wrap64 (0 + (rdN x.ns ((j + 1 : Nat) : Int)).f2)] = _
        congr 1
        unfold wrap64; omega
      rw [hlo]
      constructor
      · intro h
        have := h.1 (by omega) _ (List.mem_singleton.2 rfl)
        unfold over at this
        simp only [Bool.or_eq_false_iff, decide_eq_false_iff_not] at this
        omega
      · intro h
        refine ⟨fun _ a ha => ?_, fun e => by omega, fun e => by omega⟩
        rw [List.mem_singleton.1 ha]
        unfold over
        rw [decide_eq_false (by omega), decide_eq_false (by omega)]; rfl
    constructor
    · intro h j hj
      have hj := List.mem_range.1 hj
      have := h j (by rw [ones_len]; exact hj)
      rw [ones_at] at this
      exact (one j hj).1 this
    · intro h j hj
      rw [ones_at hj]
      rw [ones_len] at hj
      exact (one j hj).2 (h j (List.mem_range.2 hj))
  rw [Bool.eq_iff_iff, List.isEmpty_iff, key]
/-- With mates: a lone customer lacks its mate. -/
theorem ones_four {x : Look} (h4 : x.kd = 4) {s : Nat} (h1 : 1 ≤ s) (h2 : s < x.ns.length) (hd : 0 < (rdN x.ns (s : Int)).f2) (hm : (rdN x.ns (s : Int)).f6 ≠ (s : Int)) : wrongsOf x (ones x.ns.length) ≠ [] := by
  rw [ones_wrongs (by omega)]
  intro h
  have hr := (List.append_eq_nil_iff.1 h).2
  have hlt : s - 1 < (ones x.ns.length).length := by rw [ones_len]; omega
  have h3 := (route_nil.1 (routesB_nil.1 hr (s - 1) hlt)).2.2 h4
  rw [ones_at hlt, show ((s - 1 + 1 : Nat) : Int) = (s : Int) by omega] at h3
  unfold pairAll at h3
  rw [List.flatMap_eq_nil_iff] at h3
  have h5 := h3 0 (List.mem_range.2 (by simp))
  have e : rd [(s : Int)] ((0 : Nat) : Int) = (s : Int) := rfl
  unfold pairB at h5
  rw [e] at h5
  unfold rdN at hd hm
  rw [if_neg (by omega), if_neg (by simpa using hm), if_neg (by simpa using hm)] at h5
  cases h5
section
variable {nm : ByteArray} {kd mt sc cp fl : Int} {ns : List FeasWalk.Node} {mx : List Int} (g : Well11.Good kd mt sc cp fl ns mx) (hn : ns.length ≤ 200)
include g hn
theorem alone1 (hk : kd ≠ 1) {l : List Wrong} (hl : l = wrongsOf (lk nm kd mt sc cp fl ns mx) (ones ns.length)) (hfw : fewF (ones ns.length) = true) (d : Nat) : ∀ i : Nat, i + d = l.length → Ev (fun k => entrepotlaw11_FeasAlone.l1 k (fitsN cp ns ns.length) l (i : Int) nm kd mt sc cp fl ns mx (ones ns.length)) true := by
  have hlen : l.length ≤ 1000000 := by rw [hl]; exact wrongs_len _ (few_of hfw) g.cnt.2
  have hkd := g.kind
  induction d with
  | zero =>
    intro i hi
    refine Ev.step (fun _ => entrepotlaw11_FeasAlone.l1.eq_2 ..) (Ev.neg (by omega) ?_)
    by_cases c2 : kd = 2
    · have hfl := (g.fleet.2 hk).1
      have h2 := ones_two (x := lk nm kd mt sc cp fl ns mx) c2 (fun i hi => by have h1 := (g.demand i hi); have := h1.2.2 (by omega); exact ⟨this, h1.1.2⟩) hfl
      have h2 : (wrongsOf (lk nm kd mt sc cp fl ns mx) (ones ns.length)).isEmpty = (fitsN cp ns ns.length && (decide (fl = 0) || decide (((ones ns.length).length : Int) ≤ fl))) := h2
      refine Ev.pos c2 (Ev.bs (feasible_some (ok_good g) hfw) ?_)
      rw [h2]
      cases hf : fitsN cp ns ns.length with
      | false => exact Ev.neg (by simp) (Ev.this rfl)
      | true =>
        refine Ev.pos rfl ?_
        by_cases c0 : fl = 0
        · refine Ev.pos c0 (Ev.this ?_)
          rw [decide_eq_true c0]; rfl
        · refine Ev.neg c0 (Ev.this ?_)
          rw [decide_eq_false c0]
          cases decide (((ones ns.length).length : Int) ≤ fl) <;> rfl
    · refine Ev.neg c2 ?_
      by_cases c4 : kd = 4
      · refine Ev.pos c4 ?_
        by_cases c5 : (l.length : Int) > 0
        · exact Ev.pos c5 (Ev.now _)
        · refine Ev.neg c5 (Ev.this ?_)
          by_cases c6 : ns.length = 1
          · rw [ones_len, c6]; rfl
          · exfalso
            have hc := g.cnt.1
            have hl0 : wrongsOf (lk nm kd mt sc cp fl ns mx) (ones ns.length) = [] := by rw [← hl]; exact List.eq_nil_of_length_eq_zero (by omega)
            have m1 := (g.mate 1 (by omega)).2 ⟨c4, by omega⟩
            obtain ⟨m, hm⟩ : ∃ m : Nat, (rdN ns ((1 : Nat) : Int)).f6 = (m : Int) := ⟨(rdN ns ((1 : Nat) : Int)).f6.toNat, by omega⟩
            rw [hm] at m1
            by_cases hp : 0 < (rdN ns ((1 : Nat) : Int)).f2
            · exact ones_four (x := lk nm kd mt sc cp fl ns mx) c4 (s := 1) (by omega) (show 1 < ns.length by omega) hp (by show (rdN ns ((1 : Nat) : Int)).f6 ≠ _; rw [hm]; exact m1.2.2.1) hl0
            · have m2 := (g.mate m (by omega)).2 ⟨c4, by omega⟩
              exact ones_four (x := lk nm kd mt sc cp fl ns mx) c4 (s := m) (by omega) (show m < ns.length by omega) (by show 0 < (rdN ns (m : Int)).f2; omega) m2.2.2.1 hl0
      · exact Ev.neg c4 (Ev.now _)
  | succ d ih =>
    intro i hi
    have hlt : i < l.length := by omega
    have next := ih (i + 1) (by omega)
    have hw : l[i] ∈ wrongsOf (lk nm kd mt sc cp fl ns mx) (ones ns.length) := by rw [← hl]; exact List.getElem_mem hlt
    obtain ⟨w1, w2, w3⟩ := ones_codes (x := lk nm kd mt sc cp fl ns mx) hk (fun s h1 h2 h4 => ((g.mate s h2).2 ⟨h4, by omega⟩).2.2.1) hw
    refine Ev.step (fun _ => entrepotlaw11_FeasAlone.l1.eq_2 ..) (Ev.pos (by omega) (Ev.pos (by omega) ?_))
    rw [show rd_T37 l (i : Int) = l[i] by unfold rd_T37; rw [Int.toNat_natCast, List.getD_eq_getElem?_getD, List.getElem?_eq_getElem hlt]; rfl, w64s (by omega)]
    refine Ev.neg (by omega) (Ev.neg w2 ?_)
    by_cases c7 : l[i].f0 = 7
    · exact Ev.pos c7 (Ev.pos (w3 c7) next)
    · exact Ev.neg c7 next
theorem alone0 (d : Nat) : ∀ i : Nat, i + d = ns.length → Ev (fun k => entrepotlaw11_FeasAlone.l0 k (allN i) (fitsN cp ns i) (i : Int) nm kd mt sc cp fl ns mx (ones i)) true := by
  have hc := g.cnt.1
  induction d with
  | zero =>
    intro i hi
    obtain rfl : i = ns.length := by omega
    refine Ev.step (fun _ => entrepotlaw11_FeasAlone.l0.eq_2 ..) (Ev.neg (by omega) ?_)
    by_cases c1 : kd = 1
    · refine Ev.pos c1 (Ev.bs (feasible_some (ok_good g) (few_long (by simp) (fun r hr => by rw [List.mem_singleton.1 hr, allN_len]; omega))) (Ev.this ?_))
      rw [show wrongsOf (lk nm kd mt sc cp fl ns mx) [allN ns.length] = [] from tour_fine (x := lk nm kd mt sc cp fl ns mx) c1 hc]; rfl
    · have hfw : fewF (ones ns.length) = true := few_long (by rw [ones_len]; omega) (fun r hr => by obtain ⟨k, hk, rfl⟩ := List.getElem_of_mem hr; rw [ones_at hk]; simp)
      exact Ev.neg c1 (Ev.bs (check_some (ok_good g) hfw) (alone1 g hn c1 rfl hfw (wrongsOf (lk nm kd mt sc cp fl ns mx) (ones ns.length)).length 0 (by omega)))
  | succ d ih =>
    intro i hi
    have hlt : i < ns.length := by omega
    have next := ih (i + 1) (by omega)
    rw [allN_succ] at next
    refine Ev.step (fun _ => entrepotlaw11_FeasAlone.l0.eq_2 ..) (Ev.pos (by omega) (Ev.pos (by rw [allN_len]; omega) (Ev.bs rfl ?_)))
    rw [w64s (by omega)]
    by_cases c0 : (i : Int) > 0
    · rw [ones_succ (by omega), fits_succ _ _ (by omega)] at next
      refine Ev.pos c0 (Ev.pos (by rw [ones_len]; omega) (Ev.bs rfl ?_))
      cases hf : fitsN cp ns i with
      | true =>
        rw [hf, Bool.true_and] at next
        exact Ev.pos rfl (Ev.pos (by omega) next)
      | false =>
        rw [hf, Bool.false_and] at next
        exact Ev.neg (by simp) next
    · obtain rfl : i = 0 := by omega
      exact Ev.neg c0 next
end
theorem FeasAlone (nm : ByteArray) (kd mt sc cp fl : Int) (ns : List FeasWalk.Node) (mx : List Int) (_ : Open.InstGood nm kd mt sc cp fl ns mx) : ∃ k, entrepotlaw11_FeasAlone.f k nm kd mt sc cp fl ns mx = some true := by
  refine Ev.rounds ?_
  have yes : Ev (fun k => entrepotlaw11_FeasAlone.j0 k true nm kd mt sc cp fl ns mx) true := Ev.step (fun _ => entrepotlaw11_FeasAlone.j0.eq_2 ..) (Ev.pos rfl (Ev.bs entrepotlaw11_shown.only (Ev.now _)))
  unfold entrepotlaw11_FeasAlone.f
  refine Ev.bind (Well11.well_ev nm kd mt sc cp fl ns mx) ?_
  cases hw : wellF nm kd mt sc cp fl ns mx with
  | false => exact Ev.neg (by simp) yes
  | true =>
    have g := good_of hw
    refine Ev.pos rfl ?_
    by_cases hn : (ns.length : Int) > 200
    · exact Ev.pos hn yes
    · refine Ev.neg hn (Ev.bs entrepotlaw11_shown.only (Ev.step (fun _ => entrepotlaw11_FeasAlone.j0.eq_2 ..) (Ev.neg (by simp) ?_)))
      exact alone0 g (by omega) ns.length 0 (by omega)
end Go.Proofs.Ytlncbckpcmojpaa.Pure
