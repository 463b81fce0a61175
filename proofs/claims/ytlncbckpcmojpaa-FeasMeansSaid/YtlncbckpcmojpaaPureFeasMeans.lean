/- Whatever the instance and the plan, if they are no longer than the bound and the instance is well-formed: a plan is feasible just if each customer is one stop, the fleet is enough, and on each route all loads are within the capacity, nobody is late, and each pickup is ahead of its mate. -/
import Derived.Test.YtlncbckpcmojpaaGFeasR
import Derived.Test.YtlncbckpcmojpaaMka
import Derived.Test.YtlncbckpcmojpaaPxEntrepotlaw11FeasMeans
set_option linter.unusedVariables false
namespace Go.Proofs.Ytlncbckpcmojpaa.Pure
open Go.RowKit Go.Proofs.Ytlncbckpcmojpaa.P Go.Proofs.YtlncbckpcmojpaaW.PrintWords Go.Proofs.YtlncbckpcmojpaaW.PrintLast
open FeasWalk FeasP StopsWalk
open Well11 (w64s wellF good_of rdN rdN_at many)
/-! ### A route: when all goes well -/
def sumN (x : Look) (r : List Int) (k : Nat) : Int := sumTo x (r.take k)
def arr (x : Look) (r : List Int) (k : Nat) (s : Int) : Int := wrap64 ((along x (unitOf x.mt) (r.take k)).now + legP x (along x (unitOf x.mt) (r.take k)).at_ s.toNat)
def due (x : Look) (s : Int) : Int := wrap64 (unitOf x.mt * (rdN x.ns s).f4)
def ahead (r : List Int) (k : Nat) (m : Int) : Bool := (r.take k).any fun a => a == m
def behind (r : List Int) (k : Nat) (m : Int) : Bool := (r.drop (k + 1)).any fun a => a == m
def loadOk (x : Look) (r : List Int) (k : Nat) : Bool := decide (0 ≤ sumN x r (k + 1)) && decide (sumN x r (k + 1) ≤ x.cp)
def timeOk (x : Look) (r : List Int) (k : Nat) : Bool := decide (x.kd = 2) || decide (arr x r k (rd r (k : Int)) ≤ due x (rd r (k : Int)))
def pairOk (x : Look) (r : List Int) (k : Nat) : Bool := decide (x.kd ≠ 4) || ((decide ((rdN x.ns (rd r (k : Int))).f2 ≤ 0) || behind r k (rdN x.ns (rd r (k : Int))).f6) && (decide (0 ≤ (rdN x.ns (rd r (k : Int))).f2) || ahead r k (rdN x.ns (rd r (k : Int))).f6))
def backOk (x : Look) (r : List Int) : Bool := decide (x.kd = 2) || (decide (r.length = 0) || decide (arr x r r.length 0 ≤ due x 0))
def stepOk (x : Look) (r : List Int) (k : Nat) : Bool := loadOk x r k && timeOk x r k && pairOk x r k
/-- What goes tells, from stop k on. -/
def goesTo (x : Look) (r : List Int) : Nat → Nat → Bool
  | 0, _ => backOk x r
  | d + 1, k => stepOk x r k && goesTo x r d (k + 1)
theorem goesTo_iff (x : Look) (r : List Int) : ∀ d k, goesTo x r d k = true ↔ (∀ j, k ≤ j → j < k + d → stepOk x r j = true) ∧ backOk x r = true
  | 0, k => ⟨fun h => ⟨fun j h1 h2 => by omega, h⟩, fun h => h.2⟩
  | d + 1, k => by
    unfold goesTo
    rw [Bool.and_eq_true, goesTo_iff x r d (k + 1)]
    constructor
    · rintro ⟨h1, h2, h3⟩
      refine ⟨fun j hj hk => ?_, h3⟩
      by_cases e : j = k
      · subst e; exact h1
      · exact h2 j (by omega) (by omega)
    · rintro ⟨h1, h2⟩
      exact ⟨h1 k (by omega) (by omega), fun j hj hk => h1 j (by omega) (by omega), h2⟩
/-! loads -/
theorem sums_map (x : Look) : ∀ (l : List Int) (s : Int), sumsFrom x s l = (List.range l.length).map fun k : Nat => (l.take (k + 1)).foldl (fun s a => wrap64 (s + (rd_T32 x.ns a).f2)) s
  | [], s => rfl
  | a :: l, s => by
    unfold sumsFrom
    rw [sums_map x l, List.length_cons, List.range_succ_eq_map, List.map_cons, List.map_map]
    rfl
theorem loads_all {x : Look} {r : List Int} (hr : ∀ s ∈ r, 0 ≤ s ∧ s < (x.ns.length : Int)) : (∀ a ∈ loadsOf x r, over x a = false) ↔ ∀ k, k < r.length → loadOk x r k = true := by
  unfold loadsOf
  rw [if_neg (by
    unfold oddR oddB
    rw [Bool.not_eq_true, List.any_eq_false]
    intro s hs
    have := hr s hs
    simp only [Bool.or_eq_true, decide_eq_true_eq, not_or]; omega), sums_map]
  have key : ∀ k : Nat, over x (sumN x r (k + 1)) = false ↔ loadOk x r k = true := fun k => by
    unfold over loadOk
    simp only [Bool.or_eq_false_iff, decide_eq_false_iff_not, Bool.and_eq_true, decide_eq_true_eq]; omega
  constructor
  · intro h k hk
    exact (key k).1 (h _ (List.mem_map.2 ⟨k, List.mem_range.2 hk, rfl⟩))
  · intro h a ha
    obtain ⟨k, hk, rfl⟩ := List.mem_map.1 ha
    exact (key k).2 (h k (List.mem_range.1 hk))
/-! times -/
theorem late_iff (x : Look) (r : List Int) (hr : ∀ s ∈ r, 0 ≤ s ∧ s < (x.ns.length : Int)) : ∀ k, k ≤ r.length → ((along x (unitOf x.mt) (r.take k)).late < 0 ↔ ∀ j, j < k → arr x r j (rd r (j : Int)) ≤ due x (rd r (j : Int)))
  | 0, _ => ⟨fun _ j h => by omega, fun _ => by
      show (-1 : Int) < 0
      omega⟩
  | k + 1, h => by
    have ih := late_iff x r hr k (by omega)
    rw [along_step x (unitOf x.mt) r (show k < r.length by omega)]
    have hs := hr r[k] (List.getElem_mem _)
    have e : rd r (k : Int) = r[k] := rd_at' (by omega)
    have en : ((r[k].toNat : Nat) : Int) = r[k] := by omega
    have ha : arr x r k r[k] = wrap64 ((along x (unitOf x.mt) (r.take k)).now + legP x (along x (unitOf x.mt) (r.take k)).at_ r[k].toNat) := rfl
    have hd : due x r[k] = wrap64 (unitOf x.mt * (rd_T32 x.ns ((r[k].toNat : Nat) : Int)).f4) := by rw [en]; rfl
    show lateT (along x (unitOf x.mt) (r.take k)).late (wrap64 ((along x (unitOf x.mt) (r.take k)).now + legP x (along x (unitOf x.mt) (r.take k)).at_ r[k].toNat)) (unitOf x.mt) (rd_T32 x.ns ((r[k].toNat : Nat) : Int)).f4 ((r[k].toNat : Nat) : Int) < 0 ↔ _
    unfold lateT
    rw [← ha, ← hd]
    constructor
    · intro hl j hj
      split at hl
      · omega
      · rename_i hc
        by_cases ej : j = k
        · subst ej; rw [e]; omega
        · exact ih.1 hl j (by omega)
    · intro hl
      have h1 := ih.2 fun j hj => hl j (by omega)
      have h2 := hl k (by omega)
      rw [e] at h2
      rw [if_neg (by omega)]; exact h1
theorem times_all {x : Look} {r : List Int} (hr : ∀ s ∈ r, 0 ≤ s ∧ s < (x.ns.length : Int)) : (timesOf x r).2 < 0 ↔ (∀ j, j < r.length → arr x r j (rd r (j : Int)) ≤ due x (rd r (j : Int))) ∧ (r.length = 0 ∨ arr x r r.length 0 ≤ due x 0) := by
  unfold timesOf
  split
  · rename_i h0
    subst h0
    exact ⟨fun _ => ⟨fun j hj => absurd hj (by simp), .inl rfl⟩, fun _ => by show (-1 : Int) < 0; omega⟩
  · rename_i h0
    have hlen : r.length ≠ 0 := fun e => h0 (List.eq_nil_of_length_eq_zero e)
    have h1 := late_iff x r hr r.length (Nat.le_refl _)
    rw [List.take_length] at h1
    have ha : arr x r r.length 0 = wrap64 ((along x (unitOf x.mt) r).now + legP x (along x (unitOf x.mt) r).at_ 0) := by unfold arr; rw [List.take_length]; rfl
    show lateT (along x (unitOf x.mt) r).late (wrap64 ((along x (unitOf x.mt) r).now + legP x (along x (unitOf x.mt) r).at_ 0)) (unitOf x.mt) (rd_T32 x.ns ((0 : Nat) : Int)).f4 ((0 : Nat) : Int) < 0 ↔ _
    have hd : due x 0 = wrap64 (unitOf x.mt * (rd_T32 x.ns ((0 : Nat) : Int)).f4) := rfl
    unfold lateT
    rw [← ha, ← hd, ← h1]
    constructor
    · intro hl
      split at hl
      · omega
      · rename_i hc
        exact ⟨hl, .inr (by omega)⟩
    · rintro ⟨h2, h3⟩
      rw [if_neg (by omega)]; exact h2
/-! pairs -/
theorem drop_self {r : List Int} {k : Nat} (hk : k < r.length) {m : Int} (hm : m ≠ rd r (k : Int)) : m ∈ r.drop k ↔ behind r k m = true := by
  unfold behind
  rw [List.drop_eq_getElem_cons hk, List.mem_cons, List.any_eq_true]
  rw [rd_at' hk] at hm
  constructor
  · rintro (h | h)
    · exact absurd h hm
    · exact ⟨m, h, by simp⟩
  · rintro ⟨a, ha, he⟩
    rw [beq_iff_eq] at he
    subst he; exact .inr ha
theorem pairs_all {x : Look} {i : Int} {r : List Int} (hm : ∀ k, k < r.length → (rdN x.ns (rd r (k : Int))).f2 ≠ 0 → (rdN x.ns (rd r (k : Int))).f6 ≠ rd r (k : Int)) : pairAll x i r r.length = [] ↔ ∀ k, k < r.length → (rdN x.ns (rd r (k : Int))).f2 ≤ 0 ∨ behind r k (rdN x.ns (rd r (k : Int))).f6 = true := by
  unfold pairAll
  rw [List.flatMap_eq_nil_iff]
  have one : ∀ k, k < r.length → (pairB x i r k = [] ↔ (rdN x.ns (rd r (k : Int))).f2 ≤ 0 ∨ behind r k (rdN x.ns (rd r (k : Int))).f6 = true) := fun k hk => by
    have hmk := hm k hk
    unfold rdN at hmk ⊢
    unfold pairB
    split
    · rename_i h; exact ⟨fun _ => .inl h, fun _ => rfl⟩
    · rename_i h
      have hd := drop_self hk (hmk (by omega))
      split
      · rename_i h2; exact ⟨fun _ => .inr (hd.1 h2), fun _ => rfl⟩
      · rename_i h2
        constructor
        · intro e; split at e <;> cases e
        · rintro (e | e)
          · exact absurd e h
          · exact absurd (hd.2 e) h2
  constructor
  · intro h k hk; exact (one k hk).1 (h k (List.mem_range.2 hk))
  · intro h k hk; exact (one k (List.mem_range.1 hk)).2 (h k (List.mem_range.1 hk))
/-- What is known of mates. -/
def Mates (x : Look) : Prop := x.kd = 4 → ∀ s : Nat, 1 ≤ s → s < x.ns.length → (∃ m : Nat, (rdN x.ns (s : Int)).f6 = (m : Int) ∧ 1 ≤ m ∧ m < x.ns.length ∧ m ≠ s ∧ (rdN x.ns (m : Int)).f6 = (s : Int) ∧ (rdN x.ns (m : Int)).f2 = -(rdN x.ns (s : Int)).f2)
/-- All routes go well just if nothing is wrong with them. -/
theorem goes_all {x : Look} {rs : List (List Int)} (hk : 2 ≤ x.kd ∧ x.kd ≤ 4) (he : Each 1 x.ns.length rs.flatten) (hm : Mates x) : (∀ (i : Nat) (hi : i < rs.length), goesTo x rs[i] rs[i].length 0 = true) ↔ routesB x rs rs.length = [] := by
  have hin : ∀ (i : Nat) (hi : i < rs.length), ∀ s ∈ rs[i], 1 ≤ s ∧ s < (x.ns.length : Int) := fun i hi s hs => by
    have := he.range s (List.mem_flatten.2 ⟨_, List.getElem_mem hi, hs⟩); omega
  have h0 : ∀ (i : Nat) (hi : i < rs.length), ∀ s ∈ rs[i], 0 ≤ s ∧ s < (x.ns.length : Int) := fun i hi s hs => by have := hin i hi s hs; omega
  have hmate : ∀ (i : Nat) (hi : i < rs.length), x.kd = 4 → ∀ k, k < rs[i].length → (rdN x.ns (rd rs[i] (k : Int))).f2 ≠ 0 → (rdN x.ns (rd rs[i] (k : Int))).f6 ≠ rd rs[i] (k : Int) := fun i hi h4 k hkr _ => by
    have hs := hin i hi (rd rs[i] (k : Int)) (by rw [rd_at' hkr]; exact List.getElem_mem _)
    obtain ⟨s, e⟩ : ∃ s : Nat, rd rs[i] (k : Int) = (s : Int) := ⟨(rd rs[i] (k : Int)).toNat, by omega⟩
    rw [e] at hs ⊢
    obtain ⟨m, e1, _, _, hne, _⟩ := hm h4 s (by omega) (by omega)
    rw [e1]; omega
  rw [routesB_nil]
  constructor
  · intro h i hi
    have hg := (goesTo_iff x rs[i] rs[i].length 0).1 (h i hi)
    have hst : ∀ k, k < rs[i].length → loadOk x rs[i] k = true ∧ timeOk x rs[i] k = true ∧ pairOk x rs[i] k = true := fun k hkr => by
      have := hg.1 k (by omega) (by omega)
      unfold stepOk at this
      simp only [Bool.and_eq_true] at this
      exact ⟨this.1.1, this.1.2, this.2⟩
    refine route_nil.2 ⟨fun _ => (loads_all (h0 i hi)).2 fun k hkr => (hst k hkr).1, fun h3 => (times_all (h0 i hi)).2 ⟨fun k hkr => ?_, ?_⟩, fun h4 => (pairs_all (hmate i hi h4)).2 fun k hkr => ?_⟩
    · have := (hst k hkr).2.1
      unfold timeOk at this
      simp only [Bool.or_eq_true, decide_eq_true_eq] at this
      omega
    · have := hg.2
      unfold backOk at this
      simp only [Bool.or_eq_true, decide_eq_true_eq] at this
      omega
    · have := (hst k hkr).2.2
      unfold pairOk at this
      simp only [Bool.or_eq_true, Bool.and_eq_true, decide_eq_true_eq] at this
      rcases this with e | ⟨e, _⟩
      · exact absurd h4 e
      · exact e
  · intro h i hi
    have hr := route_nil.1 (h i hi)
    refine (goesTo_iff x rs[i] rs[i].length 0).2 ⟨fun k _ hkr => ?_, ?_⟩
    · have hkr : k < rs[i].length := by omega
      unfold stepOk
      rw [(loads_all (h0 i hi)).1 (hr.1 hk) k hkr, Bool.true_and, Bool.and_eq_true]
      refine ⟨?_, ?_⟩
      · unfold timeOk
        simp only [Bool.or_eq_true, decide_eq_true_eq]
        by_cases h2 : x.kd = 2
        · exact .inl h2
        · exact .inr (((times_all (h0 i hi)).1 (hr.2.1 (by omega))).1 k hkr)
      · unfold pairOk
        simp only [Bool.or_eq_true, Bool.and_eq_true, decide_eq_true_eq]
        by_cases h4 : x.kd = 4
        · refine .inr ⟨(pairs_all (hmate i hi h4)).1 (hr.2.2 h4) k hkr, ?_⟩
          by_cases hneg : 0 ≤ (rdN x.ns (rd rs[i] (k : Int))).f2
          · exact .inl hneg
          · refine .inr ?_
            have hsm : rd rs[i] (k : Int) ∈ rs[i] := by rw [rd_at' hkr]; exact List.getElem_mem _
            have hs := hin i hi _ hsm
            have ek := rd_at' hkr
            obtain ⟨s, e⟩ : ∃ s : Nat, rd rs[i] (k : Int) = (s : Int) := ⟨(rd rs[i] (k : Int)).toNat, by omega⟩
            rw [e] at hs hneg hsm ek ⊢
            obtain ⟨m, e1, m1, m2, hne, e2, e3⟩ := hm h4 s (by omega) (by omega)
            rw [e1]
            have hc := each_count he m1 m2
            have hmem : (m : Int) ∈ rs.flatten := List.count_pos_iff.1 (by omega)
            obtain ⟨r', hr', hmr⟩ := List.mem_flatten.1 hmem
            obtain ⟨i', hi', rfl⟩ := List.getElem_of_mem hr'
            obtain ⟨k', hk', ek'⟩ := List.getElem_of_mem hmr
            have hp := (pairs_all (hmate i' hi' h4)).1 ((route_nil.1 (h i' hi')).2.2 h4) k' hk'
            rw [rd_at' hk', ek'] at hp
            rcases hp with hp | hp
            · omega
            · rw [e2] at hp
              unfold behind at hp
              obtain ⟨a, ha, he2⟩ := List.any_eq_true.1 hp
              rw [beq_iff_eq] at he2
              subst he2
              obtain rfl : i = i' := one_route he.nodup hi hi' hsm (List.mem_of_mem_drop ha)
              obtain ⟨q, hq, eq⟩ := List.getElem_of_mem ha
              rw [List.getElem_drop] at eq
              have hnd := row_nodup he.nodup hi
              have hkq : k = k' + 1 + q := by
                rcases Nat.lt_trichotomy k (k' + 1 + q) with hlt | e4 | hlt
                · exact absurd (ek.symm.trans eq.symm) (List.pairwise_iff_getElem.1 hnd k (k' + 1 + q) hkr (by rw [List.length_drop] at hq; omega) hlt)
                · exact e4
                · exact absurd (eq.trans ek) (List.pairwise_iff_getElem.1 hnd (k' + 1 + q) k (by rw [List.length_drop] at hq; omega) hkr hlt)
              unfold ahead
              rw [List.any_eq_true]
              refine ⟨(m : Int), ?_, by simp⟩
              rw [← ek']
              have : (rs[i].take k)[k']? = some rs[i][k'] := by rw [List.getElem?_take, if_pos (by omega), List.getElem?_eq_getElem hk']
              exact List.mem_of_getElem? this
        · exact .inl h4
    · unfold backOk
      simp only [Bool.or_eq_true, decide_eq_true_eq]
      by_cases h2 : x.kd = 2
      · exact .inl h2
      · exact .inr ((times_all (h0 i hi)).1 (hr.2.1 (by omega))).2
/-! ### goes, in rounds -/
theorem any_step {l : List Int} {p : Int → Bool} {i : Nat} (h : i < l.length) : (l.drop i).any p = (p l[i] || (l.drop (i + 1)).any p) := by
  rw [List.drop_eq_getElem_cons h, List.any_cons]
theorem at_lt (x : Look) (u : Int) (r : List Int) (hn : 0 < x.ns.length) (hr : ∀ s ∈ r, 0 ≤ s ∧ s < (x.ns.length : Int)) : ∀ k, k ≤ r.length → (along x u (r.take k)).at_ < x.ns.length
  | 0, _ => hn
  | k + 1, h => by
    rw [along_step x u r (show k < r.length by omega)]
    show r[k].toNat < x.ns.length
    have := hr r[k] (List.getElem_mem _)
    omega
section
variable {nm : ByteArray} {kd mt sc cp fl : Int} {ns : List FeasWalk.Node} {ml : List Int}
theorem goes2 {r : List Int} (hrl : r.length ≤ 300) {sm u nw a : Int} {j : Nat} {d : FeasWalk.Node} {next : Bool} (hn : Ev (fun k => entrepotlaw11_goes.l0 k r sm u nw a ((j + 1 : Nat) : Int) nm kd mt sc cp fl ns ml) next) {ah bh : Bool}
    (hj : j < r.length) (hbh : bh = behind r j d.f6) (e : Nat) : ∀ i : Nat, i + e = r.length → ∀ b, bh = (b || (r.drop i).any fun a => a == d.f6) →
      Ev (fun k => entrepotlaw11_goes.l2 k r sm u nw a (j : Int) ah b (i : Int) nm kd mt sc cp fl ns ml d.f0 d.f1 d.f2 d.f3 d.f4 d.f5 d.f6) ((decide (kd ≠ 4) || ((decide (d.f2 ≤ 0) || bh) && (decide (0 ≤ d.f2) || ah))) && next) := by
  induction e with
  | zero =>
    intro i hi b hb
    rw [List.drop_of_length_le (by omega), List.any_nil, Bool.or_false] at hb
    refine Ev.step (fun _ => entrepotlaw11_goes.l2.eq_2 ..) (Ev.neg (by omega) ?_)
    rw [w64s (i := j) (by omega)]
    subst hb
    by_cases h4 : kd = 4
    · refine Ev.pos h4 ?_
      rw [decide_eq_false (fun e => e h4), Bool.false_or]
      by_cases hp : d.f2 > 0
      · refine Ev.pos hp ?_
        rw [decide_eq_false (by omega), Bool.false_or, decide_eq_true (show 0 ≤ d.f2 by omega), Bool.true_or, Bool.and_true]
        cases bh with
        | true => exact Ev.pos rfl (Ev.neg (by omega) (by rw [Bool.true_and]; exact hn))
        | false => exact Ev.neg (by simp) (Ev.now _)
      · refine Ev.neg hp ?_
        rw [decide_eq_true (show d.f2 ≤ 0 by omega), Bool.true_or, Bool.true_and]
        by_cases hm : d.f2 < 0
        · refine Ev.pos hm ?_
          rw [decide_eq_false (by omega), Bool.false_or]
          cases ah with
          | true => exact Ev.pos rfl (by rw [Bool.true_and]; exact hn)
          | false => exact Ev.neg (by simp) (Ev.now _)
        · refine Ev.neg hm ?_
          rw [decide_eq_true (show 0 ≤ d.f2 by omega), Bool.true_or, Bool.true_and]; exact hn
    · refine Ev.neg h4 ?_
      rw [decide_eq_true h4, Bool.true_or, Bool.true_and]; exact hn
  | succ e ih =>
    intro i hi b hb
    have hlt : i < r.length := by omega
    rw [any_step hlt] at hb
    refine Ev.step (fun _ => entrepotlaw11_goes.l2.eq_2 ..) (Ev.pos (by omega) ?_)
    rw [rd_at' hlt, w64s (i := i) (by omega)]
    cases b with
    | true => exact Ev.pos rfl (ih (i + 1) (by omega) true (by rw [hb]; simp))
    | false => exact Ev.neg (by simp) (Ev.pos (by omega) (ih (i + 1) (by omega) _ (by rw [hb, Bool.false_or])))
theorem goes1 {r : List Int} (hrl : r.length ≤ 300) {sm u nw a : Int} {j : Nat} {d : FeasWalk.Node} {next : Bool} (hn : Ev (fun k => entrepotlaw11_goes.l0 k r sm u nw a ((j + 1 : Nat) : Int) nm kd mt sc cp fl ns ml) next)
    (hj : j < r.length) (e : Nat) : ∀ i : Nat, i + e = j → ∀ b, ahead r j d.f6 = (b || ((r.take j).drop i).any fun a => a == d.f6) →
      Ev (fun k => entrepotlaw11_goes.l1 k r sm u nw a (j : Int) b (i : Int) nm kd mt sc cp fl ns ml d.f0 d.f1 d.f2 d.f3 d.f4 d.f5 d.f6) ((decide (kd ≠ 4) || ((decide (d.f2 ≤ 0) || behind r j d.f6) && (decide (0 ≤ d.f2) || ahead r j d.f6))) && next) := by
  induction e with
  | zero =>
    intro i hi b hb
    rw [List.drop_of_length_le (by rw [List.length_take]; omega), List.any_nil, Bool.or_false] at hb
    subst hb
    refine Ev.step (fun _ => entrepotlaw11_goes.l1.eq_2 ..) (Ev.neg (by omega) ?_)
    rw [w64s (i := j) (by omega)]
    exact goes2 hrl hn hj rfl (r.length - (j + 1)) (j + 1) (by omega) false (by rw [Bool.false_or]; rfl)
  | succ e ih =>
    intro i hi b hb
    have hlt : i < (r.take j).length := by rw [List.length_take]; omega
    rw [any_step hlt, List.getElem_take] at hb
    refine Ev.step (fun _ => entrepotlaw11_goes.l1.eq_2 ..) (Ev.pos (by omega) ?_)
    rw [rd_at' (show i < r.length by omega), w64s (i := i) (by omega)]
    cases b with
    | true => exact Ev.pos rfl (ih (i + 1) (by omega) true (by rw [hb]; simp))
    | false => exact Ev.neg (by simp) (Ev.pos (by omega) (Ev.pos (by omega) (ih (i + 1) (by omega) _ (by rw [hb, Bool.false_or]))))
theorem between_some (hok : okF mt ns.length ml.length = true) {i j : Nat} (hi : i < ns.length) (hj : j < ns.length) (k : Nat) : ∃ r2, cost_Between.f k nm kd mt sc cp fl ns ml (i : Int) (j : Int) = some (legP (lk nm kd mt sc cp fl ns ml) i j, r2) := by
  obtain ⟨r2, e⟩ := leg_some (x := lk nm kd mt sc cp fl ns ml) hok hi hj
  have hok := of_decide_eq_true hok
  exact ⟨r2, by unfold cost_Between.f; rw [if_pos ⟨by omega, by omega, by omega, by omega, by omega⟩, Int.toNat_natCast, Int.toNat_natCast]; exact e⟩
theorem between_ev {β : Type} {f : Nat → Int × Int → Option β} {res : β} (hok : okF mt ns.length ml.length = true) {i j : Nat} (hi : i < ns.length) (hj : j < ns.length) (h : ∀ r2, Ev (fun k => f k (legP (lk nm kd mt sc cp fl ns ml) i j, r2)) res) :
    Ev (fun k => (cost_Between.f k nm kd mt sc cp fl ns ml (i : Int) (j : Int)).bind (f k)) res := by
  obtain ⟨r2, e⟩ := between_some (nm := nm) (kd := kd) (sc := sc) (cp := cp) (fl := fl) hok hi hj 0
  obtain ⟨K, hK⟩ := h r2
  refine ⟨K, fun k hk => ?_⟩
  have ek : cost_Between.f k nm kd mt sc cp fl ns ml (i : Int) (j : Int) = cost_Between.f 0 nm kd mt sc cp fl ns ml (i : Int) (j : Int) := by unfold cost_Between.f; rfl
  show (cost_Between.f k nm kd mt sc cp fl ns ml (i : Int) (j : Int)).bind (f k) = some res
  rw [ek, e]; exact hK k hk
theorem goes0 (g : Well11.Good kd mt sc cp fl ns ml) {r : List Int} (hrl : r.length ≤ 300) (hr : ∀ s ∈ r, 0 ≤ s ∧ s < (ns.length : Int)) (d : Nat) :
    ∀ j : Nat, j + d = r.length → Ev (fun k => entrepotlaw11_goes.l0 k r (sumN (lk nm kd mt sc cp fl ns ml) r j) (unitOf mt) (along (lk nm kd mt sc cp fl ns ml) (unitOf mt) (r.take j)).now ((along (lk nm kd mt sc cp fl ns ml) (unitOf mt) (r.take j)).at_ : Int) (j : Int) nm kd mt sc cp fl ns ml) (goesTo (lk nm kd mt sc cp fl ns ml) r d j) := by
  have hok := ok_good g
  have hcnt := g.cnt
  have hat := at_lt (lk nm kd mt sc cp fl ns ml) (unitOf mt) r g.cnt.1 hr
  induction d with
  | zero =>
    intro j hj
    obtain rfl : j = r.length := by omega
    refine Ev.step (fun _ => entrepotlaw11_goes.l0.eq_2 ..) (Ev.neg (by omega) ?_)
    refine between_ev hok (hat _ (Nat.le_refl _)) (show 0 < ns.length by omega) fun r2 => ?_
    show Ev _ (backOk (lk nm kd mt sc cp fl ns ml) r)
    unfold backOk
    have e1 : (lk nm kd mt sc cp fl ns ml).kd = kd := rfl
    rw [e1]
    by_cases h2 : kd = 2
    · refine Ev.pos h2 (Ev.this ?_)
      rw [decide_eq_true h2]; rfl
    · refine Ev.neg h2 ?_
      rw [decide_eq_false h2, Bool.false_or]
      by_cases h0 : r.length = 0
      · refine Ev.pos (by omega) (Ev.this ?_)
        rw [decide_eq_true h0]; rfl
      · refine Ev.neg (by omega) (Ev.pos (by omega) (Ev.this ?_))
        rw [decide_eq_false h0, Bool.false_or]; rfl
  | succ d ih =>
    intro j hj
    have hlt : j < r.length := by omega
    have next := ih (j + 1) (by omega)
    have hs := hr r[j] (List.getElem_mem _)
    have erd : rd r (j : Int) = r[j] := rd_at' hlt
    obtain ⟨s, es⟩ : ∃ s : Nat, r[j] = (s : Int) := ⟨r[j].toNat, by omega⟩
    have hsn : s < ns.length := by omega
    show Ev _ (stepOk (lk nm kd mt sc cp fl ns ml) r j && goesTo (lk nm kd mt sc cp fl ns ml) r d (j + 1))
    refine Ev.step (fun _ => entrepotlaw11_goes.l0.eq_2 ..) (Ev.pos (by omega) (Ev.pos (by omega) ?_))
    rw [erd, es]
    refine Ev.pos (by omega) (Ev.pos (by omega) (between_ev hok (hat j (by omega)) hsn fun r2 => ?_))
    have eload : wrap64 (sumN (lk nm kd mt sc cp fl ns ml) r j + (rd_T32 ns (s : Int)).f2) = sumN (lk nm kd mt sc cp fl ns ml) r (j + 1) := by
      unfold sumN
      rw [sumTo_step _ r hlt, es]; rfl
    have earr : wrap64 ((along (lk nm kd mt sc cp fl ns ml) (unitOf mt) (r.take j)).now + legP (lk nm kd mt sc cp fl ns ml) (along (lk nm kd mt sc cp fl ns ml) (unitOf mt) (r.take j)).at_ s) = arr (lk nm kd mt sc cp fl ns ml) r j (s : Int) := by
      unfold arr; rw [Int.toNat_natCast]; rfl
    have enow : (along (lk nm kd mt sc cp fl ns ml) (unitOf mt) (r.take (j + 1))).now = wrap64 (mx (arr (lk nm kd mt sc cp fl ns ml) r j (s : Int)) (wrap64 (unitOf mt * (rd_T32 ns (s : Int)).f3)) + wrap64 (unitOf mt * (rd_T32 ns (s : Int)).f5)) := by
      rw [along_step _ _ r hlt, es, ← earr]; rfl
    have eat : (along (lk nm kd mt sc cp fl ns ml) (unitOf mt) (r.take (j + 1))).at_ = s := by
      rw [along_step _ _ r hlt, es]; rfl
    rw [enow, eat] at next
    have hw := (g.window s hsn).1
    have hdue : due (lk nm kd mt sc cp fl ns ml) (s : Int) = wrap64 (unitOf mt * (rd_T32 ns (s : Int)).f4) := rfl
    have hst : stepOk (lk nm kd mt sc cp fl ns ml) r j = (loadOk (lk nm kd mt sc cp fl ns ml) r j && (decide (kd = 2) || decide (arr (lk nm kd mt sc cp fl ns ml) r j (s : Int) ≤ due (lk nm kd mt sc cp fl ns ml) (s : Int))) && (decide (kd ≠ 4) || ((decide ((rd_T32 ns (s : Int)).f2 ≤ 0) || behind r j (rd_T32 ns (s : Int)).f6) && (decide (0 ≤ (rd_T32 ns (s : Int)).f2) || ahead r j (rd_T32 ns (s : Int)).f6)))) := by
      unfold stepOk timeOk pairOk
      rw [erd, es]; rfl
    have hlo : loadOk (lk nm kd mt sc cp fl ns ml) r j = (decide (0 ≤ sumN (lk nm kd mt sc cp fl ns ml) r (j + 1)) && decide (sumN (lk nm kd mt sc cp fl ns ml) r (j + 1) ≤ cp)) := rfl
    unfold rdN at hw
    show Ev (fun k => if wrap64 (sumN (lk nm kd mt sc cp fl ns ml) r j + (rd_T32 ns (s : Int)).f2) < 0 then _ else _) _
    rw [eload, earr]
    rw [hst, hlo, hdue]
    generalize sumN (lk nm kd mt sc cp fl ns ml) r (j + 1) = ld at *
    generalize arr (lk nm kd mt sc cp fl ns ml) r j (s : Int) = av at *
    generalize rd_T32 ns (s : Int) = dd at *
    generalize goesTo (lk nm kd mt sc cp fl ns ml) r d (j + 1) = nx at *
    have no : ∀ {nw : Int}, Ev (fun k => entrepotlaw11_goes.j1 k r ld (unitOf mt) nw (j : Int) true nm kd mt sc cp fl ns ml dd.f0 dd.f1 dd.f2 dd.f3 dd.f4 dd.f5 dd.f6) false := Ev.step (fun _ => entrepotlaw11_goes.j1.eq_2 ..) (Ev.pos rfl (Ev.now _))
    have yes : Ev (fun k => entrepotlaw11_goes.j1 k r ld (unitOf mt) (mx av (wrap64 (unitOf mt * dd.f3))) (j : Int) false nm kd mt sc cp fl ns ml dd.f0 dd.f1 dd.f2 dd.f3 dd.f4 dd.f5 dd.f6) ((decide (kd ≠ 4) || ((decide (dd.f2 ≤ 0) || behind r j dd.f6) && (decide (0 ≤ dd.f2) || ahead r j dd.f6))) && nx) := by
      refine Ev.step (fun _ => entrepotlaw11_goes.j1.eq_2 ..) (Ev.neg (by simp) (Ev.pos (by omega) (Ev.pos (by omega) ?_)))
      rw [erd, es]
      exact goes1 hrl next hlt j 0 (by omega) false (by rw [Bool.false_or]; rfl)
    by_cases c1 : ld < 0
    · refine Ev.eq (Ev.pos c1 no) ?_
      rw [decide_eq_false (show ¬ 0 ≤ ld by omega)]; rfl
    · refine Ev.neg c1 ?_
      rw [decide_eq_true (show 0 ≤ ld by omega), Bool.true_and]
      by_cases c2 : ld > cp
      · refine Ev.eq (Ev.pos c2 no) ?_
        rw [decide_eq_false (show ¬ ld ≤ cp by omega)]; rfl
      · refine Ev.neg c2 ?_
        rw [decide_eq_true (show ld ≤ cp by omega), Bool.true_and]
        by_cases c3 : kd = 2
        · refine Ev.eq (Ev.pos c3 yes) ?_
          rw [decide_eq_true c3, Bool.true_or, Bool.true_and]
        · refine Ev.neg c3 ?_
          rw [decide_eq_false c3, Bool.false_or]
          have hle : wrap64 (unitOf mt * dd.f3) ≤ wrap64 (unitOf mt * dd.f4) := by
            have w1 : wrap64 (unitOf mt * dd.f3) = unitOf mt * dd.f3 := by unfold unitOf; split <;> (unfold wrap64; omega)
            have w2 : wrap64 (unitOf mt * dd.f4) = unitOf mt * dd.f4 := by unfold unitOf; split <;> (unfold wrap64; omega)
            rw [w1, w2]
            unfold unitOf
            split <;> omega
          by_cases c4 : mx av (wrap64 (unitOf mt * dd.f3)) > wrap64 (unitOf mt * dd.f4)
          · rw [decide_eq_true c4, decide_eq_false (show ¬ av ≤ wrap64 (unitOf mt * dd.f4) by unfold mx at c4; split at c4 <;> omega)]
            exact no
          · rw [decide_eq_false c4, decide_eq_true (show av ≤ wrap64 (unitOf mt * dd.f4) by unfold mx at c4; split at c4 <;> omega), Bool.true_and]
            exact yes
theorem unit_some : cost_Unit.f nm kd mt sc cp fl ns ml = some (unitOf mt) := by
  unfold cost_Unit.f unitOf
  by_cases h : mt = 6
  · rw [if_pos h, if_pos h]
  · rw [if_neg h, if_neg h]
theorem goes_ev (g : Well11.Good kd mt sc cp fl ns ml) {r : List Int} (hrl : r.length ≤ 300) (hr : ∀ s ∈ r, 0 ≤ s ∧ s < (ns.length : Int)) : Ev (fun k => entrepotlaw11_goes.f k nm kd mt sc cp fl ns ml r) (goesTo (lk nm kd mt sc cp fl ns ml) r r.length 0) := by
  unfold entrepotlaw11_goes.f
  exact Ev.bs unit_some (Ev.pos (by have := g.cnt.1; omega) (goes0 g hrl hr r.length 0 (by omega)))
/-! ### the law, in rounds -/
def fineB (lo : Int) (n : Nat) (l : List Int) : Bool := decide (∀ s ∈ l, lo ≤ s ∧ s < (n : Int)) && decide l.Nodup
theorem fine_snoc (lo : Int) (n : Nat) (l : List Int) (a : Int) : fineB lo n (l ++ [a]) = ((fineB lo n l && (decide (lo ≤ a) && decide (a < (n : Int)))) && l.all fun s => s != a) := by
  unfold fineB
  rw [Bool.eq_iff_iff]
  simp only [Bool.and_eq_true, decide_eq_true_eq, List.all_eq_true, bne_iff_ne, List.nodup_append, List.mem_append, List.mem_singleton]
  constructor
  · rintro ⟨h1, h2, h3, h4⟩
    exact ⟨⟨⟨fun s hs => h1 s (.inl hs), h2⟩, h1 a (.inr rfl)⟩, fun s hs => h4 s hs a rfl⟩
  · rintro ⟨⟨⟨h1, h2⟩, h3⟩, h4⟩
    refine ⟨fun s hs => ?_, h2, by simp, fun s hs b hb => by rw [hb]; exact h4 s hs⟩
    rcases hs with hs | hs
    · exact h1 s hs
    · rw [hs]; exact h3
theorem means2 {lo full ii : Int} {seen r : List Int} {rs : List (List Int)} {j : Nat} (hj : j < r.length) (hrl : r.length ≤ 300) (hsl : seen.length ≤ 1000) {c : Bool} {ret : Bool}
    (hn : Ev (fun k => entrepotlaw11_FeasMeans.l1 k lo c full (seen ++ [r[j]]) ii r ((j + 1 : Nat) : Int) nm kd mt sc cp fl ns ml rs) ret) (e : Nat) : ∀ i : Nat, i + e = seen.length → ∀ b, (b && (seen.drop i).all fun s => s != r[j]) = c →
      Ev (fun k => entrepotlaw11_FeasMeans.l2 k lo b full seen ii r (j : Int) (i : Int) nm kd mt sc cp fl ns ml rs) ret := by
  induction e with
  | zero =>
    intro i hi b hb
    rw [List.drop_of_length_le (by omega), List.all_nil, Bool.and_true] at hb
    subst hb
    refine Ev.step (fun _ => entrepotlaw11_FeasMeans.l2.eq_2 ..) (Ev.neg (by omega) (Ev.pos (by omega) (Ev.pos (by omega) (Ev.pos (by omega) ?_))))
    rw [rd_at' hj, w64s (i := j) (by omega)]; exact hn
  | succ e ih =>
    intro i hi b hb
    have hlt : i < seen.length := by omega
    rw [List.drop_eq_getElem_cons hlt, List.all_cons] at hb
    refine Ev.step (fun _ => entrepotlaw11_FeasMeans.l2.eq_2 ..) (Ev.pos (by omega) ?_)
    rw [rd_at' hj, rd_at' hlt, w64s (i := i) (by omega)]
    cases b with
    | true => exact Ev.pos rfl (Ev.pos (by omega) (Ev.pos (by omega) (Ev.pos (by omega) (ih (i + 1) (by omega) _ (by rw [← hb, Bool.true_and])))))
    | false => exact Ev.neg (by simp) (ih (i + 1) (by omega) false (by rw [← hb, Bool.false_and, Bool.false_and]))
theorem means1 {lo full ii : Int} {seen r : List Int} {rs : List (List Int)} (hrl : r.length ≤ 300) (hsl : seen.length ≤ 300) {ret : Bool}
    (hn : Ev (fun k => entrepotlaw11_FeasMeans.l0 k lo (fineB lo ns.length (seen ++ r)) full (seen ++ r) (wrap64 (ii + 1)) nm kd mt sc cp fl ns ml rs) ret) (e : Nat) : ∀ j : Nat, j + e = r.length →
      Ev (fun k => entrepotlaw11_FeasMeans.l1 k lo (fineB lo ns.length (seen ++ r.take j)) full (seen ++ r.take j) ii r (j : Int) nm kd mt sc cp fl ns ml rs) ret := by
  induction e with
  | zero =>
    intro j hj
    rw [List.take_of_length_le (by omega)]
    exact Ev.step (fun _ => entrepotlaw11_FeasMeans.l1.eq_2 ..) (Ev.neg (by omega) hn)
  | succ e ih =>
    intro j hj
    have hlt : j < r.length := by omega
    have next := ih (j + 1) (by omega)
    rw [List.take_succ_eq_append_getElem hlt, ← List.append_assoc, fine_snoc] at next
    have hlen : (seen ++ r.take j).length ≤ 1000 := by rw [List.length_append, List.length_take]; omega
    have go : ∀ b, b = (fineB lo ns.length (seen ++ r.take j) && (decide (lo ≤ r[j]) && decide (r[j] < (ns.length : Int)))) → Ev (fun k => entrepotlaw11_FeasMeans.j5 k lo b full (seen ++ r.take j) ii r (j : Int) nm kd mt sc cp fl ns ml rs) ret := fun b hb =>
      Ev.step (fun _ => entrepotlaw11_FeasMeans.j5.eq_2 ..) (means2 hlt hrl hlen next _ 0 (Nat.zero_add _) b (by rw [hb, List.drop_zero]))
    refine Ev.step (fun _ => entrepotlaw11_FeasMeans.l1.eq_2 ..) (Ev.pos (by omega) ?_)
    rw [rd_at' hlt]
    cases hf : fineB lo ns.length (seen ++ r.take j) with
    | true =>
      refine Ev.pos rfl (Ev.pos (by omega) ?_)
      by_cases c1 : r[j] ≥ lo
      · exact Ev.pos c1 (go _ (by rw [hf, Bool.true_and, decide_eq_true (show lo ≤ r[j] from c1), Bool.true_and]))
      · exact Ev.neg c1 (go _ (by rw [hf, decide_eq_false (show ¬ lo ≤ r[j] from c1)]; rfl))
    | false => exact Ev.neg (by simp) (go _ (by rw [hf, Bool.false_and]))
theorem filled_take {rs : List (List Int)} {i : Nat} (hi : i < rs.length) : (filled (rs.take (i + 1))).length = (filled (rs.take i)).length + (if 0 < rs[i].length then 1 else 0) := by
  unfold filled
  rw [List.take_succ_eq_append_getElem hi, List.filter_append, List.length_append]
  congr 1
  by_cases h : 0 < rs[i].length
  · rw [if_pos h, List.filter_cons, if_pos (decide_eq_true h)]; rfl
  · rw [if_neg h, List.filter_cons, if_neg (by rw [decide_eq_false h]; exact Bool.false_ne_true)]; rfl
theorem means0 {lo : Int} {rs : List (List Int)} (hl1 : rs.length ≤ 200) (hl2 : ∀ r ∈ rs, r.length ≤ 300) (hl3 : many rs ≤ 300) (hlo : 0 ≤ lo ∧ lo ≤ 1) (hns : ns.length ≤ 400) {ret : Bool}
    (hn : Ev (fun k => entrepotlaw11_FeasMeans.j7 k (fineB lo ns.length rs.flatten && ((rs.flatten.length : Int) == (ns.length : Int) - lo)) ((filled rs).length : Int) nm kd mt sc cp fl ns ml rs) ret) (e : Nat) : ∀ i : Nat, i + e = rs.length →
      Ev (fun k => entrepotlaw11_FeasMeans.l0 k lo (fineB lo ns.length (rs.take i).flatten) ((filled (rs.take i)).length : Int) (rs.take i).flatten (i : Int) nm kd mt sc cp fl ns ml rs) ret := by
  induction e with
  | zero =>
    intro i hi
    rw [List.take_of_length_le (by omega)]
    refine Ev.step (fun _ => entrepotlaw11_FeasMeans.l0.eq_2 ..) (Ev.neg (by omega) ?_)
    rw [show wrap64 ((ns.length : Int) - lo) = (ns.length : Int) - lo by unfold wrap64; omega]
    cases hf : fineB lo ns.length rs.flatten with
    | true => rw [hf, Bool.true_and] at hn; exact Ev.pos rfl hn
    | false => rw [hf, Bool.false_and] at hn; exact Ev.neg (by simp) hn
  | succ e ih =>
    intro i hi
    have hlt : i < rs.length := by omega
    have next := ih (i + 1) (by omega)
    have efl : (rs.take (i + 1)).flatten = (rs.take i).flatten ++ rs[i] := by rw [List.take_succ_eq_append_getElem hlt, List.flatten_append]; simp
    rw [efl, filled_take hlt] at next
    have hsl : (rs.take i).flatten.length ≤ 300 := by
      have h1 : (rs.take i).flatten.length = many (rs.take i) := by rw [List.length_flatten]; rfl
      have h2 : many (rs.take i) ≤ many rs := by
        have h3 : many rs = many (rs.take i) + many (rs.drop i) := by
          unfold many
          have e3 : (rs.map List.length).foldr (· + ·) 0 = (rs.map List.length).sum := rfl
          show (rs.map List.length).sum = ((rs.take i).map List.length).sum + ((rs.drop i).map List.length).sum
          rw [← List.sum_append, ← List.map_append, List.take_append_drop]
        omega
      omega
    have hrl := hl2 _ (List.getElem_mem hlt)
    have hfl : (filled (rs.take i)).length ≤ 200 := by
      have := List.length_filter_le (fun r : List Int => decide (0 < r.length)) (rs.take i)
      rw [List.length_take] at this
      unfold filled; omega
    have go : ∀ full : Int, full = (((filled (rs.take i)).length + (if 0 < rs[i].length then 1 else 0) : Nat) : Int) → Ev (fun k => entrepotlaw11_FeasMeans.j3 k lo (fineB lo ns.length (rs.take i).flatten) full (rs.take i).flatten (i : Int) rs[i] nm kd mt sc cp fl ns ml rs) ret := fun full hful => by
      subst hful
      refine Ev.step (fun _ => entrepotlaw11_FeasMeans.j3.eq_2 ..) ?_
      have := means1 (rs := rs) (ii := (i : Int)) hrl hsl (by rw [w64s (i := i) (by omega)]; exact next) rs[i].length 0 (Nat.zero_add _)
      simpa using this
    refine Ev.step (fun _ => entrepotlaw11_FeasMeans.l0.eq_2 ..) (Ev.pos (by omega) (Ev.pos (by omega) ?_))
    rw [Well11.rd1_at hlt]
    by_cases c : (rs[i].length : Int) > 0
    · refine Ev.pos c (go _ ?_)
      rw [if_pos (by omega)]; unfold wrap64; omega
    · refine Ev.neg c (go _ ?_)
      rw [if_neg (by omega)]; simp
/-! what it comes to -/
theorem mates_good (g : Well11.Good kd mt sc cp fl ns ml) : Mates (lk nm kd mt sc cp fl ns ml) := fun h4 s h1 h2 => by
  have h2 : s < ns.length := h2
  have m1 := (g.mate s h2).2 ⟨h4, by omega⟩
  obtain ⟨m, e⟩ : ∃ m : Nat, (rdN ns (s : Int)).f6 = (m : Int) := ⟨(rdN ns (s : Int)).f6.toNat, by omega⟩
  rw [e] at m1
  exact ⟨m, e, by omega, show m < ns.length by omega, by omega, m1.2.2.2.1, m1.2.2.2.2.2⟩
theorem each_fine {kd : Int} {n : Nat} {l : List Int} (hn : 1 ≤ n) : (fineB (least kd) n l && ((l.length : Int) == (n : Int) - least kd)) = true ↔ Each (lo kd) n l := by
  unfold fineB
  simp only [Bool.and_eq_true, decide_eq_true_eq, beq_iff_eq]
  have hl := lo_least kd
  have hlo : lo kd ≤ 1 := by unfold lo; split <;> omega
  constructor
  · rintro ⟨⟨h1, h2⟩, h3⟩
    exact ⟨fun s hs => by have := h1 s hs; omega, h2, by omega⟩
  · rintro ⟨h1, h2, h3⟩
    exact ⟨⟨fun s hs => by have := h1 s hs; omega, h2⟩, by omega⟩
def goesR (x : Look) (rs : List (List Int)) (i : Nat) : Bool := goesTo x (rd_L1 rs (i : Int)) (rd_L1 rs (i : Int)).length 0
theorem means3 {rs : List (List Int)} {t : Bool} (ht : feas_Feasible.f nm kd mt sc cp fl ns ml rs = some t) (i : Nat) : Ev (fun k => entrepotlaw11_FeasMeans.l3 k false (i : Int) nm kd mt sc cp fl ns ml rs) (t == false) := by
  refine Ev.step (fun _ => entrepotlaw11_FeasMeans.l3.eq_2 ..) ?_
  by_cases c : (i : Int) < (rs.length : Int)
  · exact Ev.pos c (Ev.neg (by simp) (Ev.bs ht (Ev.now _)))
  · exact Ev.neg c (Ev.bs ht (Ev.now _))
theorem means4 (g : Well11.Good kd mt sc cp fl ns ml) {rs : List (List Int)} (hl2 : ∀ r ∈ rs, r.length ≤ 300) (hl1 : rs.length ≤ 200) (he : ∀ r ∈ rs, ∀ s ∈ r, 0 ≤ s ∧ s < (ns.length : Int)) {t : Bool} (ht : feas_Feasible.f nm kd mt sc cp fl ns ml rs = some t) (d : Nat) :
    ∀ i : Nat, i + d = rs.length → Ev (fun k => entrepotlaw11_FeasMeans.l3 k true (i : Int) nm kd mt sc cp fl ns ml rs) (t == (List.range' i d).all (goesR (lk nm kd mt sc cp fl ns ml) rs)) := by
  induction d with
  | zero =>
    intro i hi
    exact Ev.step (fun _ => entrepotlaw11_FeasMeans.l3.eq_2 ..) (Ev.neg (by omega) (Ev.bs ht (Ev.now _)))
  | succ d ih =>
    intro i hi
    have hlt : i < rs.length := by omega
    have next := ih (i + 1) (by omega)
    have hm : rd_L1 rs (i : Int) ∈ rs := by rw [Well11.rd1_at hlt]; exact List.getElem_mem hlt
    refine Ev.step (fun _ => entrepotlaw11_FeasMeans.l3.eq_2 ..) (Ev.pos (by omega) (Ev.pos rfl (Ev.pos (by omega) (Ev.bind (goes_ev g (hl2 _ hm) (he _ hm)) ?_))))
    rw [w64s (i := i) (by omega), List.range'_succ, List.all_cons]
    show Ev (fun k => entrepotlaw11_FeasMeans.l3 k (goesR (lk nm kd mt sc cp fl ns ml) rs i) _ nm kd mt sc cp fl ns ml rs) _
    cases hg : goesR (lk nm kd mt sc cp fl ns ml) rs i with
    | true => rw [Bool.true_and]; exact next
    | false => rw [Bool.false_and]; exact means3 ht (i + 1)
theorem means7 (g : Well11.Good kd mt sc cp fl ns ml) {rs : List (List Int)} (hfw : fewF rs = true) (hl1 : rs.length ≤ 200) (hl2 : ∀ r ∈ rs, r.length ≤ 300) :
    Ev (fun k => entrepotlaw11_FeasMeans.j7 k (fineB (least kd) ns.length rs.flatten && ((rs.flatten.length : Int) == (ns.length : Int) - least kd)) ((filled rs).length : Int) nm kd mt sc cp fl ns ml rs) true := by
  have hn := g.cnt
  have hkd := g.kind
  have ht := feasible_some (nm := nm) (kd := kd) (sc := sc) (cp := cp) (fl := fl) (rs := rs) (ok_good g) hfw
  have hE := each_fine (kd := kd) (l := rs.flatten) hn.1
  have hW := wrongs_nil (x := lk nm kd mt sc cp fl ns ml) (rs := rs)
  have hC := each_nil (x := lk nm kd mt sc cp fl ns ml) (rs := rs)
  have hF := fleetB_nil (x := lk nm kd mt sc cp fl ns ml) (n := ((filled rs).length : Int))
  have hC : badAll (lk nm kd mt sc cp fl ns ml) rs rs.length = [] ∧ covAll (lk nm kd mt sc cp fl ns ml) (counts ns.length (stopsOf rs)) ns.length = [] ↔ Each (lo kd) ns.length rs.flatten := hC
  have hF : fleetB (lk nm kd mt sc cp fl ns ml) ((filled rs).length : Int) = [] ↔ ¬ ((kd = 1 ∧ ((filled rs).length : Int) ≠ 1) ∨ (kd ≠ 1 ∧ fl > 0 ∧ ((filled rs).length : Int) > fl)) := hF
  have hW : wrongsOf (lk nm kd mt sc cp fl ns ml) rs = [] ↔ badAll (lk nm kd mt sc cp fl ns ml) rs rs.length = [] ∧ covAll (lk nm kd mt sc cp fl ns ml) (counts ns.length (stopsOf rs)) ns.length = [] ∧ fleetB (lk nm kd mt sc cp fl ns ml) ((filled rs).length : Int) = [] ∧ routesB (lk nm kd mt sc cp fl ns ml) rs rs.length = [] := hW
  have hWE : wrongsOf (lk nm kd mt sc cp fl ns ml) rs = [] ↔ Each (lo kd) ns.length rs.flatten ∧ fleetB (lk nm kd mt sc cp fl ns ml) ((filled rs).length : Int) = [] ∧ routesB (lk nm kd mt sc cp fl ns ml) rs rs.length = [] := by
    rw [hW, ← hC]; exact ⟨fun h => ⟨⟨h.1, h.2.1⟩, h.2.2⟩, fun h => ⟨h.1.1, h.1.2, h.2⟩⟩
  generalize ((rs.flatten.length : Int) == (ns.length : Int) - least kd) = q at *
  generalize fineB (least kd) ns.length rs.flatten = p at *
  refine Ev.step (fun _ => entrepotlaw11_FeasMeans.j7.eq_2 ..) ?_
  by_cases c1 : kd = 1
  · refine Ev.pos c1 (Ev.bs ht ?_)
    have hr : routesB (lk nm kd mt sc cp fl ns ml) rs rs.length = [] := routesB_nil.2 fun i hi => route_nil.2 ⟨fun e => by have e1 : 2 ≤ kd ∧ kd ≤ 4 := e; omega, fun e => by have e1 : 3 ≤ kd ∧ kd ≤ 4 := e; omega, fun e => by have e1 : kd = 4 := e; omega⟩
    cases hb : p && q with
    | true =>
      refine Ev.pos rfl (Ev.this ?_)
      congr 1
      have h1 := hE.1 hb
      rw [beq_iff_eq, Bool.eq_iff_iff, List.isEmpty_iff, hWE, hF, beq_iff_eq]
      exact ⟨fun h => by have := h.2.1; omega, fun h => ⟨h1, by omega, hr⟩⟩
    | false =>
      refine Ev.neg (by simp) (Ev.this ?_)
      congr 1
      rw [beq_iff_eq, Bool.eq_false_iff]
      intro h
      rw [List.isEmpty_iff, hWE] at h
      rw [hE.2 h.1] at hb; cases hb
  · refine Ev.neg c1 ?_
    have hfl := (g.fleet.2 c1).1
    have fin : ∀ b, (b = true ↔ (p && q) = true ∧ (fl = 0 ∨ ((filled rs).length : Int) ≤ fl)) → Ev (fun k => entrepotlaw11_FeasMeans.j8 k b nm kd mt sc cp fl ns ml rs) true := fun b hb => by
      refine Ev.step (fun _ => entrepotlaw11_FeasMeans.j8.eq_2 ..) ?_
      cases b with
      | false =>
        refine Ev.eq (means3 ht 0) ?_
        rw [beq_iff_eq, Bool.eq_false_iff]
        intro h
        rw [List.isEmpty_iff, hWE, hF] at h
        have := hb.2 ⟨hE.2 h.1, by have := h.2.1; omega⟩
        cases this
      | true =>
        obtain ⟨h1, h2⟩ := hb.1 rfl
        have he := hE.1 h1
        have hlo : lo kd = 1 := if_neg c1
        rw [hlo] at he
        have hin : ∀ r ∈ rs, ∀ s ∈ r, 0 ≤ s ∧ s < (ns.length : Int) := fun r hr s hs => by have := he.range s (List.mem_flatten.2 ⟨r, hr, hs⟩); omega
        refine Ev.eq (means4 g hl2 hl1 hin ht rs.length 0 (Nat.zero_add _)) ?_
        rw [beq_iff_eq, Bool.eq_iff_iff, List.isEmpty_iff, hWE, hF, hlo, ← goes_all (x := lk nm kd mt sc cp fl ns ml) (show 2 ≤ kd ∧ kd ≤ 4 by omega) he (mates_good g), ← List.range_eq_range', List.all_eq_true]
        constructor
        · rintro ⟨_, _, h3⟩ i hi
          have hi := List.mem_range.1 hi
          unfold goesR
          rw [Well11.rd1_at hi]; exact h3 i hi
        · intro h3
          refine ⟨he, by omega, fun i hi => ?_⟩
          have := h3 i (List.mem_range.2 hi)
          unfold goesR at this
          rwa [Well11.rd1_at hi] at this
    cases hb : p && q with
    | true =>
      refine Ev.pos rfl ?_
      by_cases c0 : fl = 0
      · exact Ev.pos c0 (fin true ⟨fun _ => ⟨hb, .inl c0⟩, fun _ => rfl⟩)
      · exact Ev.neg c0 (fin _ ⟨fun h => ⟨hb, .inr (of_decide_eq_true h)⟩, fun h => decide_eq_true (h.2.elim (fun e => absurd e c0) id)⟩)
    | false => exact Ev.neg (by simp) (fin false ⟨fun h => (by cases h), fun h => absurd (hb.symm.trans h.1) Bool.false_ne_true⟩)
end
theorem FeasMeans (nm : ByteArray) (kd mt sc cp fl : Int) (ns : List FeasWalk.Node) (ml : List Int) (rs : List (List Int)) (_ : Open.InstGood nm kd mt sc cp fl ns ml) (_ : Open.PlanGood rs) : ∃ k, entrepotlaw11_FeasMeans.f k nm kd mt sc cp fl ns ml rs = some true := by
  refine Ev.rounds ?_
  have yes : Ev (fun k => entrepotlaw11_FeasMeans.j0 k true nm kd mt sc cp fl ns ml rs) true := Ev.step (fun _ => entrepotlaw11_FeasMeans.j0.eq_2 ..) (Ev.pos rfl (Ev.bs entrepotlaw11_shown.only (Ev.now _)))
  unfold entrepotlaw11_FeasMeans.f
  refine Ev.bind (Well11.well_ev nm kd mt sc cp fl ns ml) ?_
  cases hw : wellF nm kd mt sc cp fl ns ml with
  | false => exact Ev.neg (by simp) yes
  | true =>
    have g := good_of hw
    refine Ev.pos rfl ?_
    obtain ⟨b, hb, hb2⟩ := Well11.long_tells rs
    refine Ev.bind hb ?_
    cases b with
    | true => exact Ev.pos rfl yes
    | false =>
      obtain ⟨l1, l2, l3⟩ := hb2 rfl
      have hfw := few_long (by omega) l2
      have hn := g.cnt
      have h7 := means7 (nm := nm) g hfw l1 l2
      have hlo : 0 ≤ least kd ∧ least kd ≤ 1 := by unfold least; split <;> omega
      have h0 := means0 l1 l2 l3 hlo hn.2 h7 rs.length 0 (Nat.zero_add _)
      refine Ev.neg (by simp) (Ev.bs entrepotlaw11_shown.only (Ev.step (fun _ => entrepotlaw11_FeasMeans.j0.eq_2 ..) (Ev.neg (by simp) ?_)))
      have h1 : Ev (fun k => entrepotlaw11_FeasMeans.j1 k (least kd) nm kd mt sc cp fl ns ml rs) true := by
        refine Ev.step (fun _ => entrepotlaw11_FeasMeans.j1.eq_2 ..) ?_
        have e1 : fineB (least kd) ns.length [] = true := by unfold fineB; simp
        simpa [e1, filled] using h0
      by_cases c1 : kd = 1
      · rw [show least kd = 0 from if_pos c1] at h1; exact Ev.pos c1 h1
      · rw [show least kd = 1 from if_neg c1] at h1; exact Ev.neg c1 h1
end Go.Proofs.Ytlncbckpcmojpaa.Pure
