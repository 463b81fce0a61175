/- What the reference tells of a plan is what the program tells. Plain lemmas. -/
import Derived.Test.YtlncbckpcmojpaaMkj
import Derived.Test.YtlncbckpcmojpaaGRef11F
import Derived.Test.YtlncbckpcmojpaaMkm
set_option linter.unusedVariables false
namespace Go.Proofs.Ytlncbckpcmojpaa.Pure
open Go.RowKit Go.Proofs.Ytlncbckpcmojpaa.P Go.Proofs.YtlncbckpcmojpaaW.PrintWords Go.Proofs.YtlncbckpcmojpaaW.PrintLast
open FeasWalk FeasP StopsWalk Ref11
open Well11 (w64s wellF good_of rdN rdN_at conv rdN_conv Good)
theorem nodes_odd (n : Nat) (l : List Int) : nodesB n l = !(l.any (oddB n)) := by
 unfold nodesB
 rw [List.not_any_eq_all_not]
 congr 1
 funext s
 unfold stopB oddB
 by_cases h1 : s < 0
 ·rw [decide_eq_true h1, decide_eq_false (show ¬ 0 ≤ s by omega)]; rfl
 ·rw [decide_eq_false h1, decide_eq_true (show 0 ≤ s by omega)]
  by_cases h2 : s < (n : Int)
  ·rw [decide_eq_true h2, decide_eq_false (show ¬ s ≥ (n : Int) by omega)]; rfl
  ·rw [decide_eq_false h2, decide_eq_true (show s ≥ (n : Int) by omega)]; rfl
theorem rd_conv {ns : List FeasWalk.Node} {s : Int} (h : 0 ≤ s ∧ s < (ns.length : Int)) : Ref08.rdN (ns.map conv) s = conv (rdN ns s) := by
 obtain ⟨i, rfl⟩ : ∃ i : Nat, s = (i : Int) := ⟨s.toNat, by omega⟩
 exact rdN_conv (by omega)
theorem sums_eq {x : Look} : ∀ (l : List Int) (_ : ∀ s ∈ l, 0 ≤ s ∧ s < (x.ns.length : Int)) (s : Int),
  ((List.range l.length).map fun j : Nat => (l.take (j + 1)).foldl (fun s a => wrap64 (s + (Ref08.rdN (x.ns.map conv) a).f2)) s) = sumsFrom x s l
 | [], _, _ => rfl
 | a :: l, h, s => by
  have e : (Ref08.rdN (x.ns.map conv) a).f2 = (rdN x.ns a).f2 := by rw [rd_conv (h a (List.mem_cons_self ..))]; rfl
  rw [List.length_cons, List.range_succ_eq_map, List.map_cons, List.map_map]
  show wrap64 (s + _) :: _ = wrap64 (s + (rdN x.ns a).f2) :: sumsFrom x (wrap64 (s + (rdN x.ns a).f2)) l
  rw [← sums_eq l (fun b hb => h b (List.mem_cons_of_mem _ hb)), ← e]
  rfl
theorem loads_eq (x : Look) (l : List Int) : loadsR (x.ns.map conv) l = loadsOf x l := by
 unfold loadsR loadsOf oddR
 rw [List.length_map, nodes_odd]
 cases h : l.any (oddB x.ns.length) with
 | true => rfl
 | false =>
  rw [if_pos (show (!false) = true from rfl), if_neg Bool.false_ne_true]
  exact sums_eq l (nodes_in (n := x.ns.length) (by rw [nodes_odd, h]; rfl)) 0
def toIn (x : Look) : Ref08.In := ik x.nm x.kd x.mt x.sc x.cp x.fl (x.ns.map conv) x.mx
theorem leg_eq (x : Look) {i j : Nat} (hi : i < x.ns.length) (hj : j < x.ns.length) : legV (toIn x) i j = legP x i j := by
 have e : legR (toIn x) i j = legOf x i j := by
  unfold legR legOf
  show (if x.mt = 0 then (if i * (x.ns.map conv).length + j < x.mx.length then some (rd x.mx ((i * (x.ns.map conv).length + j : Nat) : Int), 0) else none) else metric_Dist.f x.mt x.sc (wrap64 ((Ref08.rdN (x.ns.map conv) (j : Int)).f0 - (Ref08.rdN (x.ns.map conv) (i : Int)).f0)) (wrap64 ((Ref08.rdN (x.ns.map conv) (j : Int)).f1 - (Ref08.rdN (x.ns.map conv) (i : Int)).f1))) = _
  rw [rdN_conv hi, rdN_conv hj, List.length_map]; rfl
 unfold legV legP
 rw [e]
theorem mx_gt {a b c : Int} (h : b ≤ c) : mx a b > c ↔ a > c := by unfold mx; split <;> omega
theorem unit_le (mt : Int) : unitOf mt = 1 ∨ unitOf mt = 10 := by unfold unitOf; split <;> simp
theorem win_le (mt : Int) {a b : Int} (h : 0 ≤ a ∧ a ≤ b ∧ b ≤ 100000000) : wrap64 (unitOf mt * a) ≤ wrap64 (unitOf mt * b) := by
 have w : ∀ t : Int, 0 ≤ t → t ≤ 1000000000 → wrap64 t = t := fun t h1 h2 => by unfold wrap64; omega
 rcases unit_le mt with e | e <;> rw [e, w _ (by omega) (by omega), w _ (by omega) (by omega)] <;> omega
abbrev W1 := S37
abbrev W2 := S68
def convW (w : W1) : W2 := ⟨w.f0, w.f1, w.f2⟩
/-- How two runs through a route's first k stops hang together. -/
structure Like12 (n : Nat) (l : List Int) (k : Nat) (r : RunR) (q : Run) : Prop where
 at_ : r.at_ = q.at_
 now : r.now = q.now
 lt : q.at_ < n
 i : r.i = k
 late : (r.late < 0 ∧ q.late < 0) ∨ ∃ j : Nat, j < k ∧ r.late = (j : Int) ∧ q.late = rd l (j : Int) ∧ 0 ≤ q.late
def WinOk (ns : List FeasWalk.Node) : Prop := ∀ i : Nat, i < ns.length → 0 ≤ (rdN ns (i : Int)).f3 ∧ (rdN ns (i : Int)).f3 ≤ (rdN ns (i : Int)).f4 ∧ (rdN ns (i : Int)).f4 ≤ 100000000
theorem step12 {x : Look} (g : WinOk x.ns) {l : List Int} {k : Nat} (hk : k < l.length) {r : RunR} {q : Run} (h : Like12 x.ns.length l k r q) (hs : 0 ≤ l[k] ∧ l[k] < (x.ns.length : Int)) :
  Like12 x.ns.length l (k + 1) (stepR (legV (toIn x)) (x.ns.map conv) (unitOf x.mt) r l[k]) (FeasWalk.serve x (unitOf x.mt) (goTo x (unitOf x.mt) q l[k].toNat) l[k].toNat) := by
 have hrd := rd_at' hk
 generalize l[k] = s at *
 obtain ⟨i, rfl⟩ : ∃ i : Nat, s = (i : Int) := ⟨s.toNat, by omega⟩
 have hi : i < x.ns.length := by omega
 obtain ⟨ra, rn, rl, ri, ro⟩ := r
 obtain ⟨qa, qn, ql, qo⟩ := q
 obtain ⟨h1, h2, h4, h3, h5⟩ := h
 simp only at h1 h2 h3 h4 h5
 subst h1 h2 h3
 unfold stepR FeasWalk.serve goTo lateT
 rw [rdN_conv hi, Int.toNat_natCast]
 simp only
 rw [leg_eq x h4 hi]
 have hw := win_le x.mt (g i hi)
 refine ⟨rfl, rfl, hi, rfl, ?_⟩
 show ((if rl < 0 ∧ mx (wrap64 (rn + legP x ra i)) (wrap64 (unitOf x.mt * (rdN x.ns (i : Int)).f3)) > wrap64 (unitOf x.mt * (rdN x.ns (i : Int)).f4) then (ri : Int) else rl) < 0 ∧ (if ql < 0 ∧ wrap64 (rn + legP x ra i) > wrap64 (unitOf x.mt * (rdN x.ns (i : Int)).f4) then (i : Int) else ql) < 0) ∨
  ∃ j : Nat, j < ri + 1 ∧ (if rl < 0 ∧ mx (wrap64 (rn + legP x ra i)) (wrap64 (unitOf x.mt * (rdN x.ns (i : Int)).f3)) > wrap64 (unitOf x.mt * (rdN x.ns (i : Int)).f4) then (ri : Int) else rl) = (j : Int) ∧ (if ql < 0 ∧ wrap64 (rn + legP x ra i) > wrap64 (unitOf x.mt * (rdN x.ns (i : Int)).f4) then (i : Int) else ql) = rd l (j : Int) ∧ 0 ≤ (if ql < 0 ∧ wrap64 (rn + legP x ra i) > wrap64 (unitOf x.mt * (rdN x.ns (i : Int)).f4) then (i : Int) else ql)
 have hm := mx_gt (a := wrap64 (rn + legP x ra i)) hw
 generalize wrap64 (unitOf x.mt * (rdN x.ns (i : Int)).f4) = dd at *
 rcases h5 with ⟨a1, a2⟩ | ⟨j, a1, a2, a3, a4⟩
 ·by_cases hc : wrap64 (rn + legP x ra i) > dd
  ·rw [if_pos ⟨a1, hm.2 hc⟩, if_pos ⟨a2, hc⟩]
   exact .inr ⟨ri, by omega, rfl, hrd.symm, by omega⟩
  ·rw [if_neg (fun e => hc (hm.1 e.2)), if_neg (fun e => hc e.2)]
   exact .inl ⟨a1, a2⟩
 ·rw [if_neg (fun e => by omega), if_neg (fun e => by omega)]
  exact .inr ⟨j, by omega, a2, a3, a4⟩
theorem along12 {x : Look} (g : WinOk x.ns) (h0 : 0 < x.ns.length) {l : List Int} (hl : ∀ s ∈ l, 0 ≤ s ∧ s < (x.ns.length : Int)) : ∀ k, k ≤ l.length →
  Like12 x.ns.length l k (alongR (legV (toIn x)) (x.ns.map conv) (unitOf x.mt) (l.take k)) (along x (unitOf x.mt) (l.take k))
 | 0, _ => ⟨rfl, by
   show (startR (x.ns.map conv) (unitOf x.mt)).now = (FeasWalk.start x (unitOf x.mt)).now
   unfold startR FeasWalk.start; simp only; rw [rd_conv (s := 0) (by omega)]; rfl, h0, rfl, .inl ⟨by show (-1 : Int) < 0; omega, by show (-1 : Int) < 0; omega⟩⟩
 | k + 1, hk => by
  have ih := along12 g h0 hl k (by omega)
  have hk : k < l.length := by omega
  rw [alongR_step _ _ _ _ hk]
  have e : along x (unitOf x.mt) (l.take (k + 1)) = FeasWalk.serve x (unitOf x.mt) (goTo x (unitOf x.mt) (along x (unitOf x.mt) (l.take k)) l[k].toNat) l[k].toNat := by
   unfold along; rw [List.take_succ_eq_append_getElem hk, List.foldl_append]; rfl
  rw [e]
  exact step12 g hk ih (hl _ (List.getElem_mem hk))
theorem late_eq {x : Look} (g : WinOk x.ns) (h0 : 0 < x.ns.length) {l : List Int} (hl : ∀ s ∈ l, 0 ≤ s ∧ s < (x.ns.length : Int)) (hn : nodesB x.ns.length l = true) (i : Int) :
  late1 i l (timesR (toIn x) l).2 ++ late2 i l (timesR (toIn x) l).2 = (lateB x i l).map convW := by
 have fin : ∀ t d : Int, (t < 0 ∧ d < 0 ∨ (∃ j : Nat, j < l.length ∧ t = (j : Int) ∧ d = rd l (j : Int) ∧ 0 ≤ d) ∨ t = (l.length : Int) ∧ d = 0) → late1 i l t ++ late2 i l t = (if d ≥ 0 then [(⟨6, i, d⟩ : W1)] else []).map convW := by
  rintro t d (⟨a, b⟩ | ⟨j, a, rfl, rfl, b⟩ | ⟨rfl, rfl⟩)
  ·unfold late1 late2
   rw [if_neg (by omega), if_neg (by omega), if_neg (by omega)]; rfl
  ·unfold late1 late2
   rw [if_pos (by omega), if_neg (by omega), if_pos b]; rfl
  ·unfold late1 late2
   rw [if_neg (by omega), if_pos rfl, if_pos (by omega)]; rfl
 refine fin _ _ ?_
 by_cases hl0 : l = []
 ·subst hl0; exact .inl ⟨by show (-1 : Int) < 0; omega, by show (-1 : Int) < 0; omega⟩
 have H := along12 g h0 hl l.length (Nat.le_refl _)
 rw [List.take_length] at H
 have e1 : (timesR (toIn x) l).2 = endR (legV (toIn x)) (x.ns.map conv) (unitOf x.mt) l.length (alongR (legV (toIn x)) (x.ns.map conv) (unitOf x.mt) l) := by
  unfold timesR timesG
  rw [if_neg hl0, show (toIn x).ns.length = x.ns.length from List.length_map _, if_pos hn]; rfl
 have e2 : (timesOf x l).2 = (goTo x (unitOf x.mt) (along x (unitOf x.mt) l) 0).late := by unfold timesOf; rw [if_neg hl0]
 rw [e1, e2]
 generalize alongR (legV (toIn x)) (x.ns.map conv) (unitOf x.mt) l = r at *
 generalize along x (unitOf x.mt) l = q at *
 obtain ⟨ra, rn, rl, ri, ro⟩ := r
 obtain ⟨qa, qn, ql, qo⟩ := q
 obtain ⟨h1, h2, h4, h3, h5⟩ := H
 simp only at h1 h2 h3 h4 h5 ⊢
 subst h1 h2
 unfold goTo endR lateT
 rw [leg_eq x h4 h0, rd_conv (s := 0) (by omega)]
 show ((if rl < 0 ∧ wrap64 (rn + legP x ra 0) > wrap64 (unitOf x.mt * (rdN x.ns 0).f4) then (l.length : Int) else rl) < 0 ∧ (if ql < 0 ∧ wrap64 (rn + legP x ra 0) > wrap64 (unitOf x.mt * (rdN x.ns 0).f4) then ((0 : Nat) : Int) else ql) < 0) ∨
  (∃ j : Nat, j < l.length ∧ (if rl < 0 ∧ wrap64 (rn + legP x ra 0) > wrap64 (unitOf x.mt * (rdN x.ns 0).f4) then (l.length : Int) else rl) = (j : Int) ∧ (if ql < 0 ∧ wrap64 (rn + legP x ra 0) > wrap64 (unitOf x.mt * (rdN x.ns 0).f4) then ((0 : Nat) : Int) else ql) = rd l (j : Int) ∧ 0 ≤ (if ql < 0 ∧ wrap64 (rn + legP x ra 0) > wrap64 (unitOf x.mt * (rdN x.ns 0).f4) then ((0 : Nat) : Int) else ql)) ∨
  ((if rl < 0 ∧ wrap64 (rn + legP x ra 0) > wrap64 (unitOf x.mt * (rdN x.ns 0).f4) then (l.length : Int) else rl) = (l.length : Int) ∧ (if ql < 0 ∧ wrap64 (rn + legP x ra 0) > wrap64 (unitOf x.mt * (rdN x.ns 0).f4) then ((0 : Nat) : Int) else ql) = 0)
 generalize wrap64 (unitOf x.mt * (rdN x.ns 0).f4) = dd at *
 rcases h5 with ⟨a1, a2⟩ | ⟨j, a1, a2, a3, a4⟩
 ·by_cases hc : wrap64 (rn + legP x ra 0) > dd
  ·rw [if_pos ⟨a1, hc⟩, if_pos ⟨a2, hc⟩]
   exact .inr (.inr ⟨rfl, rfl⟩)
  ·rw [if_neg (fun e => hc e.2), if_neg (fun e => hc e.2)]
   exact .inl ⟨a1, a2⟩
 ·rw [if_neg (fun e => by omega), if_neg (fun e => by omega)]
  exact .inr (.inl ⟨j, a1, a2, a3, a4⟩)
theorem over_eq (x : Look) (i : Int) : ∀ ls l : List Int, ls.length = l.length → overR x.cp i ls l = (if idx (over x) ls ≥ 0 then [(⟨5, i, rd l (idx (over x) ls)⟩ : W1)] else []).map convW
 | [], [], _ => rfl
 | a :: ls, s :: l, h => by
  have ih := over_eq x i ls l (by simpa using h)
  unfold overR
  by_cases ha : a > x.cp ∨ a < 0
  ·have ho : over x a = true := by unfold over; simp only [Bool.or_eq_true, decide_eq_true_eq]; omega
   have e : idx (over x) (a :: ls) = 0 := by
    unfold idx
    rw [if_pos (by rw [List.any_cons, ho]; rfl), List.findIdx_cons, ho]; rfl
   rw [if_pos ha, e, if_pos (by omega)]; rfl
  ·have ho : over x a = false := by unfold over; simp only [Bool.or_eq_false_iff, decide_eq_false_iff_not]; omega
   rw [if_neg ha, ih]
   unfold idx
   rw [List.any_cons, ho, Bool.false_or, List.findIdx_cons, ho]
   by_cases hs : ls.any (over x) = true
   ·rw [if_pos hs, if_pos hs, if_pos (by omega), if_pos (by simp only [cond_false]; omega)]
    congr 2
   ·rw [if_neg hs, if_neg hs]; rfl
theorem load_eq (x : Look) (i : Int) {l : List Int} (hn : nodesB x.ns.length l = true) : overR x.cp i (loadsR (toIn x).ns l) l = (loadB x i l).map convW := by
 have hlen : (loadsR (toIn x).ns l).length = l.length := by
  unfold loadsR outR
  rw [if_pos (by rw [show (toIn x).ns.length = x.ns.length from List.length_map _]; exact hn), List.length_map, List.length_range]
 rw [over_eq x i _ _ hlen, show loadsR (toIn x).ns l = loadsOf x l from loads_eq x l]
 rfl
theorem has_mem (l : List Int) (n : Int) : hasB l n = decide (n ∈ l) := by
 unfold hasB
 rw [Bool.eq_iff_iff, List.any_eq_true, decide_eq_true_eq]
 exact ⟨fun ⟨a, h1, h2⟩ => by rw [← beq_iff_eq.1 h2]; exact h1, fun h => ⟨n, h, beq_self_eq_true n⟩⟩
/-- No node is its own mate, where it picks something up. -/
def MateOk (ns : List FeasWalk.Node) : Prop := ∀ i : Nat, i < ns.length → (rdN ns (i : Int)).f2 ≤ 0 ∨ (rdN ns (i : Int)).f6 ≠ (i : Int)
theorem pair_eq {x : Look} (m : MateOk x.ns) (i : Int) {l : List Int} (hl : ∀ s ∈ l, 0 ≤ s ∧ s < (x.ns.length : Int)) {k : Nat} (hk : k < l.length) : pairR (toIn x).ns i l k = (pairB x i l k).map convW := by
 unfold pairR pairB
 rw [rd_at' hk]
 have hs := hl _ (List.getElem_mem hk)
 have hd : l.drop k = l[k] :: l.drop (k + 1) := List.drop_eq_getElem_cons hk
 have e : Ref08.rdN (toIn x).ns l[k] = conv (rdN x.ns l[k]) := rd_conv hs
 rw [e, hd]
 generalize l[k] = s at *
 obtain ⟨j, rfl⟩ : ∃ j : Nat, s = (j : Int) := ⟨s.toNat, by omega⟩
 have hm := m j (by omega)
 show (if (rdN x.ns (j : Int)).f2 ≤ 0 then [] else if hasB (l.drop (k + 1)) (rdN x.ns (j : Int)).f6 = true then [] else if hasB l (rdN x.ns (j : Int)).f6 = true then [⟨8, i, (j : Int)⟩] else [⟨7, i, (j : Int)⟩]) = (if (rdN x.ns (j : Int)).f2 ≤ 0 then [] else if (rdN x.ns (j : Int)).f6 ∈ (j : Int) :: l.drop (k + 1) then [] else if (rdN x.ns (j : Int)).f6 ∈ l then [(⟨8, i, (j : Int)⟩ : W1)] else [⟨7, i, (j : Int)⟩]).map convW
 rw [has_mem, has_mem]
 simp only [decide_eq_true_eq, List.mem_cons]
 by_cases h1 : (rdN x.ns (j : Int)).f2 ≤ 0
 ·rw [if_pos h1, if_pos h1]; rfl
 ·have h2 : (rdN x.ns (j : Int)).f6 ≠ (j : Int) := hm.resolve_left h1
  rw [if_neg h1, if_neg h1]
  by_cases h3 : (rdN x.ns (j : Int)).f6 ∈ l.drop (k + 1)
  ·rw [if_pos h3, if_pos (.inr h3)]; rfl
  ·rw [if_neg h3, if_neg (show ¬ ((rdN x.ns (j : Int)).f6 = (j : Int) ∨ (rdN x.ns (j : Int)).f6 ∈ l.drop (k + 1)) from fun e => e.elim h2 h3)]
   split <;> rfl
theorem prs_eq {x : Look} (m : MateOk x.ns) (i : Int) {l : List Int} (hl : ∀ s ∈ l, 0 ≤ s ∧ s < (x.ns.length : Int)) : prsR (toIn x).ns i l l.length = (pairAll x i l l.length).map convW := by
 unfold prsR pairAll
 rw [List.map_flatMap, List.flatMap_def, List.flatMap_def]
 congr 1
 exact List.map_congr_left fun k hk => pair_eq m i hl (List.mem_range.1 hk)
theorem rt_eq {x : Look} (g : WinOk x.ns) (m : MateOk x.ns) (h0 : 0 < x.ns.length) (hk : 2 ≤ x.kd ∧ x.kd ≤ 4) (i : Int) {l : List Int} (hn : nodesB x.ns.length l = true) : routeR (toIn x) i l = (routeB x i l (looksOf x.kd).length).map convW := by
 have hin := nodes_in hn
 rw [FeasP.route_eq, if_pos hk, List.map_append, ← load_eq x i hn]
 unfold routeR
 rw [late_eq g h0 hin hn i, prs_eq m i hin]
 show overR x.cp i (loadsR (toIn x).ns l) l ++ (if x.kd = 2 then [] else (lateB x i l).map convW ++ if x.kd = 3 then [] else (pairAll x i l l.length).map convW) = _
 congr 1
 by_cases h2 : x.kd = 2
 ·rw [if_pos h2, if_neg (c := 3 ≤ x.kd ∧ x.kd ≤ 4) (by omega), if_neg (c := x.kd = 4) (by omega)]; rfl
 ·rw [if_neg h2, if_pos (c := 3 ≤ x.kd ∧ x.kd ≤ 4) (by omega), List.map_append]
  congr 1
  by_cases h3 : x.kd = 3
  ·rw [if_pos h3, if_neg (c := x.kd = 4) (by omega)]; rfl
  ·rw [if_neg h3, if_pos (c := x.kd = 4) (by omega)]
theorem ls_least (kd : Int) : ((lsR kd : Nat) : Int) = least kd := by unfold lsR least; split <;> rfl
theorem bads_eq (x : Look) (rs : List (List Int)) : badsR x.ns.length (lsR x.kd) rs rs.length = (badAll x rs rs.length).map convW := by
 unfold badsR badAll
 rw [List.map_flatMap]
 have e : oddN x.ns.length (lsR x.kd) = badB x := by
  funext s
  unfold oddN badB oddB
  rw [ls_least, ← Bool.decide_or, ← Bool.decide_or, decide_eq_decide]
  have : 0 ≤ least x.kd := by unfold least; split <;> omega
  omega
 congr 1
 funext i
 unfold badR badTo
 rw [e, List.map_map]; rfl
theorem cov_eq (x : Look) (cs : List Int) (h0 : 0 < x.ns.length) : cvsR cs (lsR x.kd) (x.ns.length - lsR x.kd) = (covAll x cs x.ns.length).map convW := by
 have hl : lsR x.kd ≤ 1 := by unfold lsR; split <;> omega
 have hls := ls_least x.kd
 unfold covAll
 rw [List.map_flatMap]
 have e : List.range x.ns.length = List.range (lsR x.kd) ++ (List.range (x.ns.length - lsR x.kd)).map (lsR x.kd + ·) := by
  rw [← List.range_add]; congr 1; omega
 rw [e, List.flatMap_append]
 have e1 : (List.range (lsR x.kd)).flatMap (fun a => (covB x cs a).map convW) = [] := by
  rw [List.flatMap_eq_nil_iff]
  intro a ha
  have ha := List.mem_range.1 ha
  unfold covB
  rw [if_pos (by omega)]; rfl
 rw [e1, List.nil_append, List.flatMap_map]
 unfold cvsR
 congr 1
 funext j
 show cvR cs ((lsR x.kd + j : Nat) : Int) = (covB x cs (lsR x.kd + j)).map convW
 unfold cvR covB
 rw [if_neg (show ¬ (((lsR x.kd + j : Nat) : Int) < least x.kd) by omega), show rd cs ((lsR x.kd + j : Nat) : Int) = cs.getD (lsR x.kd + j) 0 from by unfold rd; rw [Int.toNat_natCast]]
 generalize cs.getD (lsR x.kd + j) 0 = v
 by_cases h1 : v > 1
 ·rw [if_pos h1, if_neg (by omega), if_pos h1]; rfl
 ·rw [if_neg h1, if_neg h1]
  split <;> rfl
theorem check_eq {x : Look} (g : WinOk x.ns) (m : MateOk x.ns) (h0 : 0 < x.ns.length) (hk : 1 ≤ x.kd ∧ x.kd ≤ 4) (rs : List (List Int)) : checkR (toIn x) rs = (wrongsOf x rs).map convW := by
 have hb := bads_eq x rs
 have hn : (toIn x).ns.length = x.ns.length := List.length_map _
 unfold checkR wrongsOf
 rw [hn, show (toIn x).kd = x.kd from rfl, show (toIn x).fl = x.fl from rfl]
 by_cases hbad : badAll x rs rs.length = []
 ·have hb0 : badsR x.ns.length (lsR x.kd) rs rs.length = [] := by rw [hb, hbad]; rfl
  rw [if_pos hb0, if_pos hbad]
  unfold restR
  rw [cov_eq x _ h0, List.map_append, List.map_append, List.append_assoc]
  congr 1
  have hf : ((PlanA.full rs).length : Int) = ((filled rs).length : Int) := rfl
  by_cases h1 : x.kd = 1
  ·rw [if_pos h1]
   have e : routesB x rs rs.length = [] := by
    unfold routesB
    rw [List.flatMap_eq_nil_iff]
    intro i _
    rw [FeasP.route_eq, if_neg (by omega), if_neg (by omega), if_neg (by omega)]; rfl
   rw [e, List.map_nil, List.append_nil]
   unfold fl1 fleetB
   show (if (PlanA.full rs).length = 1 then [] else _) = _
   by_cases h2 : (PlanA.full rs).length = 1
   ·rw [if_pos h2, if_neg (by omega)]; rfl
   ·rw [if_neg h2, if_pos (by omega)]; rfl
  ·rw [if_neg h1]
   congr 1
   ·unfold fl2 fleetB
    by_cases h2 : x.fl > 0 ∧ ((PlanA.full rs).length : Int) > x.fl
    ·rw [if_pos h2, if_pos (.inr ⟨h1, h2.1, by omega⟩)]; rfl
    ·rw [if_neg h2, if_neg (by omega)]; rfl
   ·unfold rtsR routesB
    rw [List.map_flatMap, List.flatMap_def, List.flatMap_def]
    congr 1
    exact List.map_congr_left fun i hi => rt_eq g m h0 (by omega) (i : Int) (bads_nil hb0 (List.mem_range.1 hi))
 ·have hb0 : badsR x.ns.length (lsR x.kd) rs rs.length ≠ [] := by rw [hb]; simpa using hbad
  rw [if_neg hb0, if_neg hbad, hb]
end Go.Proofs.Ytlncbckpcmojpaa.Pure
