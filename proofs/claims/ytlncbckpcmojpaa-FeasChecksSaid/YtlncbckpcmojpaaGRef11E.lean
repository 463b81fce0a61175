/- The reference of layer 11: is a number in a row; what is wrong with one route. Their walks. -/
import Derived.Test.YtlncbckpcmojpaaMkm
set_option linter.unusedSimpArgs false
set_option linter.unusedVariables false
namespace Go.Proofs.Ytlncbckpcmojpaa
open Go.RowKit Go.Proofs.YtlncbckpcmojpaaW.PrintWords Go.Proofs.YtlncbckpcmojpaaW.PrintLast Go.Proofs.YtlncbckpcmojpaaW.PrintMore P
namespace Ref11
open Ref08 (In rdN ret_b old_cell)
def hasB (l : List Int) (n : Int) : Bool := l.any fun a => a == n
set_option maxHeartbeats 4000000 in
set_option maxRecDepth 100000 in
theorem has_c (R : Option Addr) (cap : Nat) (l : List Int) (n : Int) (W : World) (hl : Kd.C (Kd.int .i64) W R l.length l) (hll : l.length ≤ 1000000) :
  Calls Try.prog 57 #[.slice R l.length cap, .int .i64 n] W fun e w' => e = .returned (.bool (hasB l n)) ∧ Below W.heap.size W w' := by
 have HL := Lib.hid hl
 have HS := Lib.hid (show hasB l n = l.any (fun a => a == n) from rfl)
 generalize hasB l n = Q at *
 have HI0 : Aside0 ((∀ j (h : j < l.length), j < 0 → (l[j] == n) = false) ∧ Below W.heap.size W W) := ⟨fun j h hj => by omega, Below.refl _ _⟩
 clear hl
 go_enter Try.func57, Try.ntmps57
 go_wp2
 go_loopw [5] (fun v5 wr => ∃ k : Nat, v5 = .int .i64 k ∧ k ≤ l.length ∧ Aside0 ((∀ j (h : j < l.length), j < k → (l[j] == n) = false) ∧ Below W.heap.size W wr)) (fun v5 wr => l.length - (intOf v5).toNat)
 case atStart => exact ⟨0, rfl, Nat.zero_le _, HI0⟩
 case round =>
  obtain ⟨k, rfl, hk, HK⟩ := hrel
  clear HI0
  by_cases hlt : k < l.length
  ·have bt : decide ((k : Int) < (l.length : Int)) = true := decide_eq_true (by omega)
   obtain ⟨al, e1, cl⟩ := Kd.at_int (Kd.C_below HL.out HK.out.2) (k : Int) (by omega) (by omega)
   cases e1
   rw [Int.toNat_natCast] at cl
   have p2 : (0 : Int) ≤ (k : Int) ∧ (k : Int) < (l.length : Int) := by omega
   have HR := Lib.hid (rd_at hlt)
   generalize rd l (k : Int) = s at *
   cases hb : s == n with
   | true =>
    have HN := Lib.hid (And.intro (show Q = true from by rw [HS.out, List.any_eq_true]; exact ⟨l[k], List.getElem_mem _, by rw [← HR.out]; exact hb⟩) HK.out.2)
    clear HK
    go_wp2
    go_ret
    exact ⟨ret_b HN.out.1.symm, HN.out.2⟩
   | false =>
    have HJ := Lib.hid (show ((∀ j (h : j < l.length), j < k + 1 → (l[j] == n) = false) ∧ Below W.heap.size W wr) from ⟨fun j h hj => by
     by_cases e : j = k
     ·subst e; rw [← HR.out]; exact hb
     ·exact HK.out.1 j h (by omega), HK.out.2⟩)
    clear HK
    go_wp2
    go_roundw
    case rel => exact ⟨k + 1, by go_num, by omega, ⟨HJ.out⟩⟩
    case measure => simp [intOf]; omega
  ·have bt : decide ((k : Int) < (l.length : Int)) = false := decide_eq_false (by omega)
   obtain rfl : k = l.length := by omega
   have HN := Lib.hid (And.intro (show Q = false from by
    rw [HS.out, List.any_eq_false]
    intro s hs
    obtain ⟨j, hj, rfl⟩ := List.getElem_of_mem hs
    rw [HK.out.1 j hj hj]; exact Bool.false_ne_true) HK.out.2)
   clear HK
   go_wp2
   go_ret
   exact ⟨ret_b HN.out.1.symm, HN.out.2⟩
/- ROUTE -/
abbrev Wr := S68
/-- The first load that is too great, or below nothing. -/
def overR (cp i : Int) : List Int → List Int → List Wr
 | a :: ls, s :: l => if a > cp ∨ a < 0 then [⟨5, i, s⟩] else overR cp i ls l
 | _, _ => []
def late1 (i : Int) (l : List Int) (t : Int) : List Wr := if 0 ≤ t ∧ t < (l.length : Int) then [⟨6, i, rd l t⟩] else []
def late2 (i : Int) (l : List Int) (t : Int) : List Wr := if t = (l.length : Int) then [⟨6, i, 0⟩] else []
def pairR (ns : List Ref08.Node) (i : Int) (l : List Int) (k : Nat) : List Wr :=
 if (rdN ns (rd l (k : Int))).f2 ≤ 0 then [] else if hasB (l.drop (k + 1)) (rdN ns (rd l (k : Int))).f6 = true then [] else if hasB l (rdN ns (rd l (k : Int))).f6 = true then [⟨8, i, rd l (k : Int)⟩] else [⟨7, i, rd l (k : Int)⟩]
theorem pairR_le (ns : List Ref08.Node) (i : Int) (l : List Int) (k : Nat) : (pairR ns i l k).length ≤ 1 := by
 unfold pairR
 repeat' split
 all_goals simp
def prsR (ns : List Ref08.Node) (i : Int) (l : List Int) (k : Nat) : List Wr := (List.range k).flatMap (pairR ns i l)
theorem prsR_succ (ns : List Ref08.Node) (i : Int) (l : List Int) (k : Nat) : prsR ns i l (k + 1) = prsR ns i l k ++ pairR ns i l k := by unfold prsR; rw [List.range_succ, List.flatMap_append, List.flatMap_singleton]
theorem prsR_le (ns : List Ref08.Node) (i : Int) (l : List Int) : ∀ k, (prsR ns i l k).length ≤ k
 | 0 => by simp [prsR]
 | k + 1 => by
  rw [prsR_succ, List.length_append]
  have h1 := prsR_le ns i l k
  have h2 := pairR_le ns i l k
  omega
def routeR (x : In) (i : Int) (l : List Int) : List Wr :=
 overR x.cp i (loadsR x.ns l) l ++ (if x.kd = 2 then [] else (late1 i l (timesR x l).2 ++ late2 i l (timesR x l).2) ++ (if x.kd = 3 then [] else prsR x.ns i l l.length))
/-- Two rows of other kinds lie in other blocks. -/
theorem other_rows {W : World} {b1 b2 : Nat} {v1 v2 : Value} {xs : List Wr} {ys : List Int} (h1 : Kd.R k68 68 W b1 (fun _ => True) v1 xs) (h2 : Kd.R (Kd.int .i64) 3 W b2 (fun _ => True) v2 ys) (k : Nat) (e1 : v1.ownBlock = some k) : some k ≠ v2.ownBlock := by
 intro e2
 obtain ⟨-, -, -, q1, m1, c1, a1⟩ := (Kd.R_bound h1).1 k e1
 obtain ⟨-, -, -, q2, m2, c2, a2⟩ := (Kd.R_bound h2).1 k e2.symm
 rw [a1] at a2
 have m1' : q1 = 68 := List.mem_singleton.1 m1
 have m2' : q2 = 3 := List.mem_singleton.1 m2
 simp [m1', m2'] at a2
/-- The state: the instance's block, the notes so far, the loads. -/
def SR2 (x : In) (w : World) (v7 : Value) (ns : List Wr) (v8 : Value) (ls : List Int) (W : World) : Prop :=
 W.heap[w.heap.size]? = some (Ref08.XB x) ∧ Kd.R k68 68 W w.heap.size (fun _ => True) v7 ns ∧ Kd.R (Kd.int .i64) 3 W w.heap.size (fun _ => True) v8 ls ∧ Below w.heap.size w W
theorem SR2.below {x : In} {w : World} {v7 v8 : Value} {ns : List Wr} {ls : List Int} {W W' : World} (h : SR2 x w v7 ns v8 ls W) (hb : Below W.heap.size W W') : SR2 x w v7 ns v8 ls W' := ⟨blk_below h.1 hb, Kd.R_below h.2.1 hb, Kd.R_below h.2.2.1 hb, below_step h.2.2.2 hb⟩
theorem SR2.app {x : In} {w : World} {v7 v7' v8 : Value} {ns ns' : List Wr} {ls : List Int} {W W' : World} (h : SR2 x w v7 ns v8 ls W) (ho : Kd.R k68 68 W' w.heap.size (fun _ => True) v7' ns') (hb : Below w.heap.size w W') (hg : W.grownBy W' v7.ownBlock) : SR2 x w v7' ns' v8 ls W' :=
 ⟨blk_grown h.1 hg (Kd.R_ne h.2.1 h.1 (by decide)), ho, Kd.R_grown2 h.2.2.1 rfl hg (other_rows h.2.1 h.2.2.1), hb⟩
theorem SR2.cells {x : In} {w : World} {v7 v8 : Value} {ns : List Wr} {ls : List Int} {W : World} (h : SR2 x w v7 ns v8 ls W) : W.cell? ⟨w.heap.size, 0, none⟩ = some (.string x.nm) ∧ W.cell? ⟨w.heap.size, 1, none⟩ = some (.int .i64 x.kd) ∧ W.cell? ⟨w.heap.size, 2, none⟩ = some (.int .i64 x.mt) ∧ W.cell? ⟨w.heap.size, 3, none⟩ = some (.int .i64 x.sc) ∧
  W.cell? ⟨w.heap.size, 4, none⟩ = some (.int .i64 x.cp) ∧ W.cell? ⟨w.heap.size, 5, none⟩ = some (.int .i64 x.fl) ∧ W.cell? ⟨w.heap.size, 6, none⟩ = some (.slice x.A x.ns.length x.c) ∧ W.cell? ⟨w.heap.size, 7, none⟩ = some (.slice x.B x.mx.length x.e) := by
 obtain ⟨k0, k1, k2, k3, k4, k5, k6, k7, -⟩ := blk8_ h.1
 exact ⟨k0, k1, k2, k3, k4, k5, k6, k7⟩
theorem overR_step (cp i : Int) {ls l : List Int} {k : Nat} (h1 : k < ls.length) (h2 : k < l.length) : overR cp i (ls.drop k) (l.drop k) = if ls[k] > cp ∨ ls[k] < 0 then [⟨5, i, l[k]⟩] else overR cp i (ls.drop (k + 1)) (l.drop (k + 1)) := by
 rw [List.drop_eq_getElem_cons h1, List.drop_eq_getElem_cons h2]; rfl
theorem overR_end (cp i : Int) (ls l : List Int) : overR cp i (ls.drop ls.length) l = [] := by rw [List.drop_length]; cases l <;> rfl
theorem overR_le (cp i : Int) : ∀ ls l : List Int, (overR cp i ls l).length ≤ 1
 | [], l => by cases l <;> simp [overR]
 | a :: ls, [] => by simp [overR]
 | a :: ls, s :: l => by
  unfold overR
  split
  ·simp
  ·exact overR_le cp i ls l
theorem late1_le (i : Int) (l : List Int) (t : Int) : (late1 i l t).length ≤ 1 := by unfold late1; split <;> simp
theorem late2_le (i : Int) (l : List Int) (t : Int) : (late2 i l t).length ≤ 1 := by unfold late2; split <;> simp
theorem pairR_eq (ns : List Ref08.Node) (i : Int) {l : List Int} {k : Nat} (hk : k < l.length) : pairR ns i l k = if (decide ((rdN ns l[k]).f2 ≤ 0) || hasB (l.drop (k + 1)) (rdN ns l[k]).f6) = true then [] else if hasB l (rdN ns l[k]).f6 = true then [⟨8, i, l[k]⟩] else [⟨7, i, l[k]⟩] := by
 unfold pairR
 rw [rd_at hk]
 by_cases h1 : (rdN ns l[k]).f2 ≤ 0
 ·rw [if_pos h1, if_pos (by rw [decide_eq_true h1]; rfl)]
 ·rw [if_neg h1, decide_eq_false h1, Bool.false_or]
theorem cut_after (ad : Addr) (l : List Int) (cap k : Nat) (hk : k ≤ l.length) (hcap : l.length ≤ cap) :
  ∃ A5 : Option Addr, ∃ c5 : Nat, (∀ W : World, (Instr.slice 23 (.slice (some ad) l.length cap) (some (.int .i64 (k : Int))) none none).run Try.prog W = .ok (.slice A5 (l.drop k).length c5) W) ∧
   ∀ w', Kd.C (Kd.int .i64) w' (some ad) l.length l → Kd.C (Kd.int .i64) w' A5 (l.drop k).length (l.drop k) := by
 obtain ⟨i0, hi0, hz0, hz1, hz2⟩ := info_parts P.info3
 refine ⟨if cap = k then some ad else (some ad).map (·.add (k * 1)), cap - k, fun W => ?_, fun w' h => Kd.C_drop h (by omega) hcap⟩
 have h := cut_from 23 3 .i64 Try.underlying23 hi0 1 hz1 (some ad) l.length cap (k : Int) (by omega) (by omega) W
 rw [Int.toNat_natCast] at h
 rw [List.length_drop]
 exact h
-- ROUTE_C
set_option maxHeartbeats 16000000 in
set_option maxRecDepth 100000 in
theorem route_c (x : In) (i : Int) (R : Option Addr) (cap : Nat) (l : List Int) (W : World) (h : x.rows W) (hn : x.ns.length ≤ 65536) (hn0 : 0 < x.ns.length) (hl : Kd.C (Kd.int .i64) W R l.length l) (hcap : l.length ≤ cap) (hll : l.length ≤ 1000000) (hnod : nodesB x.ns.length l = true)
  (hleg : ∀ i j, i < x.ns.length → j < x.ns.length → ∃ r2, legR x i j = some (legV x i j, r2)) :
  Calls Try.prog 40 #[x.val, .int .i64 i, .slice R l.length cap] W fun e w' => ∃ v', e = .returned v' ∧ Kd.R k68 68 w' W.heap.size (fun _ => True) v' (routeR x i l) ∧ Below W.heap.size W w' := by
 have HR := Lib.hid h
 have HL := Lib.hid hl
 have HLo := Lib.hid (fun W' (hb : Below W.heap.size W W') => loads_c x R cap l W' (Ref08.In.rows_below h hb) (Kd.C_below hl hb) hll)
 have HTi := Lib.hid (fun W' (hb : Below W.heap.size W W') => times_c x R cap l W' (Ref08.In.rows_below h hb) hn hn0 (Kd.C_below hl hb) hll hleg)
 have HHa := Lib.hid (fun (n : Int) W' (hb : Below W.heap.size W W') => has_c R cap l n W' (Kd.C_below hl hb) hll)
 have HIn := Lib.hid (nodes_in hnod)
 have HD := Lib.hid (show routeR x i l = overR x.cp i (loadsR x.ns l) l ++ (if x.kd = 2 then [] else (late1 i l (timesR x l).2 ++ late2 i l (timesR x l).2) ++ (if x.kd = 3 then [] else prsR x.ns i l l.length)) from rfl)
 have HLs := Lib.hid (show (loadsR x.ns l).length = l.length from by unfold loadsR outR; rw [if_pos hnod, List.length_map, List.length_range])
 generalize routeR x i l = res at *
 generalize loadsR x.ns l = ls at *
 generalize timesR x l = tm at *
 clear hleg hnod
 obtain ⟨nm, kd, mt, sc, cp, fl, A, c, ns, B, e0, mxs⟩ := x
 unfold In.val at *
 simp only at HLo HTi HD HIn hn hn0 ⊢
 have bK := heap_alloc_new W (.cells #[.string nm, .int .i64 kd, .int .i64 mt, .int .i64 sc, .int .i64 cp, .int .i64 fl, .slice A ns.length c, .slice B mxs.length e0] 46)
 have hW0 : Below W.heap.size W (W.alloc (.cells #[.string nm, .int .i64 kd, .int .i64 mt, .int .i64 sc, .int .i64 cp, .int .i64 fl, .slice A ns.length c, .slice B mxs.length e0] 46)) := (Below.refl _ W).alloc (Nat.le_refl _) _
 generalize hW1 : W.alloc (.cells #[.string nm, .int .i64 kd, .int .i64 mt, .int .i64 sc, .int .i64 cp, .int .i64 fl, .slice A ns.length c, .slice B mxs.length e0] 46) = W1 at *
 have HW := Lib.hid hW1
 have HX := Lib.hid (show W1.heap[W.heap.size]? = some (Ref08.XB ⟨nm, kd, mt, sc, cp, fl, A, c, ns, B, e0, mxs⟩) ∧ Below W.heap.size W W1 from ⟨bK, hW0⟩)
 clear hW1 hW0 bK h hl
 go_enter Try.func40, Try.ntmps40
 go_upto_region 1 with (fail)
 rw [HW.out]
 go_upto_region 2 with (first | ((with_reducible refine gate_dst (N := 14) rfl ?_); refine Kd.R_lit k68 W.heap.size 68 ?hg (N := 14) ?hd (xs := ([] : List Wr)) (inner := []) (ok := fun _ => True) (okp := fun _ => True) ?hr ?hp (fun _ hk => hk) trivial HX.out.2 HX.out.2.size (by simp) ?_; (case hd => rfl); (case hg => rfl); (case hr => first | (go_simp; done) | (go_simp; rfl)); (case hp => exact (Reps.none _ _)); intro u7 w0 ho hb hg hnew; have H0 := Lib.hid (And.intro (blk_grown HX.out.1 hg (by simp)) (And.intro ho hb)); clear hg hnew ho hb))
 obtain ⟨k0, k1, k2, k3, k4, k5, k6, k7, -⟩ := blk8_ H0.out.1
 simp only at k0 k1 k2 k3 k4 k5 k6 k7
 go_wp2_with fail
 refine (HLo.out _ H0.out.2.2).mono ?_
 rintro e w2 ⟨v8, rfl, ho8, hb8⟩
 have H1 := Aside0.mk (show SR2 ⟨nm, kd, mt, sc, cp, fl, A, c, ns, B, e0, mxs⟩ W u7 [] v8 ls w2 from ⟨blk_below H0.out.1 hb8, Kd.R_below H0.out.2.1 hb8, Kd.R_lower ho8 H0.out.2.2.size, below_step H0.out.2.2 hb8⟩)
 clear k0 k1 k2 k3 k4 k5 k6 k7 ho8 hb8 H0 HLo
 obtain ⟨A8, c8, rfl⟩ := Kd.R_slice H1.out.2.2.1
 have HI0 : Aside0 (overR cp i ls l = overR cp i (ls.drop 0) (l.drop 0) ∧ SR2 ⟨nm, kd, mt, sc, cp, fl, A, c, ns, B, e0, mxs⟩ W u7 [] (.slice A8 ls.length c8) ls w2) := ⟨rfl, H1.out⟩
 clear H1
 go_upto_block 0 with (fail)
 go_cut [7] (fun v7 wc => Aside0 (SR2 ⟨nm, kd, mt, sc, cp, fl, A, c, ns, B, e0, mxs⟩ W v7 (overR cp i ls l) (.slice A8 ls.length c8) ls wc))
 case first => as_aux_lemma =>
  go_wp2_with fail
  go_loopw [7, 9] (fun v7 v9 wr => ∃ k : Nat, v7 = u7 ∧ v9 = .int .i64 k ∧ k ≤ ls.length ∧ Aside0 (overR cp i ls l = overR cp i (ls.drop k) (l.drop k) ∧ SR2 ⟨nm, kd, mt, sc, cp, fl, A, c, ns, B, e0, mxs⟩ W u7 [] (.slice A8 ls.length c8) ls wr)) (fun v7 v9 wr => ls.length - (intOf v9).toNat)
  case atStart => exact ⟨0, rfl, rfl, Nat.zero_le _, HI0⟩
  case round =>
   obtain ⟨k, rfl, rfl, hk, HK⟩ := hrel
   clear HI0
   by_cases hlt : k < ls.length
   ·have bt : decide ((k : Int) < (ls.length : Int)) = true := decide_eq_true (by omega)
    have hlt2 : k < l.length := by rw [← HLs.out]; exact hlt
    obtain ⟨a8, e8, c8'⟩ := Kd.at_int (Kd.R_reads' HK.out.2.2.2.1).2.2 (k : Int) (by omega) (by omega)
    cases e8
    obtain ⟨al, e1, clW⟩ := Kd.at_int HL.out (k : Int) (by omega) (by omega)
    cases e1
    rw [Int.toNat_natCast] at c8' clW
    rw [rd_at hlt] at c8'
    rw [rd_at hlt2] at clW
    have HClW := Lib.hid clW
    clear clW
    have HO := Lib.hid (HK.out.1.trans (overR_step cp i hlt hlt2))
    generalize ls[k] = a at *
    generalize l[k] = s at *
    have p1 : (0 : Int) ≤ (k : Int) ∧ (k : Int) < (ls.length : Int) := by omega
    have p2 : (0 : Int) ≤ (k : Int) ∧ (k : Int) < (l.length : Int) := by omega
    obtain ⟨-, -, -, -, k4, -, -, -⟩ := HK.out.2.cells
    simp only at k4
    have HK2 := Aside0.mk (HK.out.2.below (below_drew1 (Below.refl _ _)))
    clear HK
    obtain ⟨q, hq⟩ : ∃ q, decide (a > cp ∨ a < 0) = q := ⟨_, rfl⟩
    have HQ := Lib.hid hq
    clear hq
    go_upto_region 6 with (fail)
    go_cut [37] (fun v37 wc => v37 = .bool q ∧ Aside0 (SR2 ⟨nm, kd, mt, sc, cp, fl, A, c, ns, B, e0, mxs⟩ W u7 [] (.slice (some a8) ls.length c8) ls wc))
    case first => as_aux_lemma =>
     by_cases h1 : a > cp
     ·have b1 : decide (a > cp) = true := decide_eq_true h1
      have HV := Lib.hid (show q = true from HQ.out.symm.trans <| decide_eq_true (Or.inl h1))
      clear h1
      go_wp2
      go_region
      go_wp2
      go_meet
      exact ⟨by rw [HV.out], HK2⟩
     ·have b1 : decide (a > cp) = false := decide_eq_false h1
      by_cases h2 : a < 0
      ·have b2 : decide (a < 0) = true := decide_eq_true h2
       have HV := Lib.hid (show q = true from HQ.out.symm.trans <| decide_eq_true (Or.inr h2))
       clear h1 h2
       go_wp2
       go_region
       go_wp2
       go_meet
       exact ⟨by rw [HV.out], HK2⟩
      ·have b2 : decide (a < 0) = false := decide_eq_false h2
       have HV := Lib.hid (show q = false from HQ.out.symm.trans <| decide_eq_false fun e => e.elim h1 h2)
       clear h1 h2
       go_wp2
       go_region
       go_wp2
       go_meet
       exact ⟨by rw [HV.out], HK2⟩
    rename_i wc
    obtain ⟨rfl, H4⟩ := hcut
    clear HK2 k4 c8'
    cases q with
    | true =>
     have HE := Lib.hid (HO.out.trans (if_pos (of_decide_eq_true HQ.out)))
     have cl := old_cell H4.out.2.2.2 HClW.out
     clear HO HQ
     go_wp2_with (first | ((with_reducible refine gate_builtin (b := .append) (xs := #[.tmp 38, .tmp 45]) rfl ?_); at_builtin; refine Kd.R_append k68 (w0 := W) W.heap.size rfl (.tmp 38) (.tmp 45) 40 68 (.agg #[.int .i64 0, .int .i64 0, .int .i64 0]) 24 rfl Try.underlying40 info68 rfl (by decide) (by omega) u7 [] (⟨5, i, s⟩ : Wr) [.int .i64 5, .int .i64 i, .int .i64 s] (fun _ => True) (fun _ => False) rfl rfl (k68_mkM _ _ _ (⟨5, i, s⟩ : Wr)) (fun _ hk => hk.elim) (fun _ _ => trivial) H4.out.2.1 H4.out.2.2.2 H4.out.2.2.2.size ?aL ?_; (case aL => simp only [List.length_nil]; omega); intro va wa ho hb hg hat; have HJ := Aside0.mk (SR2.app (H4.out) ho hb hg); clear ho hb hg hat))
     go_meet
     exact ⟨by rw [HE.out]; exact HJ.out⟩
    | false =>
     have HE := Lib.hid (HO.out.trans (if_neg (of_decide_eq_false HQ.out)))
     clear HO HQ
     go_wp2
     go_roundw
     case rel => exact ⟨k + 1, rfl, by go_num, by omega, ⟨HE.out, H4.out⟩⟩
     case measure => simp [intOf]; omega
   ·have bt : decide ((k : Int) < (ls.length : Int)) = false := decide_eq_false (by omega)
    obtain rfl : k = ls.length := by omega
    have HE := Lib.hid (HK.out.1.trans (overR_end cp i ls _))
    have H4 := Lib.hid HK.out.2
    clear HK
    go_wp2
    go_meet
    exact ⟨by rw [HE.out]; exact H4.out⟩
 rename_i wc
 obtain ⟨P1, hP1⟩ : ∃ P, overR cp i ls l = P := ⟨_, rfl⟩
 have hl1 : P1.length ≤ 1 := by rw [← hP1]; exact overR_le cp i ls l
 obtain ⟨t, ht⟩ : ∃ t, tm.2 = t := ⟨_, rfl⟩
 rw [hP1] at hcut
 have HD := Lib.hid (show res = P1 ++ (if kd = 2 then [] else (late1 i l t ++ late2 i l t) ++ (if kd = 3 then [] else prsR ns i l l.length)) from by rw [← hP1, ← ht]; exact HD.out)
 have HTi := Lib.hid (show ∀ W', Below W.heap.size W W' → Calls Try.prog 44 #[.agg #[.string nm, .int .i64 kd, .int .i64 mt, .int .i64 sc, .int .i64 cp, .int .i64 fl, .slice A ns.length c, .slice B mxs.length e0], .slice R l.length cap] W' fun e w' => ∃ v', e = .returned (.tuple #[v', .int .i64 t]) ∧ Below W'.heap.size W' w' from fun W' hb => (HTi.out W' hb).mono (by rintro e w' ⟨v', h1, -, h3⟩; exact ⟨v', by rw [← ht]; exact h1, h3⟩))
 have H1 := hcut
 clear hcut hP1 ht HI0 HLs
 go_upto_region 8 with (fail)
 obtain ⟨-, k1, -, -, -, -, -, -⟩ := H1.out.cells
 simp only at k1
 by_cases hk2 : kd = 2
 ·have b1 : (kd == 2) = true := beq_iff_eq.2 hk2
  have HE := Lib.hid (show res = P1 from HD.out.trans (by rw [if_pos hk2, List.append_nil]))
  clear hk2 HD
  go_wp2
  go_ret
  exact ⟨_, rfl, by rw [HE.out]; exact H1.out.2.1, H1.out.2.2.2⟩
 have b1 : (kd == 2) = false := beq_eq_false_iff_ne.2 hk2
 have HD := Lib.hid (show res = P1 ++ ((late1 i l t ++ late2 i l t) ++ (if kd = 3 then [] else prsR ns i l l.length)) from HD.out.trans (by rw [if_neg hk2]))
 clear hk2
 go_upto_region 10 with (fail)
 clear k1 b1
 obtain ⟨k0, k1, k2, k3, k4, k5, k6, k7⟩ := H1.out.cells
 simp only at k0 k1 k2 k3 k4 k5 k6 k7
 go_wp2_with fail
 refine (HTi.out _ H1.out.2.2.2).mono ?_
 rintro e w3 ⟨v10, rfl, hb⟩
 have H2 := Aside0.mk (H1.out.below hb)
 clear hb k0 k1 k2 k3 k4 k5 k6 k7 H1 HTi
 go_upto_region 11 with (fail)
 obtain ⟨q, hq⟩ : ∃ q, decide (0 ≤ t ∧ t < (l.length : Int)) = q := ⟨_, rfl⟩
 have HQ := Lib.hid hq
 clear hq
 go_cut [64] (fun v64 wc => v64 = .bool q ∧ Aside0 (SR2 ⟨nm, kd, mt, sc, cp, fl, A, c, ns, B, e0, mxs⟩ W u7 P1 (.slice A8 ls.length c8) ls wc))
 case first => as_aux_lemma =>
  by_cases h1 : t ≥ 0
  ·have b1 : decide (t ≥ 0) = true := decide_eq_true h1
   by_cases h2 : t < (l.length : Int)
   ·have b2 : decide (t < (l.length : Int)) = true := decide_eq_true h2
    have HV := Lib.hid (show q = true from HQ.out.symm.trans <| decide_eq_true ⟨h1, h2⟩)
    clear h1 h2
    go_wp2
    go_meet
    exact ⟨by rw [HV.out], H2⟩
   ·have b2 : decide (t < (l.length : Int)) = false := decide_eq_false h2
    have HV := Lib.hid (show q = false from HQ.out.symm.trans <| decide_eq_false fun e => h2 e.2)
    clear h1 h2
    go_wp2
    go_meet
    exact ⟨by rw [HV.out], H2⟩
  ·have b1 : decide (t ≥ 0) = false := decide_eq_false h1
   have HV := Lib.hid (show q = false from HQ.out.symm.trans <| decide_eq_false fun e => h1 e.1)
   clear h1
   go_wp2
   go_meet
   exact ⟨by rw [HV.out], H2⟩
 rename_i wc
 obtain ⟨rfl, H4⟩ := hcut
 clear H2
 go_upto_if 64 with (fail)
 go_cut [7] (fun v7 wc => Aside0 (SR2 ⟨nm, kd, mt, sc, cp, fl, A, c, ns, B, e0, mxs⟩ W v7 (P1 ++ late1 i l t) (.slice A8 ls.length c8) ls wc))
 case first => as_aux_lemma =>
  cases q with
  | true =>
   have hc := of_decide_eq_true HQ.out
   have HE := Lib.hid (show late1 i l t = [⟨6, i, rd l t⟩] from if_pos hc)
   obtain ⟨al, e1, clW⟩ := Kd.at_int HL.out t hc.1 hc.2
   cases e1
   obtain ⟨tn, rfl⟩ : ∃ tn : Nat, t = (tn : Int) := ⟨t.toNat, by omega⟩
   rw [Int.toNat_natCast] at clW
   have cl := old_cell H4.out.2.2.2 clW
   have p1 : (0 : Int) ≤ (tn : Int) ∧ (tn : Int) < (l.length : Int) := hc
   clear clW HQ hc
   generalize rd l (tn : Int) = s at *
   go_wp2_with (first | ((with_reducible refine gate_builtin (b := .append) (xs := #[.tmp 65, .tmp 72]) rfl ?_); at_builtin; refine Kd.R_append k68 (w0 := W) W.heap.size rfl (.tmp 65) (.tmp 72) 40 68 (.agg #[.int .i64 0, .int .i64 0, .int .i64 0]) 24 rfl Try.underlying40 info68 rfl (by decide) (by omega) u7 P1 (⟨6, i, s⟩ : Wr) [.int .i64 6, .int .i64 i, .int .i64 s] (fun _ => True) (fun _ => False) rfl rfl (k68_mkM _ _ _ (⟨6, i, s⟩ : Wr)) (fun _ hk => hk.elim) (fun _ _ => trivial) H4.out.2.1 H4.out.2.2.2 H4.out.2.2.2.size ?aL ?_; (case aL => omega); intro va wa ho hb hg hat; have HJ := Aside0.mk (SR2.app (H4.out) ho hb hg); clear ho hb hg hat))
   go_meet
   exact ⟨by rw [HE.out]; exact HJ.out⟩
  | false =>
   have HE := Lib.hid (show late1 i l t = [] from if_neg (of_decide_eq_false HQ.out))
   clear HQ
   go_wp2
   go_meet
   exact ⟨by rw [HE.out, List.append_nil]; exact H4.out⟩
 rename_i wc
 obtain ⟨P2, hP2⟩ : ∃ P, P1 ++ late1 i l t = P := ⟨_, rfl⟩
 have hl2 : P2.length ≤ 2 := by rw [← hP2, List.length_append]; have := late1_le i l t; omega
 rw [hP2] at hcut
 have HD := Lib.hid (show res = P2 ++ late2 i l t ++ (if kd = 3 then [] else prsR ns i l l.length) from by rw [← hP2, HD.out]; simp only [List.append_assoc])
 have H3 := hcut
 clear hcut hP2 H4 HQ hl1
 go_upto_if 77 with (fail)
 go_cut [7] (fun v7 wc => Aside0 (SR2 ⟨nm, kd, mt, sc, cp, fl, A, c, ns, B, e0, mxs⟩ W v7 (P2 ++ late2 i l t) (.slice A8 ls.length c8) ls wc))
 case first => as_aux_lemma =>
  by_cases h1 : t = (l.length : Int)
  ·have b1 : (t == (l.length : Int)) = true := beq_iff_eq.2 h1
   have HE := Lib.hid (show late2 i l t = [⟨6, i, 0⟩] from if_pos h1)
   clear h1
   go_wp2_with (first | ((with_reducible refine gate_builtin (b := .append) (xs := #[.tmp 78, .tmp 81]) rfl ?_); at_builtin; refine Kd.R_append k68 (w0 := W) W.heap.size rfl (.tmp 78) (.tmp 81) 40 68 (.agg #[.int .i64 0, .int .i64 0, .int .i64 0]) 24 rfl Try.underlying40 info68 rfl (by decide) (by omega) u7 P2 (⟨6, i, 0⟩ : Wr) [.int .i64 6, .int .i64 i, .int .i64 0] (fun _ => True) (fun _ => False) rfl rfl (k68_mkM _ _ _ (⟨6, i, 0⟩ : Wr)) (fun _ hk => hk.elim) (fun _ _ => trivial) H3.out.2.1 H3.out.2.2.2 H3.out.2.2.2.size ?aL ?_; (case aL => omega); intro va wa ho hb hg hat; have HJ := Aside0.mk (SR2.app (H3.out) ho hb hg); clear ho hb hg hat))
   go_meet
   exact ⟨by rw [HE.out]; exact HJ.out⟩
  ·have b1 : (t == (l.length : Int)) = false := beq_eq_false_iff_ne.2 h1
   have HE := Lib.hid (show late2 i l t = [] from if_neg h1)
   clear h1
   go_wp2
   go_meet
   exact ⟨by rw [HE.out, List.append_nil]; exact H3.out⟩
 rename_i wc
 obtain ⟨P3, hP3⟩ : ∃ P, P2 ++ late2 i l t = P := ⟨_, rfl⟩
 have hl3 : P3.length ≤ 3 := by rw [← hP3, List.length_append]; have := late2_le i l t; omega
 rw [hP3] at hcut
 have HD := Lib.hid (show res = P3 ++ (if kd = 3 then [] else prsR ns i l l.length) from by rw [← hP3]; exact HD.out)
 clear H3
 have H1 := hcut
 clear hcut hP3 hl2
 go_upto_region 15 with (fail)
 obtain ⟨-, k1, -, -, -, -, -, -⟩ := H1.out.cells
 simp only at k1
 by_cases hk2 : kd = 3
 ·have b1 : (kd == 3) = true := beq_iff_eq.2 hk2
  have HE := Lib.hid (show res = P3 from HD.out.trans (by rw [if_pos hk2, List.append_nil]))
  clear hk2 HD
  go_wp2
  go_ret
  exact ⟨_, rfl, by rw [HE.out]; exact H1.out.2.1, H1.out.2.2.2⟩
 have b1 : (kd == 3) = false := beq_eq_false_iff_ne.2 hk2
 have HD := Lib.hid (show res = P3 ++ prsR ns i l l.length from HD.out.trans (by rw [if_neg hk2]))
 clear hk2
 have HI0 : Aside0 (SR2 ⟨nm, kd, mt, sc, cp, fl, A, c, ns, B, e0, mxs⟩ W u7 (P3 ++ prsR ns i l 0) (.slice A8 ls.length c8) ls wc) := ⟨by simpa [prsR] using H1.out⟩
 go_upto_region 17 with (fail)
 clear k1 b1 H1
 go_wp2
 go_loopw [7, 12] (fun v7 v12 wr => ∃ k : Nat, v12 = .int .i64 k ∧ k ≤ l.length ∧ Aside0 (SR2 ⟨nm, kd, mt, sc, cp, fl, A, c, ns, B, e0, mxs⟩ W v7 (P3 ++ prsR ns i l k) (.slice A8 ls.length c8) ls wr)) (fun v7 v12 wr => l.length - (intOf v12).toNat)
 case atStart => exact ⟨0, rfl, Nat.zero_le _, HI0⟩
 case round =>
  obtain ⟨k, rfl, hk, HK⟩ := hrel
  clear HI0
  by_cases hlt : k < l.length
  ·have bt : decide ((k : Int) < (l.length : Int)) = true := decide_eq_true (by omega)
   obtain ⟨al, e1, clW⟩ := Kd.at_int HL.out (k : Int) (by omega) (by omega)
   cases e1
   rw [Int.toNat_natCast] at clW
   have p1 : (0 : Int) ≤ (k : Int) ∧ (k : Int) < (l.length : Int) := by omega
   have hin := HIn.out l[k] (List.getElem_mem _)
   rw [rd_at hlt] at clW
   have HE := Lib.hid (prsR_succ ns i l k)
   have hlen : (P3 ++ prsR ns i l k).length ≤ 1000003 := by
    rw [List.length_append]
    have := prsR_le ns i l k
    omega
   have hB := pairR_eq ns i hlt
   generalize pairR ns i l k = pk at *
   have HE := Lib.hid (show P3 ++ prsR ns i l (k + 1) = P3 ++ prsR ns i l k ++ pk from by rw [HE.out, List.append_assoc])
   generalize P3 ++ prsR ns i l k = Pk at *
   obtain ⟨s, hs⟩ : ∃ s : Nat, l[k] = (s : Int) := ⟨l[k].toNat, by omega⟩
   rw [hs] at clW hin hB
   have cl := old_cell HK.out.2.2.2 clW
   have HClW := Lib.hid clW
   clear clW hs
   unfold rdN at hB
   obtain ⟨ad2, e2, d0, d1, d2, d3, d4, d5, d6⟩ := at_T77 (Kd.C_below HR.out.a HK.out.2.2.2) (s : Int) (by omega) (by simp only; omega)
   simp only at e2
   cases e2
   rw [Int.toNat_natCast] at d0 d1 d2 d3 d4 d5 d6
   have p2 : (0 : Int) ≤ (s : Int) ∧ (s : Int) < (ns.length : Int) := by omega
   simp only at d0 d1 d2 d3 d4 d5 d6
   generalize rd_T77 ns (s : Int) = d at *
   obtain ⟨-, -, -, -, -, -, k6, -⟩ := HK.out.cells
   simp only at k6
   obtain ⟨k1, hk1⟩ : ∃ k1 : Nat, k + 1 = k1 := ⟨_, rfl⟩
   rw [hk1] at hB
   have HB := Lib.hid hB
   clear hB
   obtain ⟨w5, hw5⟩ : ∃ w5, (wr.alloc (.cells #[.int .i64 0, .int .i64 0, .int .i64 0, .int .i64 0, .int .i64 0, .int .i64 0, .int .i64 0] 77)).drew = w5 := ⟨_, rfl⟩
   have hb5 : Below wr.heap.size wr w5 := hw5 ▸ below_drew1 ((Below.refl _ wr).alloc (Nat.le_refl _) _)
   have k6' := old_cell hb5 k6
   have cl' := old_cell hb5 cl
   have d0' := old_cell hb5 d0
   have d1' := old_cell hb5 d1
   have d2' := old_cell hb5 d2
   have d3' := old_cell hb5 d3
   have d4' := old_cell hb5 d4
   have d5' := old_cell hb5 d5
   have d6' := old_cell hb5 d6
   rw [← hw5] at k6' cl' d0' d1' d2' d3' d4' d5' d6'
   clear hb5 hw5
   go_upto_region 20 with (fail)
   go_wp2
   go_region
   go_upto_region 21 with (fail)
   obtain ⟨w7, hw7⟩ : ∃ w7, (wr.alloc (.cells #[.int .i64 d.f0, .int .i64 d.f1, .int .i64 d.f2, .int .i64 d.f3, .int .i64 d.f4, .int .i64 d.f5, .int .i64 d.f6] 77)).drew = w7 := ⟨_, rfl⟩
   have hb7 : Below wr.heap.size wr w7 := hw7 ▸ below_drew1 ((Below.refl _ wr).alloc (Nat.le_refl _) _)
   have bD7 : w7.heap[wr.heap.size]? = _ := hw7 ▸ blk_drew (heap_alloc_new wr (.cells #[.int .i64 d.f0, .int .i64 d.f1, .int .i64 d.f2, .int .i64 d.f3, .int .i64 d.f4, .int .i64 d.f5, .int .i64 d.f6] 77))
   rw [hw7]
   clear hw7 d0 d1 d2 d3 d4 d5 d6 d0' d1' d2' d3' d4' d5' d6' k6 k6' cl cl'
   have HK7 := Lib.hid (HK.out.below hb7)
   clear HK hb7
   generalize wr.heap.size = Bd at *
   obtain ⟨x0, x1, q2, x3, x4, x5, q6, y0, y1, y2, y3, y4, y5, y6⟩ := blk7_ bD7
   clear x0 x1 x3 x4 x5 y0 y1 y2 y3 y4 y5 y6 bD7
   generalize d.f2 = df2 at *
   generalize d.f6 = df6 at *
   have HS := Lib.hid (show ∀ w', Below w7.heap.size w7 w' → (w'.cell? ⟨Bd, 2, none⟩ = some (.int .i64 df2) ∧ w'.cell? ⟨Bd, 6, none⟩ = some (.int .i64 df6) ∧ Below w7.heap.size w7 w') from fun w' hb => ⟨old_cell hb q2, old_cell hb q6, hb⟩)
   clear q2 q6
   obtain ⟨q, hq⟩ : ∃ q, (decide (df2 ≤ 0) || hasB (l.drop k1) df6) = q := ⟨_, rfl⟩
   have HB := Lib.hid (show pk = if q = true then [] else if hasB l df6 = true then [⟨8, i, (s : Int)⟩] else [⟨7, i, (s : Int)⟩] from by rw [← hq]; exact HB.out)
   have HQ := Lib.hid hq
   clear hq
   go_cut [112] (fun v112 wc => v112 = .bool q ∧ Aside0 (SR2 ⟨nm, kd, mt, sc, cp, fl, some ad2, c, ns, B, e0, mxs⟩ W u7 Pk (.slice A8 ls.length c8) ls wc ∧ wc.cell? ⟨Bd, 6, none⟩ = some (.int .i64 df6)))
   case first => as_aux_lemma =>
    by_cases hd : df2 ≤ 0
    ·have bd : decide (df2 ≤ 0) = true := decide_eq_true hd
     have HV := Lib.hid (show q = true from HQ.out.symm.trans (by rw [bd]; rfl))
     clear hd HQ
     go_wp2_with fail
     -- REGION
     refine start_ (n := 12) (S := fun w' => w'.cell? ⟨Bd, 2, none⟩ = some (.int .i64 df2) ∧ w'.cell? ⟨Bd, 6, none⟩ = some (.int .i64 df6) ∧ Below w7.heap.size w7 w') (ds := []) #[false, false, false, false, false, false, false, false, false, false, false, false] (by kernel_rfl) rfl rfl (HS.out _ (below_drew1 (Below.refl _ _))) (fun hHeld => ?_)
     refine pure_ (i := 0) (N := some 101) (v := ?_) (a' := ?_) #[true, false, false, false, false, false, false, false, false, false, false, false] rfl rfl (by kernel_rfl) (fun _ _ _ h => h) (Or.inl ⟨by rfl, ?_⟩) ?_ ?_
     rotate_left
     ·intro w'
      go_simp
      with_reducible rfl
     rotate_left
     ·simp only [Act.put, z1_, z2_, z3_, i64_w, i32_w]
      rfl
     refine take_ (i := 1) (N := some 102) (v := ?_) (a' := ?_) #[true, true, false, false, false, false, false, false, false, false, false, false] rfl rfl (by kernel_rfl) (fun _ _ _ h => h) (Or.inl ⟨by rfl, ?_⟩) hHeld ?_ ?_
     rotate_left
     ·rintro w' ⟨s0, s1, s2⟩
      go_simp
      with_reducible rfl
     rotate_left
     ·simp only [Act.put, z1_, z2_, z3_, i64_w, i32_w]
      rfl
     refine pure_ (i := 2) (N := some 103) (v := ?_) (a' := ?_) #[true, true, true, false, false, false, false, false, false, false, false, false] rfl rfl (by kernel_rfl) (fun _ _ _ h => h) (Or.inl ⟨by rfl, ?_⟩) ?_ ?_
     rotate_left
     ·intro w'
      go_simp
      with_reducible rfl
     rotate_left
     ·simp only [Act.put, z1_, z2_, z3_, i64_w, i32_w]
      rfl
     refine pure_ (i := 3) (N := some 104) (v := ?_) (a' := ?_) #[true, true, true, true, false, false, false, false, false, false, false, false] rfl rfl (by kernel_rfl) (fun _ _ _ h => h) (Or.inl ⟨by rfl, ?_⟩) ?_ ?_
     rotate_left
     ·intro w'
      go_simp
      with_reducible rfl
     rotate_left
     ·simp only [Act.put, z1_, z2_, z3_, i64_w, i32_w]
      rfl
     refine pure_ (i := 4) (N := some 105) (v := undef) (a' := ?_) #[true, true, true, true, true, false, false, false, false, false, false, false] rfl rfl (by kernel_rfl) (fun _ _ _ h => h) (Or.inr ⟨by rfl, rfl⟩) ?_ ?_
     rotate_left
     ·simp only [Act.put, z1_, z2_, z3_, i64_w, i32_w]
      rfl
     refine pure_ (i := 5) (N := some 106) (v := undef) (a' := ?_) #[true, true, true, true, true, true, false, false, false, false, false, false] rfl rfl (by kernel_rfl) (fun _ _ _ h => h) (Or.inr ⟨by rfl, rfl⟩) ?_ ?_
     rotate_left
     ·simp only [Act.put, z1_, z2_, z3_, i64_w, i32_w]
      rfl
     refine pure_ (i := 6) (N := some 107) (v := undef) (a' := ?_) #[true, true, true, true, true, true, true, false, false, false, false, false] rfl rfl (by kernel_rfl) (fun _ _ _ h => h) (Or.inr ⟨by rfl, rfl⟩) ?_ ?_
     rotate_left
     ·simp only [Act.put, z1_, z2_, z3_, i64_w, i32_w]
      rfl
     refine pure_ (i := 7) (N := some 108) (v := undef) (a' := ?_) #[true, true, true, true, true, true, true, true, false, false, false, false] rfl rfl (by kernel_rfl) (fun _ _ _ h => h) (Or.inr ⟨by rfl, rfl⟩) ?_ ?_
     rotate_left
     ·simp only [Act.put, z1_, z2_, z3_, i64_w, i32_w]
      rfl
     refine pure_ (i := 8) (N := some 109) (v := undef) (a' := ?_) #[true, true, true, true, true, true, true, true, true, false, false, false] rfl rfl (by kernel_rfl) (fun _ _ _ h => h) (Or.inr ⟨by rfl, rfl⟩) ?_ ?_
     rotate_left
     ·simp only [Act.put, z1_, z2_, z3_, i64_w, i32_w]
      rfl
     refine pure_ (i := 9) (N := some 110) (v := undef) (a' := ?_) #[true, true, true, true, true, true, true, true, true, true, false, false] rfl rfl (by kernel_rfl) (fun _ _ _ h => h) (Or.inr ⟨by rfl, rfl⟩) ?_ ?_
     rotate_left
     ·simp only [Act.put, z1_, z2_, z3_, i64_w, i32_w]
      rfl
     refine pure_ (i := 10) (N := some 111) (v := undef) (a' := ?_) #[true, true, true, true, true, true, true, true, true, true, true, false] rfl rfl (by kernel_rfl) (fun _ _ _ h => h) (Or.inr ⟨by rfl, rfl⟩) ?_ ?_
     rotate_left
     ·simp only [Act.put, z1_, z2_, z3_, i64_w, i32_w]
      rfl
     refine pure_ (i := 11) (N := some 112) (v := ?_) (a' := ?_) #[true, true, true, true, true, true, true, true, true, true, true, true] rfl rfl (by kernel_rfl) (fun _ _ _ h => h) (Or.inl ⟨by rfl, ?_⟩) ?_ ?_
     rotate_left
     ·intro w'
      go_simp
      with_reducible rfl
     rotate_left
     ·simp only [Act.put, z1_, z2_, z3_, i64_w, i32_w]
      rfl
     refine done_ (by kernel_rfl) ?_
     -- BEHIND
     have HX := Aside0.mk (And.intro (HK7.out.below hHeld.2.2) hHeld.2.1)
     clear hHeld HS HK7
     go_wp2
     go_meet
     exact ⟨by rw [HV.out], HX⟩
    ·have bd : decide (df2 ≤ 0) = false := decide_eq_false hd
     obtain ⟨A5, c5, hcutr, hC5⟩ := cut_after al l cap k1 (by omega) hcap
     have hwz : wrap64 ((k : Int) + 1) = (k1 : Int) := by unfold wrap64; omega
     have hwzw := w_i _ _ hwz
     have HC5 := Lib.hid (show ∀ w', Below w7.heap.size w7 w' → _ from fun w' hb => has_c A5 c5 (l.drop k1) df6 w' (hC5 _ (Kd.C_below HL.out (HK7.out.below hb).2.2.2)) (by rw [List.length_drop]; omega))
     have HV := Lib.hid (show q = hasB (l.drop k1) df6 from HQ.out.symm.trans (by rw [bd]; rfl))
     clear hd HQ hC5 hwz
     generalize l.drop k1 = ld at *
     generalize hasB ld df6 = b at *
     go_wp2_with fail
     -- REGION
     refine start_ (n := 12) (S := fun w' => w'.cell? ⟨Bd, 2, none⟩ = some (.int .i64 df2) ∧ w'.cell? ⟨Bd, 6, none⟩ = some (.int .i64 df6) ∧ Below w7.heap.size w7 w') (ds := []) #[false, false, false, false, false, false, false, false, false, false, false, false] (by kernel_rfl) rfl rfl (HS.out _ (below_drew1 (Below.refl _ _))) (fun hHeld => ?_)
     refine pure_ (i := 0) (N := some 101) (v := ?_) (a' := ?_) #[true, false, false, false, false, false, false, false, false, false, false, false] rfl rfl (by kernel_rfl) (fun _ _ _ h => h) (Or.inl ⟨by rfl, ?_⟩) ?_ ?_
     rotate_left
     ·intro w'
      go_simp
      with_reducible rfl
     rotate_left
     ·simp only [Act.put, z1_, z2_, z3_, i64_w, i32_w]
      rfl
     refine take_ (i := 1) (N := some 102) (v := ?_) (a' := ?_) #[true, true, false, false, false, false, false, false, false, false, false, false] rfl rfl (by kernel_rfl) (fun _ _ _ h => h) (Or.inl ⟨by rfl, ?_⟩) hHeld ?_ ?_
     rotate_left
     ·rintro w' ⟨s0, s1, s2⟩
      go_simp
      with_reducible rfl
     rotate_left
     ·simp only [Act.put, z1_, z2_, z3_, i64_w, i32_w]
      rfl
     refine pure_ (i := 2) (N := some 103) (v := ?_) (a' := ?_) #[true, true, true, false, false, false, false, false, false, false, false, false] rfl rfl (by kernel_rfl) (fun _ _ _ h => h) (Or.inl ⟨by rfl, ?_⟩) ?_ ?_
     rotate_left
     ·intro w'
      go_simp
      with_reducible rfl
     rotate_left
     ·simp only [Act.put, z1_, z2_, z3_, i64_w, i32_w]
      rfl
     refine pure_ (i := 3) (N := some 104) (v := ?_) (a' := ?_) #[true, true, true, true, false, false, false, false, false, false, false, false] rfl rfl (by kernel_rfl) (fun _ _ _ h => h) (Or.inl ⟨by rfl, ?_⟩) ?_ ?_
     rotate_left
     ·intro w'
      go_simp
      with_reducible rfl
     rotate_left
     ·simp only [Act.put, z1_, z2_, z3_, i64_w, i32_w]
      rfl
     refine pure_ (i := 4) (N := some 105) (v := ?_) (a' := ?_) #[true, true, true, true, true, false, false, false, false, false, false, false] rfl rfl (by kernel_rfl) (fun _ _ _ h => h) (Or.inl ⟨by rfl, ?_⟩) ?_ ?_
     rotate_left
     ·intro w'
      go_simp
      with_reducible rfl
     rotate_left
     ·simp only [Act.put, z1_, z2_, z3_, i64_w, i32_w]
      rfl
     refine pure_ (i := 5) (N := some 106) (v := ?_) (a' := ?_) #[true, true, true, true, true, true, false, false, false, false, false, false] rfl rfl (by kernel_rfl) (fun _ _ _ h => h) (Or.inl ⟨by rfl, ?_⟩) ?_ ?_
     rotate_left
     ·intro w'
      go_simp
      with_reducible rfl
     rotate_left
     ·simp only [Act.put, z1_, z2_, z3_, i64_w, i32_w]
      rfl
     refine pure_ (i := 6) (N := some 107) (v := ?_) (a' := ?_) #[true, true, true, true, true, true, true, false, false, false, false, false] rfl rfl (by kernel_rfl) (fun _ _ _ h => h) (Or.inl ⟨by rfl, ?_⟩) ?_ ?_
     rotate_left
     ·intro w'
      go_simp
      with_reducible rfl
     rotate_left
     ·simp only [Act.put, z1_, z2_, z3_, i64_w, i32_w]
      rfl
     refine pure_ (i := 7) (N := some 108) (v := ?_) (a' := ?_) #[true, true, true, true, true, true, true, true, false, false, false, false] rfl rfl (by kernel_rfl) (fun _ _ _ h => h) (Or.inl ⟨by rfl, ?_⟩) ?_ ?_
     rotate_left
     ·intro w'
      go_simp
      with_reducible rfl
     rotate_left
     ·simp only [Act.put, z1_, z2_, z3_, i64_w, i32_w]
      rfl
     refine pure_ (i := 8) (N := some 109) (v := ?_) (a' := ?_) #[true, true, true, true, true, true, true, true, true, false, false, false] rfl rfl (by kernel_rfl) (fun _ _ _ h => h) (Or.inl ⟨by rfl, ?_⟩) ?_ ?_
     rotate_left
     ·intro w'
      go_simp
      with_reducible rfl
     rotate_left
     ·simp only [Act.put, z1_, z2_, z3_, i64_w, i32_w]
      rfl
     refine take_ (i := 9) (N := some 110) (v := ?_) (a' := ?_) #[true, true, true, true, true, true, true, true, true, true, false, false] rfl rfl (by kernel_rfl) (fun _ _ _ h => h) (Or.inl ⟨by rfl, ?_⟩) hHeld ?_ ?_
     rotate_left
     ·rintro w' ⟨s0, s1, s2⟩
      go_simp
      with_reducible rfl
     rotate_left
     ·simp only [Act.put, z1_, z2_, z3_, i64_w, i32_w]
      rfl
     refine one_ (i := 10) (N := some 111) #[true, true, true, true, true, true, true, true, true, true, true, false] rfl rfl (by kernel_rfl) (by decide) (fun K hK => ?_)
     have hbl := hHeld.2.2
     refine goes_ Try.func57 (by kernel_rfl) rfl #[.slice A5 ld.length c5, .int .i64 df6] (by rfl) rfl rfl (by simp only [List.map_toArray, List.map_cons, List.map_nil]; rfl) ?_
     with_reducible refine (HC5.out _ hbl).mono ?_
     rintro e w8 ⟨rfl, hb⟩
     refine ⟨_, rfl, ?_⟩
     have hb8 := hbl.trans (hb.mono hbl.size)
     clear hb hbl
     refine hK.out _ _ (HS.out _ hb8) (fun hHeld => ?_)
     clear hK K
     refine norm_ (a' := ?_) ?_ ?_
     rotate_left
     ·show Act.put _ (some 111) _ = _
      simp only [Act.put, z1_, z2_, z3_, i64_w, i32_w]
      rfl
     refine pure_ (i := 11) (N := some 112) (v := ?_) (a' := ?_) #[true, true, true, true, true, true, true, true, true, true, true, true] rfl rfl (by kernel_rfl) (fun _ _ _ h => h) (Or.inl ⟨by rfl, ?_⟩) ?_ ?_
     rotate_left
     ·intro w'
      go_simp
      with_reducible rfl
     rotate_left
     ·simp only [Act.put, z1_, z2_, z3_, i64_w, i32_w]
      rfl
     refine done_ (by kernel_rfl) ?_
     -- BEHIND
     have HX := Aside0.mk (And.intro (HK7.out.below hHeld.2.2) hHeld.2.1)
     clear hHeld HS HK7 HC5 hcutr
     go_wp2
     go_meet
     exact ⟨by rw [HV.out], HX⟩
   rename_i wc
   obtain ⟨rfl, H6⟩ := hcut
   clear HK7 HS HQ
   cases q with
   | true =>
    have HB := Lib.hid (HB.out.trans (if_pos rfl))
    go_wp2
    go_roundw
    case rel => exact ⟨k + 1, by go_num, by omega, ⟨by rw [HE.out, HB.out, List.append_nil]; exact H6.out.1⟩⟩
    case measure => simp [intOf]; omega
   | false =>
    have HB := Lib.hid (HB.out.trans (if_neg Bool.false_ne_true))
    go_upto_region 22 with (fail)
    have m6 := H6.out.2
    go_wp2_with fail
    refine (HHa.out df6 _ H6.out.1.2.2.2).mono ?_
    rintro e w9 ⟨rfl, hb⟩
    have H7 := Aside0.mk (And.intro (H6.out.1.below hb) trivial)
    clear hb m6 H6
    have H6 := H7
    clear H7
    have cl := old_cell H6.out.1.2.2.2 HClW.out
    cases hh : hasB l df6 with
    | true =>
     have HB := Lib.hid (HB.out.trans (if_pos hh))
     clear hh
     go_wp2_with (first | ((with_reducible refine gate_builtin (b := .append) (xs := #[.tmp 117, .tmp 124]) rfl ?_); at_builtin; refine Kd.R_append k68 (w0 := W) W.heap.size rfl (.tmp 117) (.tmp 124) 40 68 (.agg #[.int .i64 0, .int .i64 0, .int .i64 0]) 24 rfl Try.underlying40 info68 rfl (by decide) (by omega) u7 Pk (⟨8, i, s⟩ : Wr) [.int .i64 8, .int .i64 i, .int .i64 s] (fun _ => True) (fun _ => False) rfl rfl (k68_mkM _ _ _ (⟨8, i, s⟩ : Wr)) (fun _ hk => hk.elim) (fun _ _ => trivial) H6.out.1.2.1 H6.out.1.2.2.2 H6.out.1.2.2.2.size ?aL ?_; (case aL => omega); intro va wa ho hb hg hat; have HJ := Aside0.mk (SR2.app (H6.out.1) ho hb hg); clear ho hb hg hat))
     go_roundw
     case rel => exact ⟨k + 1, by go_num, by omega, ⟨by rw [HE.out, HB.out]; exact HJ.out⟩⟩
     case measure => simp [intOf]; omega
    | false =>
     have HB := Lib.hid (HB.out.trans (if_neg (by rw [hh]; exact Bool.false_ne_true)))
     clear hh
     go_wp2_with (first | ((with_reducible refine gate_builtin (b := .append) (xs := #[.tmp 126, .tmp 133]) rfl ?_); at_builtin; refine Kd.R_append k68 (w0 := W) W.heap.size rfl (.tmp 126) (.tmp 133) 40 68 (.agg #[.int .i64 0, .int .i64 0, .int .i64 0]) 24 rfl Try.underlying40 info68 rfl (by decide) (by omega) u7 Pk (⟨7, i, s⟩ : Wr) [.int .i64 7, .int .i64 i, .int .i64 s] (fun _ => True) (fun _ => False) rfl rfl (k68_mkM _ _ _ (⟨7, i, s⟩ : Wr)) (fun _ hk => hk.elim) (fun _ _ => trivial) H6.out.1.2.1 H6.out.1.2.2.2 H6.out.1.2.2.2.size ?aL ?_; (case aL => omega); intro va wa ho hb hg hat; have HJ := Aside0.mk (SR2.app (H6.out.1) ho hb hg); clear ho hb hg hat))
     go_roundw
     case rel => exact ⟨k + 1, by go_num, by omega, ⟨by rw [HE.out, HB.out]; exact HJ.out⟩⟩
     case measure => simp [intOf]; omega
  ·have bt : decide ((k : Int) < (l.length : Int)) = false := decide_eq_false (by omega)
   obtain rfl : k = l.length := by omega
   have H6 := Lib.hid HK.out
   clear HK
   go_wp2
   go_ret
   exact ⟨_, rfl, by rw [HD.out]; exact H6.out.2.1, H6.out.2.2.2⟩
end Ref11
end Go.Proofs.Ytlncbckpcmojpaa
