/- The reference of layer 11: what is wrong with a plan. Its walk. -/
import Derived.Test.YtlncbckpcmojpaaGRef11E
import Derived.Test.YtlncbckpcmojpaaGRef09
set_option linter.unusedSimpArgs false
set_option linter.unusedVariables false
namespace Go.Proofs.Ytlncbckpcmojpaa
open Go.RowKit Go.Proofs.YtlncbckpcmojpaaW.PrintWords Go.Proofs.YtlncbckpcmojpaaW.PrintLast Go.Proofs.YtlncbckpcmojpaaW.PrintMore P
namespace Ref11
open Ref08 (In rdN ret_b old_cell)
open StopsWalk PlanA
/-- A stop that there is not. -/
def oddN (n ls : Nat) (s : Int) : Bool := decide (s < (ls : Int) ∨ s ≥ (n : Int))
def badR (n ls : Nat) (i : Int) (l : List Int) : List Wr := (l.filter (oddN n ls)).map fun s => ⟨1, i, s⟩
theorem badR_take (n ls : Nat) (i : Int) (l : List Int) {k : Nat} (hk : k < l.length) : badR n ls i (l.take (k + 1)) = badR n ls i (l.take k) ++ (if oddN n ls l[k] = true then [⟨1, i, l[k]⟩] else []) := by
 unfold badR
 rw [List.take_succ_eq_append_getElem hk, List.filter_append, List.map_append]
 cases h : oddN n ls l[k] <;> simp [List.filter_cons, h]
theorem badR_le (n ls : Nat) (i : Int) (l : List Int) : (badR n ls i l).length ≤ l.length := by unfold badR; rw [List.length_map]; exact List.length_filter_le _ _
def badsR (n ls : Nat) (rs : List (List Int)) (k : Nat) : List Wr := (List.range k).flatMap fun i : Nat => badR n ls (i : Int) (rd_L1 rs (i : Int))
theorem badsR_succ (n ls : Nat) (rs : List (List Int)) (k : Nat) : badsR n ls rs (k + 1) = badsR n ls rs k ++ badR n ls (k : Int) (rd_L1 rs (k : Int)) := by unfold badsR; rw [List.range_succ, List.flatMap_append, List.flatMap_singleton]
theorem badsR_le (n ls : Nat) {rs : List (List Int)} (hz : ∀ i : Nat, i < rs.length → (rd_L1 rs (i : Int)).length ≤ 2100) : ∀ k, k ≤ rs.length → (badsR n ls rs k).length ≤ 2100 * k
 | 0, _ => by simp [badsR]
 | k + 1, hk => by
  rw [badsR_succ, List.length_append]
  have h1 := badsR_le n ls hz k (by omega)
  have h2 := badR_le n ls (k : Int) (rd_L1 rs (k : Int))
  have h3 := hz k (by omega)
  omega
def cvR (cnt : List Int) (c : Int) : List Wr := (if rd cnt c > 1 then [⟨2, 0, c⟩] else []) ++ (if rd cnt c = 0 then [⟨3, 0, c⟩] else [])
def cvsR (cnt : List Int) (ls m : Nat) : List Wr := (List.range m).flatMap fun j : Nat => cvR cnt ((ls + j : Nat) : Int)
theorem cvsR_next (cnt : List Int) {ls c : Nat} (h : ls ≤ c) : cvsR cnt ls (c + 1 - ls) = cvsR cnt ls (c - ls) ++ cvR cnt (c : Int) := by
 unfold cvsR
 rw [show c + 1 - ls = (c - ls) + 1 by omega, List.range_succ, List.flatMap_append, List.flatMap_singleton, show ls + (c - ls) = c by omega]
theorem cvsR_le (cnt : List Int) (ls : Nat) : ∀ m, (cvsR cnt ls m).length ≤ 2 * m
 | 0 => by simp [cvsR]
 | m + 1 => by
  have e : cvsR cnt ls (m + 1) = cvsR cnt ls m ++ cvR cnt ((ls + m : Nat) : Int) := by unfold cvsR; rw [List.range_succ, List.flatMap_append, List.flatMap_singleton]
  rw [e, List.length_append]
  have h1 := cvsR_le cnt ls m
  have h2 : (cvR cnt ((ls + m : Nat) : Int)).length ≤ 2 := by unfold cvR; rw [List.length_append]; split <;> split <;> simp
  omega
def fl1 (f : Nat) : List Wr := if f = 1 then [] else [⟨4, 0, (f : Int)⟩]
def fl2 (fl : Int) (f : Nat) : List Wr := if fl > 0 ∧ (f : Int) > fl then [⟨4, 0, (f : Int)⟩] else []
theorem fl2_le (fl : Int) (f : Nat) : (fl2 fl f).length ≤ 1 := by unfold fl2; split <;> simp
def rtsR (rt : Int → List Int → List Wr) (rs : List (List Int)) (k : Nat) : List Wr := (List.range k).flatMap fun i : Nat => rt (i : Int) (rd_L1 rs (i : Int))
theorem rtsR_succ (rt : Int → List Int → List Wr) (rs : List (List Int)) (k : Nat) : rtsR rt rs (k + 1) = rtsR rt rs k ++ rt (k : Int) (rd_L1 rs (k : Int)) := by unfold rtsR; rw [List.range_succ, List.flatMap_append, List.flatMap_singleton]
theorem rtsR_le {rt : Int → List Int → List Wr} (hr : ∀ i l, (rt i l).length ≤ l.length + 3) {rs : List (List Int)} (hz : ∀ i : Nat, i < rs.length → (rd_L1 rs (i : Int)).length ≤ 2100) : ∀ k, k ≤ rs.length → (rtsR rt rs k).length ≤ 2103 * k
 | 0, _ => by simp [rtsR]
 | k + 1, hk => by
  rw [rtsR_succ, List.length_append]
  have h1 := rtsR_le hr hz k (by omega)
  have h2 := hr (k : Int) (rd_L1 rs (k : Int))
  have h3 := hz k (by omega)
  omega
theorem routeR_le (x : In) (i : Int) (l : List Int) : (routeR x i l).length ≤ l.length + 3 := by
 unfold routeR
 have h1 := overR_le x.cp i (loadsR x.ns l) l
 have h2 := late1_le i l (timesR x l).2
 have h3 := late2_le i l (timesR x l).2
 have h4 := prsR_le x.ns i l l.length
 rw [List.length_append]
 split
 ·simp only [List.length_nil]; omega
 ·rw [List.length_append, List.length_append]
  split
  ·simp only [List.length_nil]; omega
  ·omega
def lsR (kd : Int) : Nat := if kd = 1 then 0 else 1
def restR (kd fl : Int) (n : Nat) (rt : Int → List Int → List Wr) (cnt : List Int) (f : Nat) (rs : List (List Int)) : List Wr :=
 cvsR cnt (lsR kd) (n - lsR kd) ++ (if kd = 1 then fl1 f else fl2 fl f ++ rtsR rt rs rs.length)
def checkR (x : In) (rs : List (List Int)) : List Wr :=
 if badsR x.ns.length (lsR x.kd) rs rs.length = [] then restR x.kd x.fl x.ns.length (routeR x) (counts x.ns.length (stopsOf rs)) (full rs).length rs else badsR x.ns.length (lsR x.kd) rs rs.length
/-- Where no stop is strange, each route has nodes alone. -/
theorem bads_nil {n ls : Nat} {rs : List (List Int)} (h : badsR n ls rs rs.length = []) {i : Nat} (hi : i < rs.length) : nodesB n (rd_L1 rs (i : Int)) = true := by
 have h1 := List.flatMap_eq_nil_iff.1 h i (List.mem_range.2 hi)
 unfold badR at h1
 have h2 := List.map_eq_nil_iff.1 h1
 rw [List.filter_eq_nil_iff] at h2
 unfold nodesB
 rw [List.all_eq_true]
 intro s hs
 have h3 := h2 s hs
 unfold oddN at h3
 rw [decide_eq_true_eq] at h3
 unfold stopB
 rw [Bool.and_eq_true, decide_eq_true_eq, decide_eq_true_eq]
 omega
/-- The state: the instance's block, the plan's, the wrongs so far. -/
def SC3 (x : In) (w : World) (A : Option Addr) (n cap : Nat) (v : Value) (ns : List Wr) (W : World) : Prop :=
 W.heap[w.heap.size]? = some (Ref08.XB x) ∧ W.heap[w.heap.size + 1]? = some (.cells #[.slice A n cap] 48 (0, 0)) ∧ Kd.R k68 68 W w.heap.size (fun _ => True) v ns ∧ Below w.heap.size w W
theorem SC3.below {x : In} {w : World} {A : Option Addr} {n cap : Nat} {v : Value} {ns : List Wr} {W W' : World} (h : SC3 x w A n cap v ns W) (hb : Below W.heap.size W W') : SC3 x w A n cap v ns W' := ⟨blk_below h.1 hb, blk_below h.2.1 hb, Kd.R_below h.2.2.1 hb, below_step h.2.2.2 hb⟩
theorem SC3.app {x : In} {w : World} {A : Option Addr} {n cap : Nat} {v v' : Value} {ns ns' : List Wr} {W W' : World} (h : SC3 x w A n cap v ns W) (ho : Kd.R k68 68 W' w.heap.size (fun _ => True) v' ns') (hb : Below w.heap.size w W') (hg : W.grownBy W' v.ownBlock) : SC3 x w A n cap v' ns' W' :=
 ⟨blk_grown h.1 hg (Kd.R_ne h.2.2.1 h.1 (by decide)), blk_grown h.2.1 hg (Kd.R_ne h.2.2.1 h.2.1 (by decide)), ho, hb⟩
theorem SC3.cells {x : In} {w : World} {A : Option Addr} {n cap : Nat} {v : Value} {ns : List Wr} {W : World} (h : SC3 x w A n cap v ns W) : W.cell? ⟨w.heap.size, 0, none⟩ = some (.string x.nm) ∧ W.cell? ⟨w.heap.size, 1, none⟩ = some (.int .i64 x.kd) ∧ W.cell? ⟨w.heap.size, 2, none⟩ = some (.int .i64 x.mt) ∧ W.cell? ⟨w.heap.size, 3, none⟩ = some (.int .i64 x.sc) ∧
  W.cell? ⟨w.heap.size, 4, none⟩ = some (.int .i64 x.cp) ∧ W.cell? ⟨w.heap.size, 5, none⟩ = some (.int .i64 x.fl) ∧ W.cell? ⟨w.heap.size, 6, none⟩ = some (.slice x.A x.ns.length x.c) ∧ W.cell? ⟨w.heap.size, 7, none⟩ = some (.slice x.B x.mx.length x.e) ∧ W.cell? ⟨w.heap.size + 1, 0, none⟩ = some (.slice A n cap) := by
 obtain ⟨k0, k1, k2, k3, k4, k5, k6, k7, -⟩ := blk8_ h.1
 exact ⟨k0, k1, k2, k3, k4, k5, k6, k7, (blk1_ h.2.1).1⟩
/-- Wrongs and counts lie apart. -/
theorem SC3.row {x : In} {w : World} {A : Option Addr} {n cap : Nat} {v v' : Value} {ns : List Wr} {l : List Int} {W W' : World} (h : SC3 x w A n cap v ns W) (hl : Kd.R (Kd.int .i64) 3 W w.heap.size (fun _ => True) v' l) (hg : W.grownBy W' v.ownBlock) : Kd.R (Kd.int .i64) 3 W' w.heap.size (fun _ => True) v' l := Kd.R_grown2 hl rfl hg (other_rows h.2.2.1 hl)
theorem counts_c (A : Option Addr) (cap : Nat) (rs : List (List Int)) (n : Nat) (W : World) (h : Kd.C (Kd.slice 3 (Kd.int .i64)) W A rs.length rs) (hcap : rs.length ≤ cap) (hz : Fits rs) (hn : 0 < n ∧ n ≤ 400) :
  Calls Try.prog 38 #[.agg #[.slice A rs.length cap], .int .i64 (n : Int)] W fun e w' => ∃ v', e = .returned v' ∧ Kd.R (Kd.int .i64) 3 w' W.heap.size (fun _ => True) v' (counts n (stopsOf rs)) ∧ Below W.heap.size W w' := by
 have he := refCount_tells hz (n : Int)
 rw [if_neg (by omega), Int.toNat_natCast] at he
 obtain ⟨k, hk⟩ := Ev.rounds he
 exact entrepotref09_Count.calls k A cap rs (n : Int) _ W h hcap hk
theorem norms_c (A : Option Addr) (cap : Nat) (rs : List (List Int)) (W : World) (h : Kd.C (Kd.slice 3 (Kd.int .i64)) W A rs.length rs) (hcap : rs.length ≤ cap) (hz : Fits rs) :
  Calls Try.prog 39 #[.agg #[.slice A rs.length cap]] W fun e w' => ∃ A' c', e = .returned (.agg #[.slice A' (full rs).length c']) ∧ Below W.heap.size W w' := by
 obtain ⟨k, hk⟩ := Ev.rounds (refNorm_ev hz)
 refine (entrepotref09_Norm.calls k A cap rs _ W h hcap hk).mono ?_
 rintro e w' ⟨v, rfl, ho, hb⟩
 obtain ⟨A', c', rfl⟩ := Kd.S_slice ho
 exact ⟨A', c', rfl, hb⟩
set_option maxHeartbeats 16000000 in
set_option maxRecDepth 100000 in
theorem check_c (x : In) (R : Option Addr) (cap : Nat) (rs : List (List Int)) (W : World) (h : x.rows W) (hn : x.ns.length ≤ 400) (hn0 : 0 < x.ns.length) (hl : Kd.C (Kd.slice 3 (Kd.int .i64)) W R rs.length rs) (hcap : rs.length ≤ cap) (hz : Fits rs)
  (hleg : ∀ i j, i < x.ns.length → j < x.ns.length → ∃ r2, legR x i j = some (legV x i j, r2)) :
  Calls Try.prog 19 #[x.val, .agg #[.slice R rs.length cap]] W fun e w' => ∃ v', e = .returned v' ∧ Kd.R k68 68 w' W.heap.size (fun _ => True) v' (checkR x rs) ∧ Below W.heap.size W w' := by
 have HL := Lib.hid hl
 have HZ := Lib.hid hz
 have HRt := Lib.hid (show ∀ (i : Int) (R2 : Option Addr) (c2 : Nat) (l : List Int) (W' : World), Below W.heap.size W W' → Kd.C (Kd.int .i64) W' R2 l.length l → l.length ≤ c2 → l.length ≤ 2100 → nodesB x.ns.length l = true → _ from fun i R2 c2 l W' hb h1 h2 h3 h4 => route_c x i R2 c2 l W' (Ref08.In.rows_below h hb) (Nat.le_trans hn (by decide)) hn0 h1 h2 (Nat.le_trans h3 (by decide)) h4 hleg)
 have HCn := Lib.hid (fun W' (hb : Below W.heap.size W W') => counts_c R cap rs x.ns.length W' (Kd.C_below hl hb) hcap hz ⟨hn0, hn⟩)
 have HNm := Lib.hid (fun W' (hb : Below W.heap.size W W') => norms_c R cap rs W' (Kd.C_below hl hb) hcap hz)
 have HRl := Lib.hid (routeR_le x)
 have HD := Lib.hid (show checkR x rs = if badsR x.ns.length (lsR x.kd) rs rs.length = [] then restR x.kd x.fl x.ns.length (routeR x) (counts x.ns.length (stopsOf rs)) (full rs).length rs else badsR x.ns.length (lsR x.kd) rs rs.length from rfl)
 have hrl : rs.length ≤ 410 := hz.routes
 have HCl := Lib.hid (show (counts x.ns.length (stopsOf rs)).length = x.ns.length from counts_length _ _)
 generalize checkR x rs = res at *
 generalize routeR x = rt at *
 generalize counts x.ns.length (stopsOf rs) = cnt at *
 generalize (full rs).length = f at *
 clear hleg hz
 obtain ⟨nm, kd, mt, sc, cp, fl, A, c, ns, B, e0, mxs⟩ := x
 unfold In.val at *
 simp only at HRt HCn HNm HD HCl hn hn0 ⊢
 obtain ⟨ls, hls⟩ : ∃ ls, lsR kd = ls := ⟨_, rfl⟩
 have HLs := Lib.hid hls
 have hls1 : ls ≤ 1 := by rw [← hls]; unfold lsR; split <;> omega
 have HD := Lib.hid (show res = if badsR ns.length ls rs rs.length = [] then cvsR cnt ls (ns.length - ls) ++ (if kd = 1 then fl1 f else fl2 fl f ++ rtsR rt rs rs.length) else badsR ns.length ls rs rs.length from by rw [← hls]; exact HD.out)
 clear hls
 have bX := blk_alloc (heap_alloc_new W (.cells #[.string nm, .int .i64 kd, .int .i64 mt, .int .i64 sc, .int .i64 cp, .int .i64 fl, .slice A ns.length c, .slice B mxs.length e0] 46)) (.cells #[.slice R rs.length cap] 48)
 have bP := heap_alloc_new (W.alloc (.cells #[.string nm, .int .i64 kd, .int .i64 mt, .int .i64 sc, .int .i64 cp, .int .i64 fl, .slice A ns.length c, .slice B mxs.length e0] 46)) (.cells #[.slice R rs.length cap] 48)
 have hW0 : Below W.heap.size W ((W.alloc (.cells #[.string nm, .int .i64 kd, .int .i64 mt, .int .i64 sc, .int .i64 cp, .int .i64 fl, .slice A ns.length c, .slice B mxs.length e0] 46)).alloc (.cells #[.slice R rs.length cap] 48)) := ((Below.refl _ W).alloc (Nat.le_refl _) _).alloc (by simp) _
 simp only [World.size_alloc] at bP
 generalize hW1 : (W.alloc (.cells #[.string nm, .int .i64 kd, .int .i64 mt, .int .i64 sc, .int .i64 cp, .int .i64 fl, .slice A ns.length c, .slice B mxs.length e0] 46)).alloc (.cells #[.slice R rs.length cap] 48) = W1 at *
 obtain ⟨Bp, hBp⟩ : ∃ Bp, W.heap.size + 1 = Bp := ⟨_, rfl⟩
 have HW := Lib.hid hW1
 have HBp := Lib.hid hBp
 have HX := Lib.hid (show W1.heap[W.heap.size]? = some (Ref08.XB ⟨nm, kd, mt, sc, cp, fl, A, c, ns, B, e0, mxs⟩) ∧ W1.heap[W.heap.size + 1]? = some (.cells #[.slice R rs.length cap] 48 (0, 0)) ∧ Below W.heap.size W W1 from ⟨bX, bP, hW0⟩)
 clear hW1 hW0 bX bP h hl hBp
 go_enter Try.func19, Try.ntmps19
 go_upto_region 1 with (fail)
 rw [HW.out, HBp.out]
 go_upto_region 2 with (first | ((with_reducible refine gate_dst (N := 14) rfl ?_); refine Kd.R_lit k68 W.heap.size 68 ?hg (N := 14) ?hd (xs := ([] : List Wr)) (inner := []) (ok := fun _ => True) (okp := fun _ => True) ?hr ?hp (fun _ hk => hk) trivial HX.out.2.2 HX.out.2.2.size (by simp) ?_; (case hd => rfl); (case hg => rfl); (case hr => first | (go_simp; done) | (go_simp; rfl)); (case hp => exact (Reps.none _ _)); intro u5 w0 ho hb hg hnew; have H0 := Aside0.mk (show SC3 ⟨nm, kd, mt, sc, cp, fl, A, c, ns, B, e0, mxs⟩ W R rs.length cap u5 [] w0 from ⟨blk_grown HX.out.1 hg (by simp), blk_grown HX.out.2.1 hg (by simp), ho, hb⟩); clear hg hnew ho hb))
 have HCell := Lib.hid (show ∀ w' v ns', SC3 ⟨nm, kd, mt, sc, cp, fl, A, c, ns, B, e0, mxs⟩ W R rs.length cap v ns' w' → w'.cell? ⟨W.heap.size, 0, none⟩ = some (.string nm) ∧ w'.cell? ⟨W.heap.size, 1, none⟩ = some (.int .i64 kd) ∧ w'.cell? ⟨W.heap.size, 2, none⟩ = some (.int .i64 mt) ∧ w'.cell? ⟨W.heap.size, 3, none⟩ = some (.int .i64 sc) ∧ w'.cell? ⟨W.heap.size, 4, none⟩ = some (.int .i64 cp) ∧ w'.cell? ⟨W.heap.size, 5, none⟩ = some (.int .i64 fl) ∧ w'.cell? ⟨W.heap.size, 6, none⟩ = some (.slice A ns.length c) ∧ w'.cell? ⟨W.heap.size, 7, none⟩ = some (.slice B mxs.length e0) ∧ w'.cell? ⟨Bp, 0, none⟩ = some (.slice R rs.length cap) from fun w' v ns' h => by rw [← HBp.out]; exact h.cells)
 clear HX HW
 go_upto_region 3 with (fail)
 obtain ⟨-, k1, -⟩ := HCell.out _ _ _ H0.out
 go_upto_if 17 with (fail)
 go_cut [6] (fun v6 wc => v6 = .int .i64 (ls : Int) ∧ Aside0 (SC3 ⟨nm, kd, mt, sc, cp, fl, A, c, ns, B, e0, mxs⟩ W R rs.length cap u5 [] wc))
 case first => as_aux_lemma =>
  by_cases hk : kd = 1
  ·have b1 : (kd == 1) = true := beq_iff_eq.2 hk
   have HV := Lib.hid (show ls = 0 from HLs.out.symm.trans (if_pos hk))
   clear hk
   go_wp2
   go_meet
   exact ⟨by rw [HV.out]; rfl, H0⟩
  ·have b1 : (kd == 1) = false := beq_eq_false_iff_ne.2 hk
   have HV := Lib.hid (show ls = 1 from HLs.out.symm.trans (if_neg hk))
   clear hk
   go_wp2
   go_meet
   exact ⟨by rw [HV.out]; rfl, H0⟩
 rename_i wc
 obtain ⟨rfl, H1⟩ := hcut
 clear H0 k1
 have HI0 : Aside0 (SC3 ⟨nm, kd, mt, sc, cp, fl, A, c, ns, B, e0, mxs⟩ W R rs.length cap u5 (badsR ns.length ls rs 0) wc) := ⟨H1.out⟩
 clear H1
 have HBl := Lib.hid (fun k hk => badsR_le ns.length ls HZ.out.rows k hk)
 go_upto_block 0 with (fail)
 go_cut [5] (fun v5 wc => Aside0 (SC3 ⟨nm, kd, mt, sc, cp, fl, A, c, ns, B, e0, mxs⟩ W R rs.length cap v5 (badsR ns.length ls rs rs.length) wc))
 case first => as_aux_lemma =>
  go_wp2_with fail
  go_loopw [5, 7] (fun v5 v7 wr => ∃ i : Nat, v7 = .int .i64 i ∧ i ≤ rs.length ∧ Aside0 (SC3 ⟨nm, kd, mt, sc, cp, fl, A, c, ns, B, e0, mxs⟩ W R rs.length cap v5 (badsR ns.length ls rs i) wr)) (fun v5 v7 wr => rs.length - (intOf v7).toNat)
  case atStart => exact ⟨0, rfl, Nat.zero_le _, HI0⟩
  case round =>
   obtain ⟨i, rfl, hi, HK⟩ := hrel
   clear HI0
   obtain ⟨-, -, -, -, -, -, -, -, kp⟩ := HCell.out _ _ _ HK.out
   by_cases hlt : i < rs.length
   ·have bt : decide ((i : Int) < (rs.length : Int)) = true := decide_eq_true (by omega)
    obtain ⟨ad, A', c', e1, hx, hl, hCi⟩ := at_L1 HL.out (i : Int) (by omega) (by omega)
    cases e1
    rw [Int.toNat_natCast] at hx
    have hrow := HZ.out.rows i hlt
    have HE := Lib.hid (badsR_succ ns.length ls rs i)
    have hlen := HBl.out i hi
    generalize rd_L1 rs (i : Int) = l at *
    generalize badsR ns.length ls rs i = P at *
    have p1 : (0 : Int) ≤ (i : Int) ∧ (i : Int) < (rs.length : Int) := by omega
    have HxW := Lib.hid hx
    have HCi := Lib.hid hCi
    clear hx hCi hl
    have HI1 : Aside0 (SC3 ⟨nm, kd, mt, sc, cp, fl, A, c, ns, B, e0, mxs⟩ W (some ad) rs.length cap u5 (P ++ badR ns.length ls i (l.take 0)) wr) := ⟨by rw [List.take_zero]; simpa [badR] using HK.out⟩
    clear HK
    go_wp2
    go_loopw [5, 8] (fun v5 v8 wr => ∃ k : Nat, v8 = .int .i64 k ∧ k ≤ l.length ∧ Aside0 (SC3 ⟨nm, kd, mt, sc, cp, fl, A, c, ns, B, e0, mxs⟩ W (some ad) rs.length cap v5 (P ++ badR ns.length ls i (l.take k)) wr)) (fun v5 v8 wr => l.length - (intOf v8).toNat)
    case atStart => exact ⟨0, rfl, Nat.zero_le _, HI1⟩
    case round =>
     obtain ⟨k, rfl, hk, HK⟩ := hrel
     clear HI1
     obtain ⟨-, -, -, -, -, -, k6, -, kp⟩ := HCell.out _ _ _ HK.out
     have hx := old_cell HK.out.2.2.2 HxW.out
     by_cases hlk : k < l.length
     ·have bl : decide ((k : Int) < (l.length : Int)) = true := decide_eq_true (by omega)
      obtain ⟨al, e2, cl⟩ := Kd.at_int (Kd.C_below HCi.out HK.out.2.2.2) (k : Int) (by omega) (by omega)
      cases e2
      rw [Int.toNat_natCast, rd_at hlk] at cl
      have HS := Lib.hid (badR_take ns.length ls i l hlk)
      have hl2 : (P ++ badR ns.length ls i (l.take k)).length ≤ 1000000 := by
       rw [List.length_append]
       have h1 := badR_le ns.length ls i (l.take k)
       rw [List.length_take] at h1
       omega
      have HS := Lib.hid (show P ++ badR ns.length ls i (l.take (k + 1)) = P ++ badR ns.length ls i (l.take k) ++ (if oddN ns.length ls l[k] = true then [⟨1, i, l[k]⟩] else []) from by rw [HS.out, List.append_assoc])
      generalize P ++ badR ns.length ls i (l.take k) = Pk at *
      generalize l[k] = s at *
      have p2 : (0 : Int) ≤ (k : Int) ∧ (k : Int) < (l.length : Int) := by omega
      obtain ⟨q, hq⟩ : ∃ q, oddN ns.length ls s = q := ⟨_, rfl⟩
      have HQ := Lib.hid hq
      have HS := Lib.hid (show P ++ badR ns.length ls i (l.take (k + 1)) = Pk ++ (if q = true then [⟨1, (i : Int), s⟩] else []) from by rw [← hq]; exact HS.out)
      clear hq
      go_upto_region 12 with (fail)
      clear kp hx cl
      go_cut [52] (fun v52 wc => v52 = .bool q ∧ Aside0 (SC3 ⟨nm, kd, mt, sc, cp, fl, A, c, ns, B, e0, mxs⟩ W (some ad) rs.length cap u5 Pk wc))
      case first => as_aux_lemma =>
       by_cases h1 : s < (ls : Int)
       ·have b1 : decide (s < (ls : Int)) = true := decide_eq_true h1
        have HV := Lib.hid (show q = true from HQ.out.symm.trans (decide_eq_true (Or.inl h1)))
        clear h1
        go_wp2
        go_meet
        exact ⟨by rw [HV.out], HK⟩
       ·have b1 : decide (s < (ls : Int)) = false := decide_eq_false h1
        by_cases h2 : s ≥ (ns.length : Int)
        ·have b2 : decide (s ≥ (ns.length : Int)) = true := decide_eq_true h2
         have HV := Lib.hid (show q = true from HQ.out.symm.trans (decide_eq_true (Or.inr h2)))
         clear h1 h2
         go_wp2
         go_meet
         exact ⟨by rw [HV.out], HK⟩
        ·have b2 : decide (s ≥ (ns.length : Int)) = false := decide_eq_false h2
         have HV := Lib.hid (show q = false from HQ.out.symm.trans (decide_eq_false fun e => e.elim h1 h2))
         clear h1 h2
         go_wp2
         go_meet
         exact ⟨by rw [HV.out], HK⟩
      rename_i wc
      obtain ⟨rfl, H4⟩ := hcut
      clear HK k6 HQ
      cases q with
      | true =>
       have HS := Lib.hid (HS.out.trans (by rw [if_pos rfl]))
       go_wp2_with (first | ((with_reducible refine gate_builtin (b := .append) (xs := #[.tmp 53, .tmp 57]) rfl ?_); at_builtin; refine Kd.R_append k68 (w0 := W) W.heap.size rfl (.tmp 53) (.tmp 57) 40 68 (.agg #[.int .i64 0, .int .i64 0, .int .i64 0]) 24 rfl Try.underlying40 info68 rfl (by decide) (by omega) u5 Pk (⟨1, i, s⟩ : Wr) [.int .i64 1, .int .i64 i, .int .i64 s] (fun _ => True) (fun _ => False) rfl rfl (k68_mkM _ _ _ (⟨1, i, s⟩ : Wr)) (fun _ hk => hk.elim) (fun _ _ => trivial) H4.out.2.2.1 H4.out.2.2.2 H4.out.2.2.2.size ?aL ?_; (case aL => omega); intro va wa ho hb hg hat; have HJ := Aside0.mk (SC3.app (H4.out) ho hb hg); clear ho hb hg hat))
       go_roundw
       case rel => exact ⟨k + 1, by go_num, by omega, ⟨by rw [HS.out]; exact HJ.out⟩⟩
       case measure => simp [intOf]; omega
      | false =>
       have HS := Lib.hid (show P ++ badR ns.length ls i (l.take (k + 1)) = Pk from HS.out.trans (by rw [if_neg Bool.false_ne_true, List.append_nil]))
       go_wp2
       go_roundw
       case rel => exact ⟨k + 1, by go_num, by omega, ⟨by rw [HS.out]; exact H4.out⟩⟩
       case measure => simp [intOf]; omega
     ·have bl : decide ((k : Int) < (l.length : Int)) = false := decide_eq_false (by omega)
      obtain rfl : k = l.length := by omega
      have H4 := Lib.hid (show SC3 ⟨nm, kd, mt, sc, cp, fl, A, c, ns, B, e0, mxs⟩ W (some ad) rs.length cap u5 (P ++ badR ns.length ls i l) wr from by have := HK.out; rwa [List.take_length] at this)
      clear HK
      go_wp2
      go_roundw
      case rel => exact ⟨i + 1, by go_num, by omega, ⟨by rw [HE.out]; exact H4.out⟩⟩
      case measure => simp [intOf]; omega
   ·have bt : decide ((i : Int) < (rs.length : Int)) = false := decide_eq_false (by omega)
    obtain rfl : i = rs.length := by omega
    have H4 := Lib.hid HK.out
    clear HK
    go_wp2
    go_meet
    exact ⟨H4.out⟩
 rename_i wc
 have hlen := HBl.out rs.length (Nat.le_refl _)
 have HNo := Lib.hid (fun (e : badsR ns.length ls rs rs.length = []) i (hi : i < rs.length) => bads_nil e hi)
 obtain ⟨P, hP⟩ : ∃ P, badsR ns.length ls rs rs.length = P := ⟨_, rfl⟩
 rw [hP] at hcut HD HNo hlen
 have H1 := hcut
 clear hcut hP HI0 HBl HLs
 obtain ⟨A5, c5, rfl⟩ := Kd.R_slice H1.out.2.2.1
 by_cases hp : P = []
 case neg =>
  have HE := Lib.hid (show res = P from HD.out.trans (if_neg hp))
  have hm : 0 < P.length := List.length_pos_iff.2 hp
  obtain ⟨m, hm2⟩ : ∃ m, P.length = m := ⟨_, rfl⟩
  have HM := Lib.hid hm2
  rw [hm2] at hm ⊢
  have b1 : decide ((m : Int) > 0) = true := decide_eq_true (by omega)
  have b2 : decide (0 < m) = true := decide_eq_true hm
  clear hp HD hm2
  go_wp2
  go_ret
  exact ⟨_, rfl, by rw [HE.out, ← HM.out]; exact H1.out.2.2.1, H1.out.2.2.2⟩
 subst hp
 replace HD := Lib.hid (show res = cvsR cnt ls (ns.length - ls) ++ (if kd = 1 then fl1 f else fl2 fl f ++ rtsR rt rs rs.length) from HD.out.trans (if_pos rfl))
 replace HNo := Lib.hid (HNo.out rfl)
 clear hlen
 go_upto_region 16 with (fail)
 obtain ⟨-, -, -, -, -, -, k6, -, kp⟩ := HCell.out _ _ _ H1.out
 go_wp2_with fail
 refine (HCn.out _ H1.out.2.2.2).mono ?_
 rintro e w3 ⟨v10, rfl, ho, hb⟩
 have H2 := Aside0.mk (And.intro (H1.out.below hb) (Kd.R_lower ho H1.out.2.2.2.size))
 clear ho hb k6 kp H1 HCn
 obtain ⟨A10, c10, rfl⟩ := Kd.R_slice H2.out.2
 have HI0 : Aside0 (SC3 ⟨nm, kd, mt, sc, cp, fl, A, c, ns, B, e0, mxs⟩ W R rs.length cap (.slice A5 ([] : List Wr).length c5) (cvsR cnt ls (ls - ls)) w3 ∧ Kd.R (Kd.int .i64) 3 w3 W.heap.size (fun _ => True) (.slice A10 cnt.length c10) cnt) := ⟨by rw [Nat.sub_self]; exact H2.out⟩
 clear H2
 go_upto_block 4 with (fail)
 go_cut [5] (fun v5 wc => Aside0 (SC3 ⟨nm, kd, mt, sc, cp, fl, A, c, ns, B, e0, mxs⟩ W R rs.length cap v5 (cvsR cnt ls (ns.length - ls)) wc))
 case first => as_aux_lemma =>
  go_wp2_with fail
  go_loopw [5, 11] (fun v5 v11 wr => ∃ k : Nat, v11 = .int .i64 k ∧ ls ≤ k ∧ k ≤ ns.length ∧ Aside0 (SC3 ⟨nm, kd, mt, sc, cp, fl, A, c, ns, B, e0, mxs⟩ W R rs.length cap v5 (cvsR cnt ls (k - ls)) wr ∧ Kd.R (Kd.int .i64) 3 wr W.heap.size (fun _ => True) (.slice A10 cnt.length c10) cnt)) (fun v5 v11 wr => ns.length - (intOf v11).toNat)
  case atStart => exact ⟨ls, rfl, Nat.le_refl _, by omega, HI0⟩
  case round =>
   obtain ⟨k, rfl, hk0, hk, HK⟩ := hrel
   clear HI0
   obtain ⟨-, -, -, -, -, -, k6, -, -⟩ := HCell.out _ _ _ HK.out.1
   by_cases hlt : k < ns.length
   ·have bt : decide ((k : Int) < (ns.length : Int)) = true := decide_eq_true (by omega)
    have hcl := HCl.out
    obtain ⟨al, e2, cl⟩ := Kd.at_int (Kd.R_reads' HK.out.2).2.2 (k : Int) (by omega) (by omega)
    cases e2
    rw [Int.toNat_natCast] at cl
    have HE := Lib.hid (cvsR_next cnt hk0)
    have hl2 := cvsR_le cnt ls (k - ls)
    generalize cvsR cnt ls (k - ls) = P at *
    have HE := Lib.hid (show cvsR cnt ls (k + 1 - ls) = P ++ (if rd cnt (k : Int) > 1 then [⟨2, 0, (k : Int)⟩] else []) ++ (if rd cnt (k : Int) = 0 then [⟨3, 0, (k : Int)⟩] else []) from by rw [HE.out, List.append_assoc]; rfl)
    obtain ⟨s, hs⟩ : ∃ s, rd cnt (k : Int) = s := ⟨_, rfl⟩
    have HSs := Lib.hid hs
    rw [hs] at cl
    have HE := Lib.hid (show cvsR cnt ls (k + 1 - ls) = P ++ (if s > 1 then [⟨2, 0, (k : Int)⟩] else []) ++ (if s = 0 then [⟨3, 0, (k : Int)⟩] else []) from by rw [← hs]; exact HE.out)
    clear hs
    have p1 : (0 : Int) ≤ (k : Int) ∧ (k : Int) < (cnt.length : Int) := by omega
    have p3 : (k : Int) < (ns.length : Int) := by omega
    clear hcl
    obtain ⟨q, hq⟩ : ∃ q, decide (s > 1) = q := ⟨_, rfl⟩
    have HQ := Lib.hid hq
    clear hq
    go_upto_region 20 with (fail)
    clear k6
    go_cut [80] (fun v80 wc => v80 = .bool q ∧ Aside0 (SC3 ⟨nm, kd, mt, sc, cp, fl, A, c, ns, B, e0, mxs⟩ W R rs.length cap u5 P wc ∧ Kd.R (Kd.int .i64) 3 wc W.heap.size (fun _ => True) (.slice (some al) cnt.length c10) cnt))
    case first => as_aux_lemma =>
     go_wp2
     go_meet
     exact ⟨by show Value.bool (decide (s > 1)) = _; rw [HQ.out], HK⟩
    rename_i wc
    obtain ⟨rfl, H3⟩ := hcut
    clear HK cl
    go_upto_if 80 with (fail)
    go_cut [5] (fun v5 wc => Aside0 (SC3 ⟨nm, kd, mt, sc, cp, fl, A, c, ns, B, e0, mxs⟩ W R rs.length cap v5 (P ++ (if s > 1 then [⟨2, 0, (k : Int)⟩] else [])) wc ∧ Kd.R (Kd.int .i64) 3 wc W.heap.size (fun _ => True) (.slice (some al) cnt.length c10) cnt))
    case first => as_aux_lemma =>
     cases q with
     | true =>
      have HV := Lib.hid (show (if s > 1 then [(⟨2, 0, (k : Int)⟩ : Wr)] else []) = [⟨2, 0, (k : Int)⟩] from if_pos (of_decide_eq_true HQ.out))
      go_wp2_with (first | ((with_reducible refine gate_builtin (b := .append) (xs := #[.tmp 81, .tmp 84]) rfl ?_); at_builtin; refine Kd.R_append k68 (w0 := W) W.heap.size rfl (.tmp 81) (.tmp 84) 40 68 (.agg #[.int .i64 0, .int .i64 0, .int .i64 0]) 24 rfl Try.underlying40 info68 rfl (by decide) (by omega) u5 P (⟨2, 0, k⟩ : Wr) [.int .i64 2, .int .i64 0, .int .i64 k] (fun _ => True) (fun _ => False) rfl rfl (k68_mkM _ _ _ (⟨2, 0, k⟩ : Wr)) (fun _ hk => hk.elim) (fun _ _ => trivial) H3.out.1.2.2.1 H3.out.1.2.2.2 H3.out.1.2.2.2.size ?aL ?_; (case aL => omega); intro va wa ho hb hg hat; have HJ := Aside0.mk (And.intro (SC3.app (H3.out.1) ho hb hg) (SC3.row H3.out.1 H3.out.2 hg)); clear ho hb hg hat))
      go_meet
      exact ⟨by rw [HV.out]; exact HJ.out⟩
     | false =>
      have HV := Lib.hid (show (if s > 1 then [(⟨2, 0, (k : Int)⟩ : Wr)] else []) = [] from if_neg (of_decide_eq_false HQ.out))
      go_wp2
      go_meet
      exact ⟨by rw [HV.out, List.append_nil]; exact H3.out⟩
    rename_i wc
    have hl3 : (P ++ (if s > 1 then [(⟨2, 0, (k : Int)⟩ : Wr)] else [])).length ≤ 1000000 := by rw [List.length_append]; split <;> simp only [List.length_singleton, List.length_nil] <;> omega
    generalize P ++ (if s > 1 then [(⟨2, 0, (k : Int)⟩ : Wr)] else []) = P1 at *
    have H4 := hcut
    clear hcut H3 HQ
    obtain ⟨al2, e3, cl⟩ := Kd.at_int (Kd.R_reads' H4.out.2).2.2 (k : Int) (by omega) (by have := HCl.out; omega)
    cases e3
    rw [Int.toNat_natCast, HSs.out] at cl
    go_upto_if 90 with (fail)
    clear cl
    by_cases h1 : s = 0
    ·have b1 : (s == 0) = true := beq_iff_eq.2 h1
     have HE := Lib.hid (show cvsR cnt ls (k + 1 - ls) = P1 ++ [⟨3, 0, (k : Int)⟩] from HE.out.trans (by rw [if_pos h1]))
     clear h1
     go_wp2_with (first | ((with_reducible refine gate_builtin (b := .append) (xs := #[.tmp 91, .tmp 94]) rfl ?_); at_builtin; refine Kd.R_append k68 (w0 := W) W.heap.size rfl (.tmp 91) (.tmp 94) 40 68 (.agg #[.int .i64 0, .int .i64 0, .int .i64 0]) 24 rfl Try.underlying40 info68 rfl (by decide) (by omega) u5 P1 (⟨3, 0, k⟩ : Wr) [.int .i64 3, .int .i64 0, .int .i64 k] (fun _ => True) (fun _ => False) rfl rfl (k68_mkM _ _ _ (⟨3, 0, k⟩ : Wr)) (fun _ hk => hk.elim) (fun _ _ => trivial) H4.out.1.2.2.1 H4.out.1.2.2.2 H4.out.1.2.2.2.size ?aL ?_; (case aL => omega); intro va wa ho hb hg hat; have HJ := Aside0.mk (And.intro (SC3.app (H4.out.1) ho hb hg) (SC3.row H4.out.1 H4.out.2 hg)); clear ho hb hg hat))
     go_roundw
     case rel => exact ⟨k + 1, by go_num, by omega, by omega, ⟨by rw [HE.out]; exact HJ.out⟩⟩
     case measure => simp [intOf]; omega
    ·have b1 : (s == 0) = false := beq_eq_false_iff_ne.2 h1
     have HE := Lib.hid (show cvsR cnt ls (k + 1 - ls) = P1 from HE.out.trans (by rw [if_neg h1, List.append_nil]))
     clear h1
     go_wp2
     go_roundw
     case rel => exact ⟨k + 1, by go_num, by omega, by omega, ⟨by rw [HE.out]; exact H4.out⟩⟩
     case measure => simp [intOf]; omega
   ·have bt : decide ((k : Int) < (ns.length : Int)) = false := decide_eq_false (by omega)
    obtain rfl : k = ns.length := by omega
    have H4 := Lib.hid HK.out.1
    clear HK
    go_wp2
    go_meet
    exact ⟨H4.out⟩
 rename_i wc
 have hl1 := cvsR_le cnt ls (ns.length - ls)
 obtain ⟨P, hP⟩ : ∃ P, cvsR cnt ls (ns.length - ls) = P := ⟨_, rfl⟩
 rw [hP] at hcut HD hl1
 have H1 := hcut
 clear hcut hP HI0
 go_upto_region 24 with (fail)
 obtain ⟨-, -, -, -, -, -, -, -, kp⟩ := HCell.out _ _ _ H1.out
 go_wp2_with fail
 refine (HNm.out _ H1.out.2.2.2).mono ?_
 rintro e w4 ⟨A9, c9, rfl, hb⟩
 have H2 := Aside0.mk (H1.out.below hb)
 clear hb kp H1 HNm
 have hfi : ∀ w, (Instr.field 48 (.agg #[.slice A9 f c9]) 0).run Try.prog w = .ok (.slice A9 f c9) w := fun w => by kernel_rfl
 go_upto_region 25 with (fail)
 clear hfi
 obtain ⟨-, k1, -, -, -, k5, -, -, -⟩ := HCell.out _ _ _ H2.out
 by_cases hk : kd = 1
 ·have b1 : (kd == 1) = true := beq_iff_eq.2 hk
  replace HD := Lib.hid (show res = P ++ fl1 f from HD.out.trans (by rw [if_pos hk]))
  clear hk
  by_cases h1 : f = 1
  ·have b2 : ((f : Int) != 1) = false := bne_eq_false_iff_eq.2 (by omega)
   have b3 : ((f : Int) == 1) = true := beq_iff_eq.2 (by omega)
   have HE := Lib.hid (show res = P from HD.out.trans (by rw [fl1, if_pos h1, List.append_nil]))
   clear h1
   go_wp2
   go_ret
   exact ⟨_, rfl, by rw [HE.out]; exact H2.out.2.2.1, H2.out.2.2.2⟩
  ·have b2 : ((f : Int) != 1) = true := bne_iff_ne.2 (by omega)
   have b3 : ((f : Int) == 1) = false := beq_eq_false_iff_ne.2 (by omega)
   have HE := Lib.hid (show res = P ++ [⟨4, 0, (f : Int)⟩] from HD.out.trans (by rw [fl1, if_neg h1]))
   clear h1
   go_wp2_with (first | ((with_reducible refine gate_builtin (b := .append) (xs := #[.tmp 105, .tmp 108]) rfl ?_); at_builtin; refine Kd.R_append k68 (w0 := W) W.heap.size rfl (.tmp 105) (.tmp 108) 40 68 (.agg #[.int .i64 0, .int .i64 0, .int .i64 0]) 24 rfl Try.underlying40 info68 rfl (by decide) (by omega) u5 P (⟨4, 0, f⟩ : Wr) [.int .i64 4, .int .i64 0, .int .i64 f] (fun _ => True) (fun _ => False) rfl rfl (k68_mkM _ _ _ (⟨4, 0, f⟩ : Wr)) (fun _ hk => hk.elim) (fun _ _ => trivial) H2.out.2.2.1 H2.out.2.2.2 H2.out.2.2.2.size ?aL ?_; (case aL => omega); intro va wa ho hb hg hat; have HJ := Aside0.mk (SC3.app (H2.out) ho hb hg); clear ho hb hg hat))
   go_ret
   exact ⟨_, rfl, by rw [HE.out]; exact HJ.out.2.2.1, HJ.out.2.2.2⟩
 have b1 : (kd == 1) = false := beq_eq_false_iff_ne.2 hk
 replace HD := Lib.hid (show res = P ++ (fl2 fl f ++ rtsR rt rs rs.length) from HD.out.trans (by rw [if_neg hk]))
 clear hk
 go_upto_region 29 with (fail)
 clear k1 b1
 obtain ⟨q, hq⟩ : ∃ q, decide (fl > 0 ∧ (f : Int) > fl) = q := ⟨_, rfl⟩
 have HQ := Lib.hid hq
 clear hq
 go_cut [119] (fun v119 wc => v119 = .bool q ∧ Aside0 (SC3 ⟨nm, kd, mt, sc, cp, fl, A, c, ns, B, e0, mxs⟩ W R rs.length cap u5 P wc))
 case first => as_aux_lemma =>
  by_cases h1 : fl > 0
  ·have b1 : decide (fl > 0) = true := decide_eq_true h1
   by_cases h2 : (f : Int) > fl
   ·have b2 : decide ((f : Int) > fl) = true := decide_eq_true h2
    have HV := Lib.hid (show q = true from HQ.out.symm.trans <| decide_eq_true ⟨h1, h2⟩)
    clear h1 h2
    go_wp2
    go_meet
    exact ⟨by rw [HV.out], H2⟩
   ·have b2 : decide ((f : Int) > fl) = false := decide_eq_false h2
    have HV := Lib.hid (show q = false from HQ.out.symm.trans <| decide_eq_false fun e => h2 e.2)
    clear h1 h2
    go_wp2
    go_meet
    exact ⟨by rw [HV.out], H2⟩
  ·have b1 : decide (fl > 0) = false := decide_eq_false h1
   have HV := Lib.hid (show q = false from HQ.out.symm.trans <| decide_eq_false fun e => h1 e.1)
   clear h1
   go_wp2
   go_meet
   exact ⟨by rw [HV.out], H2⟩
 rename_i wc
 obtain ⟨rfl, H4⟩ := hcut
 clear H2 k5
 go_upto_if 119 with (fail)
 go_cut [5] (fun v5 wc => Aside0 (SC3 ⟨nm, kd, mt, sc, cp, fl, A, c, ns, B, e0, mxs⟩ W R rs.length cap v5 (P ++ fl2 fl f) wc))
 case first => as_aux_lemma =>
  cases q with
  | true =>
   have HE := Lib.hid (show fl2 fl f = [⟨4, 0, (f : Int)⟩] from if_pos (of_decide_eq_true HQ.out))
   clear HQ
   go_wp2_with (first | ((with_reducible refine gate_builtin (b := .append) (xs := #[.tmp 120, .tmp 123]) rfl ?_); at_builtin; refine Kd.R_append k68 (w0 := W) W.heap.size rfl (.tmp 120) (.tmp 123) 40 68 (.agg #[.int .i64 0, .int .i64 0, .int .i64 0]) 24 rfl Try.underlying40 info68 rfl (by decide) (by omega) u5 P (⟨4, 0, f⟩ : Wr) [.int .i64 4, .int .i64 0, .int .i64 f] (fun _ => True) (fun _ => False) rfl rfl (k68_mkM _ _ _ (⟨4, 0, f⟩ : Wr)) (fun _ hk => hk.elim) (fun _ _ => trivial) H4.out.2.2.1 H4.out.2.2.2 H4.out.2.2.2.size ?aL ?_; (case aL => omega); intro va wa ho hb hg hat; have HJ := Aside0.mk (SC3.app (H4.out) ho hb hg); clear ho hb hg hat))
   go_meet
   exact ⟨by rw [HE.out]; exact HJ.out⟩
  | false =>
   have HE := Lib.hid (show fl2 fl f = [] from if_neg (of_decide_eq_false HQ.out))
   clear HQ
   go_wp2
   go_meet
   exact ⟨by rw [HE.out, List.append_nil]; exact H4.out⟩
 rename_i wc
 have hl2 : (P ++ fl2 fl f).length ≤ 1000 := by rw [List.length_append]; have := fl2_le fl f; omega
 obtain ⟨P1, hP1⟩ : ∃ P1, P ++ fl2 fl f = P1 := ⟨_, rfl⟩
 replace HD := Lib.hid (show res = P1 ++ rtsR rt rs rs.length from by rw [HD.out, ← hP1, List.append_assoc])
 rw [hP1] at hcut hl2
 have HI0 : Aside0 (SC3 ⟨nm, kd, mt, sc, cp, fl, A, c, ns, B, e0, mxs⟩ W R rs.length cap u5 (P1 ++ rtsR rt rs 0) wc) := ⟨by simpa [rtsR] using hcut.out⟩
 have HRs := Lib.hid (fun k hk => rtsR_le HRl.out HZ.out.rows k hk)
 clear hcut hP1 H4 HQ hl1
 go_upto_region 31 with (fail)
 go_wp2
 go_loopw [5, 13] (fun v5 v13 wr => ∃ i : Nat, v13 = .int .i64 i ∧ i ≤ rs.length ∧ Aside0 (SC3 ⟨nm, kd, mt, sc, cp, fl, A, c, ns, B, e0, mxs⟩ W R rs.length cap v5 (P1 ++ rtsR rt rs i) wr)) (fun v5 v13 wr => rs.length - (intOf v13).toNat)
 case atStart => exact ⟨0, rfl, Nat.zero_le _, HI0⟩
 case round =>
  obtain ⟨i, rfl, hi, HK⟩ := hrel
  clear HI0
  obtain ⟨-, -, -, -, -, -, -, -, kp⟩ := HCell.out _ _ _ HK.out
  by_cases hlt : i < rs.length
  ·have bt : decide ((i : Int) < (rs.length : Int)) = true := decide_eq_true (by omega)
   obtain ⟨ad, A', c', e1, hx, hl, hCi⟩ := at_L1 HL.out (i : Int) (by omega) (by omega)
   cases e1
   rw [Int.toNat_natCast] at hx
   have hrow := HZ.out.rows i hlt
   have hnod := HNo.out i hlt
   have HE := Lib.hid (rtsR_succ rt rs i)
   have hlen := HRs.out i hi
   have hrw := HRl.out (i : Int) (rd_L1 rs (i : Int))
   generalize rd_L1 rs (i : Int) = l at *
   have HE := Lib.hid (show P1 ++ rtsR rt rs (i + 1) = P1 ++ rtsR rt rs i ++ rt (i : Int) l from by rw [HE.out, List.append_assoc])
   have hl3 : (P1 ++ rtsR rt rs i).length ≤ 1000000 := by rw [List.length_append]; omega
   have HRt2 := Lib.hid (fun W' (hb : Below W.heap.size W W') => HRt.out (i : Int) A' c' l W' hb (Kd.C_below hCi hb) hl hrow hnod)
   generalize rt (i : Int) l = rw9 at *
   generalize P1 ++ rtsR rt rs i = Pk at *
   have p1 : (0 : Int) ≤ (i : Int) ∧ (i : Int) < (rs.length : Int) := by omega
   have HxW := Lib.hid hx
   clear hx hCi hnod
   have HS := Lib.hid (show ∀ w' v ns', SC3 ⟨nm, kd, mt, sc, cp, fl, A, c, ns, B, e0, mxs⟩ W (some ad) rs.length cap v ns' w' → (w'.cell? ⟨W.heap.size, 0, none⟩ = some (.string nm) ∧ w'.cell? ⟨W.heap.size, 1, none⟩ = some (.int .i64 kd) ∧ w'.cell? ⟨W.heap.size, 2, none⟩ = some (.int .i64 mt) ∧ w'.cell? ⟨W.heap.size, 3, none⟩ = some (.int .i64 sc) ∧ w'.cell? ⟨W.heap.size, 4, none⟩ = some (.int .i64 cp) ∧ w'.cell? ⟨W.heap.size, 5, none⟩ = some (.int .i64 fl) ∧ w'.cell? ⟨W.heap.size, 6, none⟩ = some (.slice A ns.length c) ∧ w'.cell? ⟨W.heap.size, 7, none⟩ = some (.slice B mxs.length e0) ∧ w'.cell? ⟨Bp, 0, none⟩ = some (.slice (some ad) rs.length cap) ∧ w'.cell? (ad.add i) = some (.slice A' l.length c')) from fun w' v ns' h => by
    obtain ⟨z0, z1, z2, z3, z4, z5, z6, z7, z8⟩ := HCell.out _ _ _ h
    exact ⟨z0, z1, z2, z3, z4, z5, z6, z7, z8, old_cell h.2.2.2 HxW.out⟩)
   go_upto_region 34 with (fail)
   clear kp
   have HK1 := Lib.hid (HK.out.below (below_drew1 (Below.refl _ _)))
   have HKb := Lib.hid HK1.out.2.2.2
   clear HK
   go_wp2_with fail
   -- REGION
   refine start_ (n := 11) (S := fun w' => w'.cell? ⟨W.heap.size, 0, none⟩ = some (.string nm) ∧ w'.cell? ⟨W.heap.size, 1, none⟩ = some (.int .i64 kd) ∧ w'.cell? ⟨W.heap.size, 2, none⟩ = some (.int .i64 mt) ∧ w'.cell? ⟨W.heap.size, 3, none⟩ = some (.int .i64 sc) ∧ w'.cell? ⟨W.heap.size, 4, none⟩ = some (.int .i64 cp) ∧ w'.cell? ⟨W.heap.size, 5, none⟩ = some (.int .i64 fl) ∧ w'.cell? ⟨W.heap.size, 6, none⟩ = some (.slice A ns.length c) ∧ w'.cell? ⟨W.heap.size, 7, none⟩ = some (.slice B mxs.length e0) ∧ w'.cell? ⟨Bp, 0, none⟩ = some (.slice (some ad) rs.length cap) ∧ w'.cell? (ad.add i) = some (.slice A' l.length c')) (ds := []) #[false, false, false, false, false, false, false, false, false, false, false] (by kernel_rfl) rfl rfl (HS.out _ _ _ HK1.out) (fun hHeld => ?_)
   refine pure_ (i := 0) (N := some 132) (v := ?_) (a' := ?_) #[true, false, false, false, false, false, false, false, false, false, false] rfl rfl (by kernel_rfl) (fun _ _ _ h => h) (Or.inl ⟨by rfl, ?_⟩) ?_ ?_
   rotate_left
   ·intro w'
    go_simp
    with_reducible rfl
   rotate_left
   ·simp only [Act.put, z1_, z2_, z3_, i64_w, i32_w]
    rfl
   refine pure_ (i := 2) (N := some 134) (v := ?_) (a' := ?_) #[true, false, true, false, false, false, false, false, false, false, false] rfl rfl (by kernel_rfl) (fun _ _ _ h => h) (Or.inl ⟨by rfl, ?_⟩) ?_ ?_
   rotate_left
   ·intro w'
    go_simp
    with_reducible rfl
   rotate_left
   ·simp only [Act.put, z1_, z2_, z3_, i64_w, i32_w]
    rfl
   refine pure_ (i := 3) (N := some 135) (v := ?_) (a' := ?_) #[true, false, true, true, false, false, false, false, false, false, false] rfl rfl (by kernel_rfl) (fun _ _ _ h => h) (Or.inl ⟨by rfl, ?_⟩) ?_ ?_
   rotate_left
   ·intro w'
    go_simp
    with_reducible rfl
   rotate_left
   ·simp only [Act.put, z1_, z2_, z3_, i64_w, i32_w]
    rfl
   refine pure_ (i := 5) (N := some 137) (v := ?_) (a' := ?_) #[true, false, true, true, false, true, false, false, false, false, false] rfl rfl (by kernel_rfl) (fun _ _ _ h => h) (Or.inl ⟨by rfl, ?_⟩) ?_ ?_
   rotate_left
   ·intro w'
    go_simp
    with_reducible rfl
   rotate_left
   ·simp only [Act.put, z1_, z2_, z3_, i64_w, i32_w]
    rfl
   refine take_ (i := 1) (N := some 133) (v := ?_) (a' := ?_) #[true, true, true, true, false, true, false, false, false, false, false] rfl rfl (by kernel_rfl) (fun _ _ _ h => h) (Or.inl ⟨by rfl, ?_⟩) hHeld ?_ ?_
   rotate_left
   ·rintro w' ⟨s0, s1, s2, s3, s4, s5, s6, s7, s8, s9⟩
    go_simp
    with_reducible rfl
   rotate_left
   ·simp only [Act.put, z1_, z2_, z3_, i64_w, i32_w]
    rfl
   refine take_ (i := 4) (N := some 136) (v := ?_) (a' := ?_) #[true, true, true, true, true, true, false, false, false, false, false] rfl rfl (by kernel_rfl) (fun _ _ _ h => h) (Or.inl ⟨by rfl, ?_⟩) hHeld ?_ ?_
   rotate_left
   ·rintro w' ⟨s0, s1, s2, s3, s4, s5, s6, s7, s8, s9⟩
    go_simp
    with_reducible rfl
   rotate_left
   ·simp only [Act.put, z1_, z2_, z3_, i64_w, i32_w]
    rfl
   refine pure_ (i := 6) (N := some 138) (v := ?_) (a' := ?_) #[true, true, true, true, true, true, true, false, false, false, false] rfl rfl (by kernel_rfl) (fun _ _ _ h => h) (Or.inl ⟨by rfl, ?_⟩) ?_ ?_
   rotate_left
   ·intro w'
    go_simp
    with_reducible rfl
   rotate_left
   ·simp only [Act.put, z1_, z2_, z3_, i64_w, i32_w]
    rfl
   refine take_ (i := 7) (N := some 139) (v := ?_) (a' := ?_) #[true, true, true, true, true, true, true, true, false, false, false] rfl rfl (by kernel_rfl) (fun _ _ _ h => h) (Or.inl ⟨by rfl, ?_⟩) hHeld ?_ ?_
   rotate_left
   ·rintro w' ⟨s0, s1, s2, s3, s4, s5, s6, s7, s8, s9⟩
    go_simp
    with_reducible rfl
   rotate_left
   ·simp only [Act.put, z1_, z2_, z3_, i64_w, i32_w]
    rfl
   refine one_ (i := 8) (N := some 140) #[true, true, true, true, true, true, true, true, true, false, false] rfl rfl (by kernel_rfl) (by decide) (fun K hK => ?_)
   refine goes_ Try.func40 (by kernel_rfl) rfl #[.agg #[.string nm, .int .i64 kd, .int .i64 mt, .int .i64 sc, .int .i64 cp, .int .i64 fl, .slice A ns.length c, .slice B mxs.length e0], .int .i64 (i : Int), .slice A' l.length c'] (by rfl) rfl rfl (by simp only [List.map_toArray, List.map_cons, List.map_nil]; rfl) ?_
   with_reducible refine (HRt2.out _ HKb.out).mono ?_
   rintro e w9 ⟨v9, rfl, ho9, hb9⟩
   refine ⟨_, rfl, ?_⟩
   have HK2 := Lib.hid (HK1.out.below hb9)
   have HO := Lib.hid (Kd.R_mono (Kd.R_elder' HK1.out.2.2.1 (Kd.R_base ho9) hb9) (fun _ hk => hk.2))
   have HN := Lib.hid (Kd.R_lower ho9 HK1.out.2.2.2.size)
   clear hb9 ho9
   obtain ⟨A9, c9, rfl⟩ := Kd.R_slice HN.out
   refine hK.out _ _ (HS.out _ _ _ HK2.out) (fun hHeld => ?_)
   clear hK K
   refine norm_ (a' := ?_) ?_ ?_
   rotate_left
   ·show Act.put _ (some 140) _ = _
    simp only [Act.put, z1_, z2_, z3_, i64_w, i32_w]
    rfl
   refine one_ (i := 9) (N := some 141) #[true, true, true, true, true, true, true, true, true, true, false] rfl rfl (by kernel_rfl) (by decide) (fun K hK => ?_)
   refine Kd.R_append_rows_step k68 (w0 := W) W.heap.size (by rfl) (.tmp 132) (.tmp 140) 40 68 (.agg #[.int .i64 0, .int .i64 0, .int .i64 0]) 24 rfl Try.underlying40 info68 rfl (by decide) (by omega) u5 Pk rw9 _ _ _ (fun k_ => some k_ ≠ (.slice A9 rw9.length c9 : Value).ownBlock) (fun _ => False) rfl rfl HO.out (Kd.R_reads' HN.out).2.2 (fun _ _ h => h) (fun _ h => h.elim) (fun k_ hk => Kd.fresh' (Kd.R_lt HN.out) k_ hk) HK2.out.2.2.2 HK2.out.2.2.2.size (by omega) ?_
   intro va wa ho hb hg hat
   have HK3 := Lib.hid (SC3.app HK2.out (Kd.R_mono ho (fun _ _ => trivial)) hb hg)
   clear ho hb hg hat
   refine hK.out _ _ (HS.out _ _ _ HK3.out) (fun hHeld => ?_)
   clear hK K
   refine norm_ (a' := ?_) ?_ ?_
   rotate_left
   ·show Act.put _ (some 141) _ = _
    simp only [Act.put, z1_, z2_, z3_, i64_w, i32_w]
    rfl
   refine pure_ (i := 10) (N := some 5) (v := ?_) (a' := ?_) #[true, true, true, true, true, true, true, true, true, true, true] rfl rfl (by kernel_rfl) (fun _ _ _ h => h) (Or.inl ⟨by rfl, ?_⟩) ?_ ?_
   rotate_left
   ·intro w'
    go_simp
    with_reducible rfl
   rotate_left
   ·simp only [Act.put, z1_, z2_, z3_, i64_w, i32_w]
    rfl
   refine done_ (by kernel_rfl) ?_
   -- BEHIND
   clear hHeld HS HK1 HK2 HO HN HRt2 HKb
   go_wp2
   go_roundw
   case rel => exact ⟨i + 1, by go_num, by omega, ⟨by rw [HE.out]; exact HK3.out⟩⟩
   case measure => simp [intOf]; omega
  ·have bt : decide ((i : Int) < (rs.length : Int)) = false := decide_eq_false (by omega)
   obtain rfl : i = rs.length := by omega
   have H6 := Lib.hid HK.out
   clear HK
   go_wp2
   go_ret
   exact ⟨_, rfl, by rw [HD.out]; exact H6.out.2.2.1, H6.out.2.2.2⟩
end Ref11
end Go.Proofs.Ytlncbckpcmojpaa
