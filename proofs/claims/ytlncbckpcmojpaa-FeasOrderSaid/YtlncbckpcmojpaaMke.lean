/- Texts of this session in one: feas.Loads, feas.Times: their walks.; feas: what the looker notes; whether all stops are customers (known).; feas: covered. -/
import Derived.Test.YtlncbckpcmojpaaGFeasE
import Derived.Test.YtlncbckpcmojpaaMkc
set_option linter.unusedVariables false
set_option linter.unusedSimpArgs false
namespace Go.Proofs.Ytlncbckpcmojpaa
open Go.RowKit Go.Proofs.YtlncbckpcmojpaaW.PrintWords Go.Proofs.YtlncbckpcmojpaaW.PrintLast Go.Proofs.YtlncbckpcmojpaaW.PrintMore
namespace FeasWalk
open P
/-- Sums of demands along stops. -/
def sumsFrom (x : Look) (s : Int) : List Int → List Int
  | [] => []
  | a :: l => wrap64 (s + (rd_T32 x.ns a).f2) :: sumsFrom x (wrap64 (s + (rd_T32 x.ns a).f2)) l
def sumTo (x : Look) (l : List Int) : Int := l.foldl (fun s a => wrap64 (s + (rd_T32 x.ns a).f2)) 0
def oddR (x : Look) (l : List Int) : Bool := l.any (oddB x.ns.length)
def loadsOf (x : Look) (l : List Int) : List Int := if oddR x l = true then [] else sumsFrom x 0 l
theorem sumsFrom_length (x : Look) : ∀ (l : List Int) (s : Int), (sumsFrom x s l).length = l.length
  | [], _ => rfl
  | a :: l, s => by show (sumsFrom x _ l).length + 1 = l.length + 1; rw [sumsFrom_length x l]
theorem sumsFrom_append (x : Look) : ∀ (l : List Int) (s a : Int), sumsFrom x s (l ++ [a]) = sumsFrom x s l ++ [wrap64 (l.foldl (fun s a => wrap64 (s + (rd_T32 x.ns a).f2)) s + (rd_T32 x.ns a).f2)]
  | [], _, _ => rfl
  | b :: l, s, a => by
    show _ :: sumsFrom x _ (l ++ [a]) = _ :: (sumsFrom x _ l ++ _)
    rw [sumsFrom_append x l]; rfl
/-- The first k sums, and noughts. -/
def sumsN (x : Look) (l : List Int) (k : Nat) : List Int := sumsFrom x 0 (l.take k) ++ List.replicate (l.length - k) 0
theorem sumsN_length (x : Look) (l : List Int) {k : Nat} (h : k ≤ l.length) : (sumsN x l k).length = l.length := by unfold sumsN; rw [List.length_append, sumsFrom_length, List.length_take, List.length_replicate]; omega
theorem sumTo_step (x : Look) (l : List Int) {k : Nat} (h : k < l.length) : sumTo x (l.take (k + 1)) = wrap64 (sumTo x (l.take k) + (rd_T32 x.ns l[k]).f2) := by
  unfold sumTo
  rw [List.take_succ_eq_append_getElem h, List.foldl_append]; rfl
theorem sumsN_step (x : Look) (l : List Int) {k : Nat} (h : k < l.length) : (sumsN x l k).set k (sumTo x (l.take (k + 1))) = sumsN x l (k + 1) := by
  unfold sumsN
  rw [sumTo_step x l h, List.take_succ_eq_append_getElem h, sumsFrom_append]
  have hl : (sumsFrom x 0 (l.take k)).length = k := by rw [sumsFrom_length, List.length_take]; omega
  rw [List.set_append_right _ _ (by omega), hl, Nat.sub_self, show l.length - k = (l.length - (k + 1)) + 1 by omega, List.replicate_succ, List.set_cons_zero, List.append_assoc]
  rfl
/-- The looker that Loads and Times make. -/
theorem looker_new (x : Look) (W : World) (hr : x.rows W) :
    x.at ((W.alloc (.cells #[.string x.nm, .int .i64 x.kd, .int .i64 x.mt, .int .i64 x.sc, .int .i64 x.cp, .int .i64 x.fl, .slice x.A x.ns.length x.c, .slice x.B x.mx.length x.e] 25)).alloc
      (.cells #[.string x.nm, .int .i64 x.kd, .int .i64 x.mt, .int .i64 x.sc, .int .i64 x.cp, .int .i64 x.fl, .slice x.A x.ns.length x.c, .slice x.B x.mx.length x.e, .slice none 0 0] 63)) (W.heap.size + 1) (.slice none 0 0) := by
  have h := heap_alloc_new (W.alloc (.cells #[.string x.nm, .int .i64 x.kd, .int .i64 x.mt, .int .i64 x.sc, .int .i64 x.cp, .int .i64 x.fl, .slice x.A x.ns.length x.c, .slice x.B x.mx.length x.e] 25))
    (.cells #[.string x.nm, .int .i64 x.kd, .int .i64 x.mt, .int .i64 x.sc, .int .i64 x.cp, .int .i64 x.fl, .slice x.A x.ns.length x.c, .slice x.B x.mx.length x.e, .slice none 0 0] 63)
  rw [World.size_alloc] at h
  exact h
theorem odd_c (x : Look) (K : Nat) (v : Value) (A : Option Addr) (c : Nat) (l : List Int) (W : World) (hK : x.at W K v) (hl : Kd.C (Kd.int .i64) W A l.length l) :
    Calls Try.prog 41 #[.slice A l.length c, .func (.func 42) #[.pointer (some ⟨K, 0, none⟩)] #[]] W fun e w' => e = .returned (.bool (oddR x l)) ∧ Below W.heap.size W w' :=
  containsBound 42 (enters_ Try.func42 (by kernel_rfl) rfl) (oddB x.ns.length) W K (fun d W' hb => strange_c x K v d W' (blk_below hK hb)) A c l hl
theorem not_odd {x : Look} {l : List Int} (h : oddR x l = false) : ∀ s ∈ l, 0 ≤ s ∧ s < (x.ns.length : Int) := by
  intro s hs
  unfold oddR at h
  rw [List.any_eq_false] at h
  have := h s hs
  unfold oddB at this
  simp only [Bool.or_eq_true, decide_eq_true_eq, not_or] at this
  omega
/-- What Times answers. -/
def ftimesOf (x : Look) (l : List Int) : List Int × Bool := if oddR x l = true then ([], false) else ((timesOf x l).1, decide ((timesOf x l).2 < 0))
set_option maxHeartbeats 8000000 in
set_option maxRecDepth 100000 in
theorem ftimes_c (x : Look) (A : Option Addr) (cap : Nat) (l : List Int) (W : World) (hr : x.rows W) (hn : x.ns.length ≤ 65536) (hn0 : 0 < x.ns.length) (hl : Kd.C (Kd.int .i64) W A l.length l) (hll : l.length ≤ 1000000)
    (hleg : ∀ i j, i < x.ns.length → j < x.ns.length → ∃ r2, legOf x i j = some (legP x i j, r2)) :
    Calls Try.prog 21 #[x.val, .slice A l.length cap] W fun e w' => ∃ v', e = .returned (.tuple #[v', .bool (ftimesOf x l).2]) ∧
      Kd.R (Kd.int .i64) 3 w' W.heap.size (fun _ => True) v' (ftimesOf x l).1 ∧ Below W.heap.size W w' := by
  have hat := looker_new x W hr
  have hB := ((Below.refl W.heap.size W).alloc (Nat.le_refl _) (.cells #[.string x.nm, .int .i64 x.kd, .int .i64 x.mt, .int .i64 x.sc, .int .i64 x.cp, .int .i64 x.fl, .slice x.A x.ns.length x.c, .slice x.B x.mx.length x.e] 25)).alloc (by simp)
    (.cells #[.string x.nm, .int .i64 x.kd, .int .i64 x.mt, .int .i64 x.sc, .int .i64 x.cp, .int .i64 x.fl, .slice x.A x.ns.length x.c, .slice x.B x.mx.length x.e, .slice none 0 0] 63)
  generalize hW2 : (W.alloc (.cells #[.string x.nm, .int .i64 x.kd, .int .i64 x.mt, .int .i64 x.sc, .int .i64 x.cp, .int .i64 x.fl, .slice x.A x.ns.length x.c, .slice x.B x.mx.length x.e] 25)).alloc
    (.cells #[.string x.nm, .int .i64 x.kd, .int .i64 x.mt, .int .i64 x.sc, .int .i64 x.cp, .int .i64 x.fl, .slice x.A x.ns.length x.c, .slice x.B x.mx.length x.e, .slice none 0 0] 63) = W2 at *
  have HO := Lib.hid (odd_c x (W.heap.size + 1) _ A cap l W2 hat (Kd.C_below hl hB))
  have HW := Lib.hid hW2
  have HA := Lib.hid hat
  have HB := Lib.hid hB
  have HL := Lib.hid hl
  have HR := Lib.hid hr
  have HG := Lib.hid hleg
  unfold Look.val
  clear hW2 hat hB hl hr hleg
  cases ho : oddR x l with
  | true =>
    rw [show ftimesOf x l = ([], false) from if_pos ho]
    rw [ho] at HO
    clear ho
    go_enter Try.func21, Try.ntmps21
    go_upto_region 2 with (fail)
    rw [HW.out]
    go_wp2_with fail
    refine HO.out.mono ?_
    rintro e w3 ⟨rfl, hb3⟩
    have HB3 := Lib.hid hb3
    clear hb3 HO
    go_wp2
    go_ret2
    exact ⟨_, rfl, Kd.R_nil .., HB.out.trans (HB3.out.mono HB.out.size)⟩
  | false =>
    rw [show ftimesOf x l = ((timesOf x l).1, decide ((timesOf x l).2 < 0)) from if_neg (by rw [ho]; exact Bool.false_ne_true)]
    rw [ho] at HO
    have HIN := Lib.hid (not_odd ho)
    clear ho
    have HT := Lib.hid (fun w3 (hb3 : Below W2.heap.size W2 w3) => times_c x (W.heap.size + 1) _ A cap l w3 (blk_below HA.out hb3) (Look.rows_below HR.out (HB.out.trans (hb3.mono HB.out.size))) hn hn0 (Kd.C_below HL.out (HB.out.trans (hb3.mono HB.out.size))) hll HIN.out HG.out)
    generalize timesOf x l = tt at *
    obtain ⟨tl0, lt⟩ := tt
    simp only at HT ⊢
    go_enter Try.func21, Try.ntmps21
    go_upto_region 2 with (fail)
    rw [HW.out]
    go_wp2_with fail
    refine HO.out.mono ?_
    rintro e w3 ⟨rfl, hb3⟩
    have HB3 := Lib.hid hb3
    clear hb3 HO
    go_wp2_with fail
    refine (HT.out _ HB3.out).mono ?_
    rintro e w4 ⟨v4, rfl, hR, hb4⟩
    have HE := Lib.hid (And.intro hR hb4)
    clear hR hb4 HT
    go_wp2
    go_ret2
    exact ⟨_, rfl, Kd.R_lower HE.out.1 (Nat.le_trans HB.out.size HB3.out.size), HB.out.trans ((HB3.out.mono HB.out.size).trans (HE.out.2.mono (Nat.le_trans HB.out.size HB3.out.size)))⟩
/- LOADS -/
set_option maxHeartbeats 8000000 in
set_option maxRecDepth 100000 in
theorem floads_c (x : Look) (A : Option Addr) (cap : Nat) (l : List Int) (W : World) (hr : x.rows W) (hn : x.ns.length ≤ 65536) (hl : Kd.C (Kd.int .i64) W A l.length l) (hll : l.length ≤ 1000000) :
    Calls Try.prog 24 #[x.val, .slice A l.length cap] W fun e w' => ∃ v', e = .returned v' ∧ Kd.R (Kd.int .i64) 3 w' W.heap.size (fun _ => True) v' (loadsOf x l) ∧ Below W.heap.size W w' := by
  have hat := looker_new x W hr
  have hbx := blk_alloc (heap_alloc_new W (.cells #[.string x.nm, .int .i64 x.kd, .int .i64 x.mt, .int .i64 x.sc, .int .i64 x.cp, .int .i64 x.fl, .slice x.A x.ns.length x.c, .slice x.B x.mx.length x.e] 25)) (.cells #[.string x.nm, .int .i64 x.kd, .int .i64 x.mt, .int .i64 x.sc, .int .i64 x.cp, .int .i64 x.fl, .slice x.A x.ns.length x.c, .slice x.B x.mx.length x.e, .slice none 0 0] 63)
  have hB := ((Below.refl W.heap.size W).alloc (Nat.le_refl _) (.cells #[.string x.nm, .int .i64 x.kd, .int .i64 x.mt, .int .i64 x.sc, .int .i64 x.cp, .int .i64 x.fl, .slice x.A x.ns.length x.c, .slice x.B x.mx.length x.e] 25)).alloc (by simp) (.cells #[.string x.nm, .int .i64 x.kd, .int .i64 x.mt, .int .i64 x.sc, .int .i64 x.cp, .int .i64 x.fl, .slice x.A x.ns.length x.c, .slice x.B x.mx.length x.e, .slice none 0 0] 63)
  generalize hW2 : (W.alloc (.cells #[.string x.nm, .int .i64 x.kd, .int .i64 x.mt, .int .i64 x.sc, .int .i64 x.cp, .int .i64 x.fl, .slice x.A x.ns.length x.c, .slice x.B x.mx.length x.e] 25)).alloc (.cells #[.string x.nm, .int .i64 x.kd, .int .i64 x.mt, .int .i64 x.sc, .int .i64 x.cp, .int .i64 x.fl, .slice x.A x.ns.length x.c, .slice x.B x.mx.length x.e, .slice none 0 0] 63) = W2 at *
  have HO := Lib.hid (odd_c x (W.heap.size + 1) _ A cap l W2 hat (Kd.C_below hl hB))
  have HW := Lib.hid hW2
  have HB := Lib.hid hB
  have HL := Lib.hid hl
  have HR := Lib.hid hr
  have HX := Lib.hid hbx
  unfold Look.val
  clear hW2 hat hB hl hr hbx
  cases ho : oddR x l with
  | true =>
    rw [show loadsOf x l = [] from if_pos ho]
    rw [ho] at HO
    clear ho
    go_enter Try.func24, Try.ntmps24
    go_upto_region 2 with (fail)
    rw [HW.out]
    go_wp2_with fail
    refine HO.out.mono ?_
    rintro e w3 ⟨rfl, hb3⟩
    have HB3 := Lib.hid hb3
    clear hb3 HO
    go_wp2
    go_ret
    exact ⟨_, rfl, Kd.R_nil .., HB.out.trans (HB3.out.mono HB.out.size)⟩
  | false =>
    have HS := Lib.hid (show loadsOf x l = sumsFrom x 0 l from if_neg (by rw [ho]; exact Bool.false_ne_true))
    rw [ho] at HO
    have HIN := Lib.hid (not_odd ho)
    clear ho
    go_enter Try.func24, Try.ntmps24
    go_upto_region 2 with (fail)
    rw [HW.out]
    go_wp2_with fail
    refine HO.out.mono ?_
    rintro e w3 ⟨rfl, hb3⟩
    have HBB := Lib.hid (HB.out.trans (hb3.mono HB.out.size))
    have HX3 := Lib.hid (blk_below HX.out hb3)
    have HZ3 := Lib.hid (Nat.le_trans HB.out.size hb3.size)
    clear hb3 HO HX
    go_upto_region 5 with (first | ((with_reducible refine gate_dst (N := 19) rfl ?_); refine Kd.R_make (Kd.int .i64) (w0 := w3) w3.heap.size 3 rfl (N := 19) rfl 23 _ _ rfl (l.length : Int) rfl rfl Try.underlying23 (.int .i64 0) 8 P.info3 rfl (by decide) (by omega) 0 (ok := fun _ => True) (okp := fun _ => True) rfl (fun _ hk => hk) trivial (by omega) (by rw [Int.toNat_natCast]; omega) (Below.refl _ _) (Nat.le_refl _) ?_; intro v6 w4 ho hb hg hat; rw [Int.toNat_natCast] at ho; have HO4 := Lib.hid ho; have HB4 := Lib.hid hb; clear ho hb hg hat))

    have HI0 := Aside0.mk (show Kd.R (Kd.int .i64) 3 w4 w3.heap.size (fun _ => True) v6 (sumsN x l 0) ∧ Below w3.heap.size w3 w4 from ⟨by unfold sumsN; rw [List.take_zero]; exact HO4.out, HB4.out⟩)
    clear HO4 HB4
    go_wp2
    go_loopw [7, 22] (fun v7 v22 wr => ∃ k : Nat, v7 = .int .i64 (sumTo x (l.take k)) ∧ v22 = .int .i64 k ∧ k ≤ l.length ∧ Aside0 (Kd.R (Kd.int .i64) 3 wr w3.heap.size (fun _ => True) v6 (sumsN x l k) ∧ Below w3.heap.size w3 wr)) (fun v7 v22 wr => l.length - (intOf v22).toNat)
    case atStart => exact ⟨0, rfl, rfl, Nat.zero_le _, HI0⟩
    case round =>
      obtain ⟨k, rfl, rfl, hk, HI⟩ := hrel
      by_cases hlt : k < l.length
      · have bt : decide ((k : Int) < (l.length : Int)) = true := decide_eq_true (by omega)
        obtain ⟨hR, hBk⟩ := HI.out
        obtain ⟨g, cp, hv6, hg1, hg2, -⟩ := Kd.R_form hR (by rw [sumsN_length x l hk]; omega)
        rw [sumsN_length x l hk] at hv6
        subst hv6
        obtain ⟨q1, q2⟩ := Kd.R_celln 0 hR (k : Int) (by omega) (by omega)
        rw [Int.toNat_natCast] at q1 q2
        obtain ⟨hs0, hs1⟩ := HIN.out l[k] (List.getElem_mem hlt)
        obtain ⟨s, hs⟩ : ∃ s : Nat, l[k] = (s : Int) := ⟨l[k].toNat, by omega⟩
        rw [hs] at hs1
        have hWk : Below W.heap.size W wr := HBB.out.trans (hBk.mono HZ3.out)
        obtain ⟨al, e1, cl⟩ := Kd.at_int (Kd.C_below HL.out hWk) (k : Int) (by omega) (by omega)
        cases e1
        rw [Int.toNat_natCast, show rd l (k : Int) = (s : Int) by unfold rd; rw [Int.toNat_natCast, List.getD_eq_getElem?_getD, List.getElem?_eq_getElem hlt]; exact hs] at cl
        obtain ⟨ad, e2, c0, c1, c2, c3, c4, c5, c6⟩ := at_T32 (Kd.C_below HR.out.1 hWk) (s : Int) (by omega) (by omega)
        rw [Int.toNat_natCast] at c2
        have hbx := blk_below HX3.out hBk
        rw [e2] at hbx
        obtain ⟨k0, k1, k2, k3, k4, k5, k6, k7, f0, f1, f2, f3, f4, f5, f6, f7⟩ := blk8_ hbx
        have hst := sumTo_step x l hlt
        rw [hs] at hst
        have HST := Lib.hid (sumsN_step x l hlt)
        generalize hq1 : sumTo x (l.take (k + 1)) = s1 at *
        have HQ1 := Lib.hid hq1
        clear hq1
        generalize sumTo x (l.take k) = s0 at *
        generalize (rd_T32 x.ns (s : Int)).f2 = dm at *
        have hsw := wrap_i _ _ hst.symm
        have p1 : (0 : Int) ≤ (k : Int) ∧ (k : Int) < (l.length : Int) := by omega
        have p2 : (0 : Int) ≤ (s : Int) ∧ (s : Int) < (x.ns.length : Int) := by omega
        have HRk := Lib.hid hR
        have HBk := Lib.hid hBk
        have HG := Lib.hid hg1
        clear k0 k1 k2 k3 k4 k5 k7 f0 f1 f2 f3 f4 f5 f6 f7 c0 c1 c3 c4 c5 c6 hbx hst hR hBk hWk hs hs0 hs1 HI hg1 hg2 HI0
        go_wp2
        go_roundw
        case rel =>
          refine ⟨k + 1, ?_, by go_num, by omega, ⟨?_, HBk.out.setCell (p := ⟨g, k, none⟩) HG.out _⟩⟩
          · rw [HQ1.out]
          · have h := Kd.R_putn HRk.out (k : Int) s1
            rw [Int.toNat_natCast, HST.out] at h
            exact h
        case measure => simp [intOf]; omega
      · have bt : decide ((k : Int) < (l.length : Int)) = false := decide_eq_false (by omega)
        obtain rfl : k = l.length := by omega
        have HE := Lib.hid HI.out
        clear HI
        go_wp2
        go_ret
        have hR := HE.out.1
        unfold sumsN at hR
        rw [List.take_length, Nat.sub_self, List.replicate_zero, List.append_nil, ← HS.out] at hR
        exact ⟨_, rfl, Kd.R_lower hR HZ3.out, HBB.out.trans (HE.out.2.mono HZ3.out)⟩
end FeasWalk
end Go.Proofs.Ytlncbckpcmojpaa
set_option linter.unusedVariables false
set_option linter.unusedSimpArgs false
namespace Go.Proofs.Ytlncbckpcmojpaa
open Go.RowKit Go.Proofs.YtlncbckpcmojpaaW.PrintWords Go.Proofs.YtlncbckpcmojpaaW.PrintLast Go.Proofs.YtlncbckpcmojpaaW.PrintMore
namespace FeasWalk
open P
abbrev Wrong := S37
theorem info_wrong : (Try.prog.info? 37).map (fun i => (i.zero, i.size, i.bytes)) = some (some (.agg #[.int .i64 0, .int .i64 0, .int .i64 0]), 3, 24) := by kernel_rfl
/-- The looker and what it has found; all that is older lies as it lay. -/
def St (x : Look) (w0 : World) (G : Nat) (xs : List Wrong) (W : World) : Prop :=
  w0.heap.size ≤ G ∧ ∃ v, x.at W G v ∧ Kd.R k37 37 W w0.heap.size (fun _ => True) v xs ∧ Below w0.heap.size w0 W
theorem St.lt {x : Look} {w0 : World} {G : Nat} {xs : List Wrong} {W : World} (h : St x w0 G xs W) : G < W.heap.size := by
  obtain ⟨_, v, h1, _⟩ := h; exact blk_lt h1
theorem St.old {x : Look} {w0 : World} {G : Nat} {xs : List Wrong} {W : World} (h : St x w0 G xs W) : Below w0.heap.size w0 W := by
  obtain ⟨_, v, _, _, h1⟩ := h; exact h1
theorem St.below {x : Look} {w0 : World} {G : Nat} {xs : List Wrong} {W w' : World} (h : St x w0 G xs W) (hb : Below W.heap.size W w') : St x w0 G xs w' := by
  obtain ⟨hg, v, h1, h2, h3⟩ := h
  exact ⟨hg, v, blk_below h1 hb, Kd.R_below h2 hb, h3.trans (hb.mono h3.size)⟩
/-- What a note leaves as it was. -/
def Rest (G : Nat) (W w' : World) : Prop := W.heap.size ≤ w'.heap.size ∧ ∀ (k : Nat) (cs : Array Value) (T : TypeId), W.heap[k]? = some (.cells cs T (0, 0)) → k ≠ G → T ≠ 37 → w'.heap[k]? = some (.cells cs T (0, 0))
theorem Rest.below {G : Nat} {W w' : World} (h : Below W.heap.size W w') : Rest G W w' := ⟨h.size, fun k cs T hk _ _ => blk_below hk h⟩
theorem Rest.trans {G : Nat} {a b c : World} (h : Rest G a b) (k : Rest G b c) : Rest G a c := ⟨Nat.le_trans h.1 k.1, fun i cs T hi h1 h2 => k.2 i cs T (h.2 i cs T hi h1 h2) h1 h2⟩
theorem Rest.refl (G : Nat) (W : World) : Rest G W W := ⟨Nat.le_refl _, fun _ _ _ h _ _ => h⟩
set_option maxHeartbeats 8000000 in
set_option maxRecDepth 100000 in
theorem note_c (x : Look) (w0 : World) (G : Nat) (xs : List Wrong) (cd rt nd : Int) (W : World) (hlen : xs.length ≤ 1000000) (h : St x w0 G xs W) :
    Calls Try.prog 50 #[.pointer (some ⟨G, 0, none⟩), .int .i64 cd, .int .i64 rt, .int .i64 nd] W fun e w' => (∃ u, e = .returned u) ∧ St x w0 G (xs ++ [⟨cd, rt, nd⟩]) w' ∧ Rest G W w' := by
  obtain ⟨hg, v, hK, hR, hB⟩ := h
  have HG := Lib.hid hg
  have HK := Lib.hid hK
  have HR := Lib.hid hR
  have HB := Lib.hid hB
  unfold Look.at at hK
  obtain ⟨k0, k1, k2, k3, k4, k5, k6, k7, k8, f0, f1, f2, f3, f4, f5, f6, f7, f8⟩ := blk9_ hK
  clear k0 k1 k2 k3 k4 k5 k6 k7 f0 f1 f2 f3 f4 f5 f6 f7 f8 hK hR hB hg
  go_enter Try.func50, Try.ntmps50
  go_wp2_with (first | ((with_reducible refine gate_builtin (b := .append) (xs := #[.tmp 12, .tmp 17]) rfl ?_); at_builtin; refine Kd.R_append k37 (w0 := w0) w0.heap.size rfl (.tmp 12) (.tmp 17) 34 37 (.agg #[.int .i64 0, .int .i64 0, .int .i64 0]) 24 rfl Try.underlying34 info_wrong rfl (by decide) (by omega) v xs (⟨cd, rt, nd⟩ : Wrong) [.int .i64 cd, .int .i64 rt, .int .i64 nd] (fun _ => True) (fun _ => False) rfl rfl ?aP (fun _ hk => hk.elim) ?aF ?aO ?aB ?aS ?aL ?_; (case aP => exact k37_mkM _ _ _ (⟨cd, rt, nd⟩ : Wrong)); (case aF => exact (fun _ _ => trivial)); (case aO => exact HR.out); (case aB => exact HB.out); (case aS => exact HB.out.size); (case aL => omega); intro v1 w1 ho hb hg hat; obtain ⟨A1, c1, e1⟩ := Kd.R_slice ho; obtain ⟨n1, hn1⟩ : ∃ n1, (xs ++ [(⟨cd, rt, nd⟩ : Wrong)]).length = n1 := ⟨_, rfl⟩; rw [hn1] at e1; clear hn1; subst e1; have HO1 := Lib.hid ho; have HB1 := Lib.hid hb; have HK1 := Lib.hid (blk_grown HK.out hg (Kd.R_ne HR.out HK.out (by decide))); have HG1 := Lib.hid hg; obtain ⟨x0, x1, x2, x3, x4, x5, x6, x7, c8, y0, y1, y2, y3, y4, y5, y6, y7, f8⟩ := blk9_ HK1.out; clear x0 x1 x2 x3 x4 x5 x6 x7 y0 y1 y2 y3 y4 y5 y6 y7 ho hb hg hat))
  go_end0
  refine ⟨⟨_, rfl⟩, ⟨HG.out, .slice A1 n1 c1, blk_put HK1.out 8 _ rfl, Kd.R_mono (Kd.R_far (p := ⟨G, 8, none⟩) (Kd.R_types HO1.out HK1.out (by decide)) (fun _ hk => hk.2) _) (fun _ _ => trivial), HB1.out.setCell (p := ⟨G, 8, none⟩) HG.out _⟩, ?_, fun k cs T hk hne hT => ?_⟩
  · have := HG1.out.size
    simpa [World.setCell] using this
  · exact blk_far (p := ⟨G, 8, none⟩) (blk_grown hk HG1.out (Kd.R_ne HR.out hk hT.symm)) hne _
/-- The state, and that all else lies as it lay. -/
def SR (x : Look) (w0 : World) (G : Nat) (V : World) (xs : List Wrong) (W : World) : Prop := St x w0 G xs W ∧ Rest G V W
theorem SR.old {x : Look} {w0 V : World} {G : Nat} {xs : List Wrong} {W : World} (h : SR x w0 G V xs W) : Below w0.heap.size w0 W := h.1.old
theorem SR.below {x : Look} {w0 V : World} {G : Nat} {xs : List Wrong} {W w' : World} (h : SR x w0 G V xs W) (hb : Below W.heap.size W w') : SR x w0 G V xs w' := ⟨h.1.below hb, h.2.trans (Rest.below hb)⟩
theorem note_s (x : Look) (w0 V : World) (G : Nat) (xs : List Wrong) (cd rt nd : Int) (W : World) (hlen : xs.length ≤ 1000000) (h : SR x w0 G V xs W) :
    Calls Try.prog 50 #[.pointer (some ⟨G, 0, none⟩), .int .i64 cd, .int .i64 rt, .int .i64 nd] W fun e w' => (∃ u, e = .returned u) ∧ SR x w0 G V (xs ++ [⟨cd, rt, nd⟩]) w' ∧ Rest G W w' :=
  (note_c x w0 G xs cd rt nd W hlen h.1).mono fun e w' ⟨h1, h2, h3⟩ => ⟨h1, ⟨h2, h.2.trans h3⟩, h3⟩
/- KNOWN -/
/-- Is a stop no customer? -/
def badB (x : Look) (s : Int) : Bool := oddB x.ns.length s || decide (s < least x.kd)
def badTo (x : Look) (i : Nat) (r : List Int) : List Wrong := (r.filter (badB x)).map fun s => ⟨1, (i : Int), s⟩
def badAll (x : Look) (rs : List (List Int)) (k : Nat) : List Wrong := (List.range k).flatMap fun i => badTo x i (rd_L1 rs (i : Int))
/-- A plan whose routes and stops are few. -/
def Few (rs : List (List Int)) : Prop := rs.length ≤ 300 ∧ ∀ k : Nat, k < rs.length → (rd_L1 rs (k : Int)).length ≤ 300
theorem badTo_le (x : Look) (i : Nat) (r : List Int) : (badTo x i r).length ≤ r.length := by unfold badTo; rw [List.length_map]; exact List.length_filter_le _ _
theorem badAll_succ (x : Look) (rs : List (List Int)) (k : Nat) : badAll x rs (k + 1) = badAll x rs k ++ badTo x k (rd_L1 rs (k : Int)) := by unfold badAll; rw [List.range_succ, List.flatMap_append, List.flatMap_singleton]
theorem badAll_le (x : Look) {rs : List (List Int)} (h : Few rs) : ∀ k, k ≤ rs.length → (badAll x rs k).length ≤ 300 * k
  | 0, _ => by simp [badAll]
  | k + 1, hk => by
    rw [badAll_succ, List.length_append]
    have h1 := badAll_le x h k (by omega)
    have h2 := badTo_le x k (rd_L1 rs (k : Int))
    have h3 := h.2 k (by omega)
    omega
theorem badTo_step (x : Look) (i : Nat) (r : List Int) {j : Nat} (h : j < r.length) : badTo x i (r.take (j + 1)) = badTo x i (r.take j) ++ (if badB x r[j] = true then [⟨1, (i : Int), r[j]⟩] else []) := by
  unfold badTo
  rw [List.take_succ_eq_append_getElem h, List.filter_append, List.map_append]
  congr 1
  cases hb : badB x r[j] <;> simp [hb]
set_option maxHeartbeats 8000000 in
set_option maxRecDepth 100000 in
theorem known_c (x : Look) (w0 : World) (G : Nat) (A : Option Addr) (cap : Nat) (rs : List (List Int)) (W : World) (h : St x w0 G [] W) (hn : x.ns.length ≤ 65536) (hC : Kd.C (Kd.slice 3 (Kd.int .i64)) w0 A rs.length rs) (hf : Few rs) :
    Calls Try.prog 29 #[.pointer (some ⟨G, 0, none⟩), .agg #[.slice A rs.length cap]] W fun e w' => e = .returned (.bool (decide (badAll x rs rs.length = []))) ∧ SR x w0 G W (badAll x rs rs.length) w' := by
  have HC := Lib.hid hC
  have HF := Lib.hid hf
  have h1 : SR x w0 G W (badAll x rs 0) (W.alloc (.cells #[.slice A rs.length cap] 30)) := ⟨h.below ((Below.refl _ W).alloc (Nat.le_refl _) _), Rest.below ((Below.refl _ W).alloc (Nat.le_refl _) _)⟩
  have hbP := heap_alloc_new W (.cells #[.slice A rs.length cap] 30)
  have hlt := h.lt
  generalize hW1 : W.alloc (.cells #[.slice A rs.length cap] 30) = W1 at *
  obtain ⟨Bp, hBp⟩ : ∃ Bp, W.heap.size = Bp := ⟨_, rfl⟩
  rw [hBp] at hbP hlt
  have HW := Lib.hid hW1
  have HK := Lib.hid hBp
  have H1 := Aside0.mk (And.intro h1 hbP)
  have HLT := Lib.hid hlt
  obtain ⟨p0, -⟩ := blk1_ hbP
  clear hW1 hBp h1 hlt h hC hf hbP
  go_enter Try.func29, Try.ntmps29
  go_upto_region 1 with (fail)
  rw [HW.out, HK.out]
  go_wp2
  go_loopw [12] (fun v12 wr => ∃ k : Nat, v12 = .int .i64 k ∧ k ≤ rs.length ∧ Aside0 (SR x w0 G W (badAll x rs k) wr ∧ wr.heap[Bp]? = some (.cells #[.slice A rs.length cap] 30 (0, 0)))) (fun v12 wr => rs.length - (intOf v12).toNat)
  case atStart => exact ⟨0, rfl, Nat.zero_le _, H1⟩
  case round =>
    obtain ⟨k, rfl, hk, HI⟩ := hrel
    have hrs := HF.out.1
    by_cases hlt : k < rs.length
    · have bt : decide ((k : Int) < (rs.length : Int)) = true := decide_eq_true (by omega)
      obtain ⟨ad, A', c', e1, hx, hl, hCi⟩ := at_L1 HC.out (k : Int) (by omega) (by omega)
      have hx := old_cell HI.out.1.old hx
      cases e1
      rw [Int.toNat_natCast] at hx
      have hfk := HF.out.2 k hlt
      have HE := Lib.hid (badAll_succ x rs k)
      have HLe := Lib.hid (badAll_le x HF.out k hk)
      have HFl := Lib.hid HF.out.1
      generalize rd_L1 rs (k : Int) = r at *
      have HCi := Lib.hid hCi
      have HI0 := Aside0.mk (show SR x w0 G W (badAll x rs k ++ badTo x k (r.take 0)) wr ∧ wr.heap[Bp]? = some (.cells #[.slice (some ad) rs.length cap] 30 (0, 0)) from ⟨by simpa [badTo] using HI.out.1, HI.out.2⟩)
      have p1 : (0 : Int) ≤ (k : Int) ∧ (k : Int) < (rs.length : Int) := by omega
      clear hCi H1 p0 HI hl
      go_wp2
      go_loopw [19] (fun v19 wq => ∃ j : Nat, v19 = .int .i64 j ∧ j ≤ r.length ∧ Aside0 (SR x w0 G W (badAll x rs k ++ badTo x k (r.take j)) wq ∧ wq.heap[Bp]? = some (.cells #[.slice (some ad) rs.length cap] 30 (0, 0)))) (fun v19 wq => r.length - (intOf v19).toNat)
      case atStart => exact ⟨0, rfl, Nat.zero_le _, HI0⟩
      case round =>
        obtain ⟨j, rfl, hj, HJ⟩ := hrel
        by_cases hjl : j < r.length
        · have bt2 : decide ((j : Int) < (r.length : Int)) = true := decide_eq_true (by omega)
          obtain ⟨al, e1, cl⟩ := Kd.at_int (Kd.C_below HCi.out HJ.out.1.old) (j : Int) (by omega) (by omega)
          cases e1
          have HSt := Lib.hid (badTo_step x k r hjl)
          rw [Int.toNat_natCast, show rd r (j : Int) = r[j] by unfold rd; rw [Int.toNat_natCast, List.getD_eq_getElem?_getD, List.getElem?_eq_getElem hjl]; rfl] at cl
          generalize r[j] = sp at *
          have hlen : (badAll x rs k ++ badTo x k (r.take j)).length ≤ 1000000 := by
            rw [List.length_append]
            have h1 := badTo_le x k (r.take j)
            rw [List.length_take] at h1
            have h2 := HLe.out
            have h3 := HFl.out
            omega
          have p2 : (0 : Int) ≤ (j : Int) ∧ (j : Int) < (r.length : Int) := by omega
          obtain ⟨vv, hKv⟩ : ∃ v, x.at wr G v := by obtain ⟨_, v, h1, _⟩ := HJ.out.1.1; exact ⟨v, h1⟩
          have HKv := Lib.hid hKv
          clear hKv HI0 hx
          cases hb1 : oddB x.ns.length sp with
          | true =>
            have HS := Lib.hid (strange_c x G vv sp wr HKv.out)
            rw [hb1] at HS
            have HB := Lib.hid (show badB x sp = true by unfold badB; rw [hb1]; rfl)
            clear hb1
            go_wp2_with fail
            refine HS.out.mono ?_
            rintro e w2 ⟨rfl, hb2⟩
            have HN := Lib.hid (note_s x w0 W G _ 1 (k : Int) sp w2 hlen (HJ.out.1.below hb2))
            have HBx := Lib.hid (blk_below HJ.out.2 hb2)
            have HGB := Lib.hid (show Bp ≠ G by have := HLT.out; omega)
            clear hb2 HS
            go_wp2_with fail
            refine HN.out.mono ?_
            rintro e w3 ⟨⟨u, rfl⟩, hst, hre⟩
            have HR3 := Lib.hid (And.intro hst (hre.2 _ _ _ HBx.out HGB.out (by decide)))
            clear hst hre HN
            go_wp2
            go_roundw
            case rel => exact ⟨j + 1, by go_num, by omega, ⟨by rw [HSt.out, if_pos HB.out, ← List.append_assoc]; exact HR3.out.1, HR3.out.2⟩⟩
            case measure => simp [intOf]; omega
          | false =>
            have HS := Lib.hid (strange_c x G vv sp wr HKv.out)
            rw [hb1] at HS
            have HB := Lib.hid (show badB x sp = decide (sp < least x.kd) by unfold badB; rw [hb1]; rfl)
            clear hb1
            go_wp2_with fail
            refine HS.out.mono ?_
            rintro e w2 ⟨rfl, hb2⟩
            have HF2 := Lib.hid (first_c x G vv w2 (blk_below HKv.out hb2))
            have HJ2 := Lib.hid (And.intro (HJ.out.1.below hb2) (blk_below HJ.out.2 hb2))
            clear hb2 HS
            generalize least x.kd = ls at *
            go_wp2_with fail
            refine HF2.out.mono ?_
            rintro e w3 ⟨rfl, hb3⟩
            have HJ3 := Lib.hid (And.intro (HJ2.out.1.below hb3) (blk_below HJ2.out.2 hb3))
            clear hb3 HF2 HJ2
            by_cases hlt2 : sp < ls
            · have b2 : decide (sp < ls) = true := decide_eq_true hlt2
              have HB2 := Lib.hid (HB.out.trans b2)
              have HN := Lib.hid (note_s x w0 W G _ 1 (k : Int) sp w3 hlen HJ3.out.1)
              have HGB := Lib.hid (show Bp ≠ G by have := HLT.out; omega)
              clear hlt2
              go_wp2_with fail
              refine HN.out.mono ?_
              rintro e w4 ⟨⟨u, rfl⟩, hst, hre⟩
              have HR3 := Lib.hid (And.intro hst (hre.2 _ _ _ HJ3.out.2 HGB.out (by decide)))
              clear hst hre HN
              go_wp2
              go_roundw
              case rel => exact ⟨j + 1, by go_num, by omega, ⟨by rw [HSt.out, if_pos HB2.out, ← List.append_assoc]; exact HR3.out.1, HR3.out.2⟩⟩
              case measure => simp [intOf]; omega
            · have b2 : decide (sp < ls) = false := decide_eq_false hlt2
              have HB2 := Lib.hid (HB.out.trans b2)
              clear hlt2
              go_wp2
              go_roundw
              case rel => exact ⟨j + 1, by go_num, by omega, ⟨by rw [HSt.out, if_neg (by rw [HB2.out]; exact Bool.false_ne_true), List.append_nil]; exact HJ3.out.1, HJ3.out.2⟩⟩
              case measure => simp [intOf]; omega
        · have bt2 : decide ((j : Int) < (r.length : Int)) = false := decide_eq_false (by omega)
          obtain rfl : j = r.length := by omega
          have HR3 := Lib.hid (show SR x w0 G W (badAll x rs (k + 1)) wr ∧ _ from ⟨by rw [HE.out]; have h := HJ.out.1; rw [List.take_length] at h; exact h, HJ.out.2⟩)
          clear HJ HI0 hx
          go_wp2
          go_roundw
          case rel => exact ⟨k + 1, by go_num, by omega, ⟨HR3.out⟩⟩
          case measure => simp [intOf]; omega
    · have bt : decide ((k : Int) < (rs.length : Int)) = false := decide_eq_false (by omega)
      obtain rfl : k = rs.length := by omega
      obtain ⟨hg, v, hK, hR, hB⟩ := HI.out.1.1
      obtain ⟨A1, c1, e1⟩ := Kd.R_slice hR
      subst e1
      have HS := Lib.hid HI.out.1
      unfold Look.at at hK
      obtain ⟨k0, k1, k2, k3, k4, k5, k6, k7, k8, f0, f1, f2, f3, f4, f5, f6, f7, f8⟩ := blk9_ hK
      clear k0 k1 k2 k3 k4 k5 k6 k7 f0 f1 f2 f3 f4 f5 f6 f7 f8 hK hR hB hg HI
      have HQ := Lib.hid (show ((badAll x rs rs.length).length == 0) = decide (badAll x rs rs.length = []) by
        cases badAll x rs rs.length with
        | nil => rfl
        | cons a l => rfl)
      have HQ2 := Lib.hid (show (((badAll x rs rs.length).length : Int) == 0) = decide (badAll x rs rs.length = []) by
        cases badAll x rs rs.length with
        | nil => rfl
        | cons a l => simp; omega)
      go_wp2
      go_ret
      exact ⟨ret_bool HQ2.out, HS.out⟩
end FeasWalk
end Go.Proofs.Ytlncbckpcmojpaa
set_option linter.unusedVariables false
set_option linter.unusedSimpArgs false
namespace Go.Proofs.Ytlncbckpcmojpaa
open Go.RowKit Go.Proofs.YtlncbckpcmojpaaW.PrintWords Go.Proofs.YtlncbckpcmojpaaW.PrintLast Go.Proofs.YtlncbckpcmojpaaW.PrintMore
namespace FeasWalk
open P StopsWalk
/-- What a count tells of a customer. -/
def covB (x : Look) (cs : List Int) (k : Nat) : List Wrong := if (k : Int) < least x.kd then [] else if cs.getD k 0 > 1 then [⟨2, 0, k⟩] else if cs.getD k 0 = 0 then [⟨3, 0, k⟩] else []
def covAll (x : Look) (cs : List Int) (k : Nat) : List Wrong := (List.range k).flatMap (covB x cs)
theorem covAll_succ (x : Look) (cs : List Int) (k : Nat) : covAll x cs (k + 1) = covAll x cs k ++ covB x cs k := by unfold covAll; rw [List.range_succ, List.flatMap_append, List.flatMap_singleton]
theorem covB_le (x : Look) (cs : List Int) (k : Nat) : (covB x cs k).length ≤ 1 := by unfold covB; split; · simp
                                                                                      split; · simp
                                                                                      split <;> simp
theorem covAll_le (x : Look) (cs : List Int) : ∀ k, (covAll x cs k).length ≤ k
  | 0 => by simp [covAll]
  | k + 1 => by
    rw [covAll_succ, List.length_append]
    have h1 := covAll_le x cs k
    have h2 := covB_le x cs k
    omega
theorem few_small {rs : List (List Int)} (h : Few rs) : Small rs := ⟨Nat.le_trans h.1 (by decide), fun i hi => Nat.le_trans (h.2 i hi) (by decide)⟩
theorem rowed_rest {G g : Nat} {cs : List Int} {W w' : World} (h : Rowed W g cs) (hr : Rest G W w') (hne : g ≠ G) : Rowed w' g cs := hr.2 _ _ _ h hne (by decide)
theorem rowed_below {g : Nat} {cs : List Int} {W w' : World} (h : Rowed W g cs) (hb : Below W.heap.size W w') : Rowed w' g cs := blk_below h hb
set_option maxHeartbeats 8000000 in
set_option maxRecDepth 100000 in
theorem covered_c (x : Look) (w0 V : World) (G : Nat) (xs : List Wrong) (A : Option Addr) (cap : Nat) (rs : List (List Int)) (W : World) (h : SR x w0 G V xs W) (hxs : xs.length ≤ 500000) (hn1 : 1 ≤ x.ns.length) (hn : x.ns.length ≤ 400) (hC : Kd.C (Kd.slice 3 (Kd.int .i64)) w0 A rs.length rs) (hf : Few rs) :
    Calls Try.prog 30 #[.pointer (some ⟨G, 0, none⟩), .agg #[.slice A rs.length cap]] W fun e w' => (∃ u, e = .returned u) ∧ SR x w0 G V (xs ++ covAll x (counts x.ns.length (stopsOf rs)) x.ns.length) w' := by
  have h1 : SR x w0 G V xs (W.alloc (.cells #[.slice A rs.length cap] 30)) := h.below ((Below.refl _ W).alloc (Nat.le_refl _) _)
  have hbP := heap_alloc_new W (.cells #[.slice A rs.length cap] 30)
  have hlt := h.1.lt
  generalize hW1 : W.alloc (.cells #[.slice A rs.length cap] 30) = W1 at *
  obtain ⟨Bp, hBp⟩ : ∃ Bp, W.heap.size = Bp := ⟨_, rfl⟩
  rw [hBp] at hbP hlt
  have HLs := Lib.hid (counts_length x.ns.length (stopsOf rs))
  have HL := Lib.hid (show ∀ w', Below W1.heap.size W1 w' → _ from fun w' hb => callsIn_wide.1 (count_in A cap rs x.ns.length w' (few_small hf) (Kd.C_below hC (h1.below hb).old) hn1 hn))
  generalize counts x.ns.length (stopsOf rs) = cs at *
  obtain ⟨v, hK⟩ : ∃ v, x.at W1 G v := by obtain ⟨_, v, h1, _⟩ := h1.1; exact ⟨v, h1⟩
  unfold Look.at at hK
  obtain ⟨k0, k1, k2, k3, k4, k5, k6, k7, k8, f0, f1, f2, f3, f4, f5, f6, f7, f8⟩ := blk9_ hK
  clear k0 k1 k2 k3 k4 k5 k7 k8 f0 f1 f2 f3 f4 f5 f6 f7 f8 hK
  have HGB := Lib.hid (show G < W1.heap.size from h1.1.lt)
  obtain ⟨n, hnn⟩ : ∃ n, x.ns.length = n := ⟨_, rfl⟩
  obtain ⟨NA, hNA⟩ : ∃ NA, x.A = NA := ⟨_, rfl⟩
  obtain ⟨nc, hnc⟩ : ∃ nc, x.c = nc := ⟨_, rfl⟩
  rw [hnn] at hn hn1 HL HLs k6 ⊢
  rw [hNA, hnc] at k6
  have HS := Lib.hid (show ∀ w', Below W1.heap.size W1 w' → (w'.cell? ⟨Bp, 0, none⟩ = some (.slice A rs.length cap) ∧ w'.cell? ⟨G, 6, none⟩ = some (.slice NA n nc) ∧ Below W1.heap.size W1 w') from
    fun w' hb => ⟨old_cell hb (blk1_ hbP).1, old_cell hb k6, hb⟩)
  have HW := Lib.hid hW1
  have HK := Lib.hid hBp
  have H1 := Lib.hid h1
  have HLT := Lib.hid hlt
  clear hW1 hBp h1 hlt h hC hf hbP k6 hnn hNA hnc
  go_enter Try.func30, Try.ntmps30
  go_upto_region 1 with (fail)
  rw [HW.out, HK.out]
  -- REGION
  refine start_ (n := 10) (S := fun w' => w'.cell? ⟨Bp, 0, none⟩ = some (.slice A rs.length cap) ∧ w'.cell? ⟨G, 6, none⟩ = some (.slice NA n nc) ∧ Below W1.heap.size W1 w') (ds := []) #[false, false, false, false, false, false, false, false, false, false] (by kernel_rfl) rfl rfl (HS.out _ (below_drew1 (Below.refl _ _))) (fun hHeld => ?_)
  refine pure_ (i := 1) (N := some 7) (v := ?_) (a' := ?_) #[false, true, false, false, false, false, false, false, false, false] rfl rfl (by kernel_rfl) (fun _ _ _ h => h) (Or.inl ⟨by rfl, ?_⟩) ?_ ?_
  rotate_left
  · intro w'
    go_simp
    with_reducible rfl
  rotate_left
  · simp only [Act.put, List.setIfInBounds_toArray, List.set_cons_zero, List.set_cons_succ, i64_w, i32_w]
    rfl
  refine pure_ (i := 2) (N := some 8) (v := ?_) (a' := ?_) #[false, true, true, false, false, false, false, false, false, false] rfl rfl (by kernel_rfl) (fun _ _ _ h => h) (Or.inl ⟨by rfl, ?_⟩) ?_ ?_
  rotate_left
  · intro w'
    go_simp
    with_reducible rfl
  rotate_left
  · simp only [Act.put, List.setIfInBounds_toArray, List.set_cons_zero, List.set_cons_succ, i64_w, i32_w]
    rfl
  refine pure_ (i := 3) (N := some 9) (v := ?_) (a' := ?_) #[false, true, true, true, false, false, false, false, false, false] rfl rfl (by kernel_rfl) (fun _ _ _ h => h) (Or.inl ⟨by rfl, ?_⟩) ?_ ?_
  rotate_left
  · intro w'
    go_simp
    with_reducible rfl
  rotate_left
  · simp only [Act.put, List.setIfInBounds_toArray, List.set_cons_zero, List.set_cons_succ, i64_w, i32_w]
    rfl
  refine pure_ (i := 4) (N := some 10) (v := ?_) (a' := ?_) #[false, true, true, true, true, false, false, false, false, false] rfl rfl (by kernel_rfl) (fun _ _ _ h => h) (Or.inl ⟨by rfl, ?_⟩) ?_ ?_
  rotate_left
  · intro w'
    go_simp
    with_reducible rfl
  rotate_left
  · simp only [Act.put, List.setIfInBounds_toArray, List.set_cons_zero, List.set_cons_succ, i64_w, i32_w]
    rfl
  refine pure_ (i := 9) (N := some 15) (v := ?_) (a' := ?_) #[false, true, true, true, true, false, false, false, false, true] rfl rfl (by kernel_rfl) (fun _ _ _ h => h) (Or.inl ⟨by rfl, ?_⟩) ?_ ?_
  rotate_left
  · intro w'
    go_simp
    with_reducible rfl
  rotate_left
  · simp only [Act.put, List.setIfInBounds_toArray, List.set_cons_zero, List.set_cons_succ, i64_w, i32_w]
    rfl
  refine take_ (i := 0) (N := some 6) (v := ?_) (a' := ?_) #[true, true, true, true, true, false, false, false, false, true] rfl rfl (by kernel_rfl) (fun _ _ _ h => h) (Or.inl ⟨by rfl, ?_⟩) hHeld ?_ ?_
  rotate_left
  · rintro w' ⟨s0, s1, s2⟩
    go_simp
    with_reducible rfl
  rotate_left
  · simp only [Act.put, List.setIfInBounds_toArray, List.set_cons_zero, List.set_cons_succ, i64_w, i32_w]
    rfl
  refine take_ (i := 5) (N := some 11) (v := ?_) (a' := ?_) #[true, true, true, true, true, true, false, false, false, true] rfl rfl (by kernel_rfl) (fun _ _ _ h => h) (Or.inl ⟨by rfl, ?_⟩) hHeld ?_ ?_
  rotate_left
  · rintro w' ⟨s0, s1, s2⟩
    go_simp
    with_reducible rfl
  rotate_left
  · simp only [Act.put, List.setIfInBounds_toArray, List.set_cons_zero, List.set_cons_succ, i64_w, i32_w]
    rfl
  refine pure_ (i := 6) (N := some 12) (v := ?_) (a' := ?_) #[true, true, true, true, true, true, true, false, false, true] rfl rfl (by kernel_rfl) (fun _ _ _ h => h) (Or.inl ⟨by rfl, ?_⟩) ?_ ?_
  rotate_left
  · intro w'
    go_simp
    with_reducible rfl
  rotate_left
  · simp only [Act.put, List.setIfInBounds_toArray, List.set_cons_zero, List.set_cons_succ, i64_w, i32_w]
    rfl
  refine one_ (i := 7) (N := some 13) #[true, true, true, true, true, true, true, true, false, true] rfl rfl (by kernel_rfl) (by decide) (fun K hK => ?_)
  have hbl := hHeld.2.2
  refine goes_ Try.func51 (by kernel_rfl) rfl #[.agg #[.slice A rs.length cap], .int .i64 ((n : Nat) : Int)] (by rfl) rfl rfl (by simp only [List.map_toArray, List.map_cons, List.map_nil]; rfl) ?_
  with_reducible refine (HL.out _ hbl).mono ?_
  rintro e w3 ⟨g, rfl, hg, hrow, hb⟩
  refine ⟨_, rfl, ?_⟩
  have hgW := Nat.le_trans hbl.size hg
  have HG3 := Lib.hid hgW
  have HROW := Lib.hid hrow
  have hb3 := hbl.trans (hb.mono hbl.size)
  clear hb hbl hg hrow hgW
  refine hK.out _ _ (HS.out _ hb3) (fun hHeld => ?_)
  clear hK K
  refine norm_ (a' := ?_) ?_ ?_
  rotate_left
  · show Act.put _ (some 13) _ = _
    simp only [Act.put, List.setIfInBounds_toArray, List.set_cons_zero, List.set_cons_succ, i64_w, i32_w]
    rfl
  refine pure_ (i := 8) (N := some 14) (v := ?_) (a' := ?_) #[true, true, true, true, true, true, true, true, true, true] rfl rfl (by kernel_rfl) (fun _ _ _ h => h) (Or.inl ⟨by rfl, ?_⟩) ?_ ?_
  rotate_left
  · intro w'
    go_simp
    with_reducible rfl
  rotate_left
  · simp only [Act.put, List.setIfInBounds_toArray, List.set_cons_zero, List.set_cons_succ, i64_w, i32_w]
    rfl
  refine done_ (by kernel_rfl) ?_
  -- BEHIND
  have HX := Lib.hid (H1.out.below hHeld.2.2)
  have HNG := Lib.hid (show g ≠ G by have h1 := HG3.out; have h2 := HGB.out; omega)
  have HI0 := Aside0.mk (show SR x w0 G V (xs ++ covAll x cs 0) w3 ∧ Rowed w3 g cs from ⟨by simpa [covAll] using HX.out, HROW.out⟩)
  have HLc := HLs.out
  clear hHeld HX HROW HS HL H1 HW HK HLT HGB HG3
  go_wp2
  go_loopw [15] (fun v15 wr => ∃ k : Nat, v15 = .int .i64 k ∧ k ≤ n ∧ Aside0 (SR x w0 G V (xs ++ covAll x cs k) wr ∧ Rowed wr g cs)) (fun v15 wr => n - (intOf v15).toNat)
  case atStart => exact ⟨0, rfl, Nat.zero_le _, HI0⟩
  case round =>
    obtain ⟨k, rfl, hk, HI⟩ := hrel
    by_cases hlt : k < n
    · have bt : decide ((k : Int) < (n : Int)) = true := decide_eq_true (by omega)
      have c1 := HI.out.2.cell (j := k) (by omega)
      have HE := Lib.hid (covAll_succ x cs k)
      have hlen : (xs ++ covAll x cs k).length ≤ 1000000 := by
        rw [List.length_append]
        have := covAll_le x cs k
        omega
      obtain ⟨v, hv⟩ : ∃ v, x.at wr G v := by obtain ⟨_, v, h1, _⟩ := HI.out.1.1; exact ⟨v, h1⟩
      have HF := Lib.hid (first_c x G v wr hv)
      have HB := Lib.hid (show covB x cs k = if (k : Int) < least x.kd then [] else if cs.getD k 0 > 1 then [⟨2, 0, k⟩] else if cs.getD k 0 = 0 then [⟨3, 0, k⟩] else [] from rfl)
      generalize cs.getD k 0 = q at *
      generalize least x.kd = ls at *
      have p1 : (0 : Int) ≤ (k : Int) ∧ (k : Int) < (n : Int) := by omega
      clear hv HI0 HLc
      by_cases h1 : (k : Int) < ls
      · have b1 : decide ((k : Int) < ls) = true := decide_eq_true h1
        have HB2 := Lib.hid (HB.out.trans (if_pos h1))
        clear h1
        go_wp2_with fail
        refine HF.out.mono ?_
        rintro e w4 ⟨rfl, hb⟩
        have HJ := Lib.hid (show SR x w0 G V (xs ++ covAll x cs (k + 1)) w4 ∧ Rowed w4 g cs from ⟨by rw [HE.out, HB2.out, List.append_nil]; exact HI.out.1.below hb, rowed_below HI.out.2 hb⟩)
        clear hb HI HF
        go_wp2
        go_roundw
        case rel => exact ⟨k + 1, by go_num, by omega, ⟨HJ.out⟩⟩
        case measure => simp [intOf]; omega
      · have b1 : decide ((k : Int) < ls) = false := decide_eq_false h1
        have HB2 := Lib.hid (HB.out.trans (if_neg h1))
        clear h1
        by_cases h2 : q > 1
        · have b2 : decide (q > 1) = true := decide_eq_true h2
          have HB3 := Lib.hid (HB2.out.trans (if_pos h2))
          clear h2
          go_wp2_with fail
          refine HF.out.mono ?_
          rintro e w4 ⟨rfl, hb⟩
          have HN := Lib.hid (note_s x w0 V G _ 2 0 (k : Int) w4 hlen (HI.out.1.below hb))
          have HRw := Lib.hid (rowed_below HI.out.2 hb)
          clear hb HI HF
          go_wp2_with fail
          refine HN.out.mono ?_
          rintro e w5 ⟨⟨u, rfl⟩, hst, hre⟩
          have HJ := Lib.hid (show SR x w0 G V (xs ++ covAll x cs (k + 1)) w5 ∧ Rowed w5 g cs from ⟨by rw [HE.out, HB3.out, ← List.append_assoc]; exact hst, rowed_rest HRw.out hre HNG.out⟩)
          clear hst hre HN
          go_wp2
          go_roundw
          case rel => exact ⟨k + 1, by go_num, by omega, ⟨HJ.out⟩⟩
          case measure => simp [intOf]; omega
        · have b2 : decide (q > 1) = false := decide_eq_false h2
          have HB3 := Lib.hid (HB2.out.trans (if_neg h2))
          clear h2
          by_cases h3 : q = 0
          · have b3 : (q == 0) = true := beq_iff_eq.2 h3
            have HB4 := Lib.hid (HB3.out.trans (if_pos h3))
            clear h3
            go_wp2_with fail
            refine HF.out.mono ?_
            rintro e w4 ⟨rfl, hb⟩
            have HN := Lib.hid (note_s x w0 V G _ 3 0 (k : Int) w4 hlen (HI.out.1.below hb))
            have HRw := Lib.hid (rowed_below HI.out.2 hb)
            clear hb HI HF
            go_wp2_with fail
            refine HN.out.mono ?_
            rintro e w5 ⟨⟨u, rfl⟩, hst, hre⟩
            have HJ := Lib.hid (show SR x w0 G V (xs ++ covAll x cs (k + 1)) w5 ∧ Rowed w5 g cs from ⟨by rw [HE.out, HB4.out, ← List.append_assoc]; exact hst, rowed_rest HRw.out hre HNG.out⟩)
            clear hst hre HN
            go_wp2
            go_roundw
            case rel => exact ⟨k + 1, by go_num, by omega, ⟨HJ.out⟩⟩
            case measure => simp [intOf]; omega
          · have b3 : (q == 0) = false := beq_eq_false_iff_ne.2 h3
            have HB4 := Lib.hid (HB3.out.trans (if_neg h3))
            clear h3
            go_wp2_with fail
            refine HF.out.mono ?_
            rintro e w4 ⟨rfl, hb⟩
            have HJ := Lib.hid (show SR x w0 G V (xs ++ covAll x cs (k + 1)) w4 ∧ Rowed w4 g cs from ⟨by rw [HE.out, HB4.out, List.append_nil]; exact HI.out.1.below hb, rowed_below HI.out.2 hb⟩)
            clear hb HI HF
            go_wp2
            go_roundw
            case rel => exact ⟨k + 1, by go_num, by omega, ⟨HJ.out⟩⟩
            case measure => simp [intOf]; omega
    · have bt : decide ((k : Int) < (n : Int)) = false := decide_eq_false (by omega)
      obtain rfl : k = n := by omega
      have HE := Lib.hid HI.out.1
      clear HI HI0
      go_wp2
      go_end0
      exact ⟨⟨_, rfl⟩, HE.out⟩
end FeasWalk
end Go.Proofs.Ytlncbckpcmojpaa
