/- Texts of this session in one: The library's IndexFunc and ContainsFunc at ints, over a method value and over a literal that captures one variable.; feas: the looker at a plan; its small methods.; cost.Between of two nodes that there are: its walk.; feas: the literal drive inside times: it goes to a stop and tells the first that is late. -/
import Derived.Lib.Hide
import Derived.Test.YtlncbckpcmojpaaMka
import Derived.Test.YtlncbckpcmojpaaPx0
import Derived.Test.YtlncbckpcmojpaaGDist
import Derived.RegionTactic
import Derived.ChangeAlike
namespace Go.Proofs.Ytlncbckpcmojpaa
open Go.RowKit Go.Proofs.YtlncbckpcmojpaaW.PrintWords Go.Proofs.YtlncbckpcmojpaaW.PrintLast Go.Proofs.YtlncbckpcmojpaaW.PrintMore
set_option linter.unusedVariables false
namespace FeasWalk
theorem ret_bool {a b : Bool} (h : a = b) : Ending.returned (.bool a) = .returned (.bool b) := by rw [h]
theorem ret_int {a b : Int} (h : a = b) : Ending.returned (.int .i64 a) = .returned (.int .i64 b) := by rw [h]
def idx (p : Int → Bool) (l : List Int) : Int := if l.any p then (l.findIdx p : Int) else -1
theorem rd_at' {l : List Int} {j : Nat} (hj : j < l.length) : rd l (j : Int) = l[j] := by
  unfold rd
  rw [Int.toNat_natCast, List.getD_eq_getElem?_getD, List.getElem?_eq_getElem hj]; rfl
theorem any_take_all {p : Int → Bool} {l : List Int} {k : Nat} (h : ∀ j : Nat, j < k → p (rd l j) = false) (hk : l.length ≤ k) : l.any p = false := by
  rw [List.any_eq_false]
  intro x hx
  obtain ⟨i, hi, rfl⟩ := List.getElem_of_mem hx
  have := h i (by omega)
  rw [rd_at' hi] at this
  simpa using this
theorem findIdx_at {p : Int → Bool} {l : List Int} {k : Nat} (h : ∀ j : Nat, j < k → p (rd l j) = false) (hk : k < l.length) (hp : p (rd l k) = true) : l.any p = true ∧ l.findIdx p = k := by
  refine ⟨List.any_eq_true.2 ⟨l[k], List.getElem_mem hk, by rw [← rd_at' hk]; exact hp⟩, ?_⟩
  refine (List.findIdx_eq hk).2 ⟨by rw [← rd_at' hk]; exact hp, fun j hj => ?_⟩
  rw [← rd_at' (by omega)]; exact h j hj
set_option maxRecDepth 100000 in
set_option maxHeartbeats 1000000 in
theorem indexBound (g : Nat) (eg : ∀ args w, (callFunc g args).run Try.prog w = .ok (.enter g args) w) (p : Int → Bool) (w : World) (K : Nat) (hp : ∀ d W, Below w.heap.size w W → Calls Try.prog g #[.pointer (some ⟨K, 0, none⟩), .int .i64 d] W fun e w' => e = .returned (.bool (p d)) ∧ Below W.heap.size W w')
    (A : Option Addr) (c : Nat) (l : List Int) (hr : Kd.C (Kd.int .i64) w A l.length l) :
    Calls Try.prog 58 #[.slice A l.length c, .func (.func g) #[.pointer (some ⟨K, 0, none⟩)] #[]] w fun e w' => e = .returned (.int .i64 (idx p l)) ∧ Below w.heap.size w w' := by
  have HR := Lib.hid hr
  have Hlen := hr.2.1
  clear hr
  have HP := Lib.hid hp
  clear hp
  go_enter Try.func58, Try.ntmps58
  go_wp2
  go_loopw [8] (fun v wr => ∃ k : Nat, v = .int .i64 k ∧ k ≤ l.length ∧ Aside0 (∀ j : Nat, j < k → p (rd l j) = false) ∧ Aside0 (Below w.heap.size w wr)) (fun v wr => l.length - (intOf v).toNat)
  case atStart => exact ⟨0, rfl, Nat.zero_le _, ⟨fun j hj => absurd hj (Nat.not_lt_zero _)⟩, ⟨Below.refl _ _⟩⟩
  case round =>
    obtain ⟨k, rfl, hk, hno, HB⟩ := hrel
    by_cases hlt : k < l.length
    · obtain ⟨ad, rfl, hcx⟩ := Kd.at_int (Kd.C_below HR.out HB.out) k (by omega) (by omega)
      rw [Int.toNat_natCast] at hcx
      go_wp2_with (fail)
      refine (HP.out (rd l k) _ HB.out).mono ?_
      rintro e w2 ⟨rfl, hb⟩
      have HB2 := Aside0.mk (HB.out.trans (hb.mono HB.out.size))
      clear hb hcx
      cases hpk : p (rd l k) with
      | true =>
        have E := findIdx_at hno.out hlt hpk
        have E := Aside0.mk E
        clear hpk
        go_wp2
        go_ret
        exact ⟨by unfold idx; rw [E.out.1, E.out.2]; rfl, HB2.out⟩
      | false =>
        have Hn := Aside0.mk (show ∀ j : Nat, j < k + 1 → p (rd l j) = false from fun j hj => by
          by_cases h : j = k
          · rw [h]; exact hpk
          · exact hno.out j (by omega))
        clear hpk
        go_wp2
        go_roundw
        case rel => exact ⟨k + 1, by go_num, by omega, Hn, HB2⟩
        case measure => simp [intOf]; omega
    · go_wp2
      go_ret
      exact ⟨by unfold idx; rw [any_take_all hno.out (by omega)]; rfl, HB.out⟩
set_option maxHeartbeats 1000000 in
theorem containsBound (g : Nat) (eg : ∀ args w, (callFunc g args).run Try.prog w = .ok (.enter g args) w) (p : Int → Bool) (w : World) (K : Nat) (hp : ∀ d W, Below w.heap.size w W → Calls Try.prog g #[.pointer (some ⟨K, 0, none⟩), .int .i64 d] W fun e w' => e = .returned (.bool (p d)) ∧ Below W.heap.size W w')
    (A : Option Addr) (c : Nat) (l : List Int) (hr : Kd.C (Kd.int .i64) w A l.length l) :
    Calls Try.prog 41 #[.slice A l.length c, .func (.func g) #[.pointer (some ⟨K, 0, none⟩)] #[]] w fun e w' => e = .returned (.bool (l.any p)) ∧ Below w.heap.size w w' := by
  have HC := Lib.hid (indexBound g eg p w K hp A c l hr)
  clear hp hr
  go_enter Try.func41, Try.ntmps41
  go_wp2_with (fail)
  refine HC.out.mono ?_
  rintro e w2 ⟨rfl, hb⟩
  have HB := Aside0.mk hb
  clear hb HC
  go_wp2
  go_ret
  refine ⟨?_, HB.out⟩
  unfold idx
  cases l.any p <;> simp
set_option maxRecDepth 100000 in
set_option maxHeartbeats 1000000 in
theorem indexCap (g : Nat) (eg : ∀ args w, (callFunc g args).run Try.prog w = .ok (.enter g args) w) (p : Int → Bool) (w : World) (K : Nat) (hp : ∀ d W, Below w.heap.size w W → Calls Try.prog g #[.int .i64 d, .pointer (some ⟨K, 0, none⟩)] W fun e w' => e = .returned (.bool (p d)) ∧ Below W.heap.size W w')
    (A : Option Addr) (c : Nat) (l : List Int) (hr : Kd.C (Kd.int .i64) w A l.length l) :
    Calls Try.prog 58 #[.slice A l.length c, .func (.func g) #[] #[.pointer (some ⟨K, 0, none⟩)]] w fun e w' => e = .returned (.int .i64 (idx p l)) ∧ Below w.heap.size w w' := by
  have HR := Lib.hid hr
  have Hlen := hr.2.1
  clear hr
  have HP := Lib.hid hp
  clear hp
  go_enter Try.func58, Try.ntmps58
  go_wp2
  go_loopw [8] (fun v wr => ∃ k : Nat, v = .int .i64 k ∧ k ≤ l.length ∧ Aside0 (∀ j : Nat, j < k → p (rd l j) = false) ∧ Aside0 (Below w.heap.size w wr)) (fun v wr => l.length - (intOf v).toNat)
  case atStart => exact ⟨0, rfl, Nat.zero_le _, ⟨fun j hj => absurd hj (Nat.not_lt_zero _)⟩, ⟨Below.refl _ _⟩⟩
  case round =>
    obtain ⟨k, rfl, hk, hno, HB⟩ := hrel
    by_cases hlt : k < l.length
    · obtain ⟨ad, rfl, hcx⟩ := Kd.at_int (Kd.C_below HR.out HB.out) k (by omega) (by omega)
      rw [Int.toNat_natCast] at hcx
      go_wp2_with (fail)
      refine (HP.out (rd l k) _ HB.out).mono ?_
      rintro e w2 ⟨rfl, hb⟩
      have HB2 := Aside0.mk (HB.out.trans (hb.mono HB.out.size))
      clear hb hcx
      cases hpk : p (rd l k) with
      | true =>
        have E := findIdx_at hno.out hlt hpk
        have E := Aside0.mk E
        clear hpk
        go_wp2
        go_ret
        exact ⟨by unfold idx; rw [E.out.1, E.out.2]; rfl, HB2.out⟩
      | false =>
        have Hn := Aside0.mk (show ∀ j : Nat, j < k + 1 → p (rd l j) = false from fun j hj => by
          by_cases h : j = k
          · rw [h]; exact hpk
          · exact hno.out j (by omega))
        clear hpk
        go_wp2
        go_roundw
        case rel => exact ⟨k + 1, by go_num, by omega, Hn, HB2⟩
        case measure => simp [intOf]; omega
    · go_wp2
      go_ret
      exact ⟨by unfold idx; rw [any_take_all hno.out (by omega)]; rfl, HB.out⟩
end FeasWalk
end Go.Proofs.Ytlncbckpcmojpaa
set_option linter.unusedVariables false
set_option linter.unusedSimpArgs false
namespace Go.Proofs.Ytlncbckpcmojpaa
open Go.RowKit Go.Proofs.YtlncbckpcmojpaaW.PrintWords Go.Proofs.YtlncbckpcmojpaaW.PrintLast Go.Proofs.YtlncbckpcmojpaaW.PrintMore
namespace FeasWalk
open P
abbrev Node := S32
/-- An instance, and where its rows lie. -/
structure Look where
  nm : ByteArray
  kd : Int
  mt : Int
  sc : Int
  cp : Int
  fl : Int
  A : Option Addr
  c : Nat
  ns : List Node
  B : Option Addr
  e : Nat
  mx : List Int
def Look.cells (x : Look) : List Value := [.string x.nm, .int .i64 x.kd, .int .i64 x.mt, .int .i64 x.sc, .int .i64 x.cp, .int .i64 x.fl, .slice x.A x.ns.length x.c, .slice x.B x.mx.length x.e]
def Look.val (x : Look) : Value := .agg #[.string x.nm, .int .i64 x.kd, .int .i64 x.mt, .int .i64 x.sc, .int .i64 x.cp, .int .i64 x.fl, .slice x.A x.ns.length x.c, .slice x.B x.mx.length x.e]
/-- The looker's block. -/
def Look.at (x : Look) (W : World) (K : Nat) (v : Value) : Prop := W.heap[K]? = some (.cells #[.string x.nm, .int .i64 x.kd, .int .i64 x.mt, .int .i64 x.sc, .int .i64 x.cp, .int .i64 x.fl, .slice x.A x.ns.length x.c, .slice x.B x.mx.length x.e, v] 63 (0, 0))
/-- What the rows of an instance read. -/
def Look.rows (x : Look) (W : World) : Prop := Kd.C k32 W x.A x.ns.length x.ns ∧ Kd.C (Kd.int .i64) W x.B x.mx.length x.mx
theorem Look.rows_below {x : Look} {W w' : World} (h : x.rows W) (hb : Below W.heap.size W w') : x.rows w' := ⟨Kd.C_below h.1 hb, Kd.C_below h.2 hb⟩
def oddB (n : Nat) (d : Int) : Bool := decide (d < 0) || decide (d ≥ (n : Int))
set_option maxHeartbeats 2000000 in
theorem strange_c (x : Look) (K : Nat) (v : Value) (d : Int) (W : World) (hK : x.at W K v) :
    Calls Try.prog 42 #[.pointer (some ⟨K, 0, none⟩), .int .i64 d] W fun e w' => e = .returned (.bool (oddB x.ns.length d)) ∧ Below W.heap.size W w' := by
  unfold Look.at at hK
  obtain ⟨k0, k1, k2, k3, k4, k5, k6, k7, k8, f0, f1, f2, f3, f4, f5, f6, f7, f8⟩ := blk9_ hK
  clear k0 k1 k2 k3 k4 k5 k7 k8 f0 f1 f2 f3 f4 f5 f6 f7 f8 hK
  by_cases h1 : d < 0
  · have b1 : decide (d < 0) = true := decide_eq_true h1
    have HN := Lib.hid (show oddB x.ns.length d = true by unfold oddB; rw [b1]; rfl)
    clear h1
    go_enter Try.func42, Try.ntmps42
    go_wp2
    go_ret
    exact ⟨ret_bool HN.out.symm, Below.refl _ W⟩
  · have b1 : decide (d < 0) = false := decide_eq_false h1
    have HN := Lib.hid (show oddB x.ns.length d = decide (d ≥ (x.ns.length : Int)) by unfold oddB; rw [b1]; rfl)
    clear h1
    go_enter Try.func42, Try.ntmps42
    go_wp2
    go_ret
    exact ⟨ret_bool HN.out.symm, Below.refl _ W⟩
def least (kd : Int) : Int := if kd = 1 then 0 else 1
set_option maxHeartbeats 2000000 in
theorem first_c (x : Look) (K : Nat) (v : Value) (W : World) (hK : x.at W K v) :
    Calls Try.prog 49 #[.pointer (some ⟨K, 0, none⟩)] W fun e w' => e = .returned (.int .i64 (least x.kd)) ∧ Below W.heap.size W w' := by
  unfold Look.at at hK
  obtain ⟨k0, k1, k2, k3, k4, k5, k6, k7, k8, f0, f1, f2, f3, f4, f5, f6, f7, f8⟩ := blk9_ hK
  clear k0 k2 k3 k4 k5 k6 k7 k8 f0 f1 f2 f3 f4 f5 f6 f7 f8 hK
  by_cases h1 : x.kd = 1
  · have b1 : (x.kd == 1) = true := beq_iff_eq.2 h1
    have HN := Lib.hid (show least x.kd = 0 by unfold least; rw [if_pos h1])
    clear h1
    go_enter Try.func49, Try.ntmps49
    go_wp2
    go_ret
    exact ⟨ret_int HN.out.symm, Below.refl _ W⟩
  · have b1 : (x.kd == 1) = false := beq_eq_false_iff_ne.2 h1
    have HN := Lib.hid (show least x.kd = 1 by unfold least; rw [if_neg h1])
    clear h1
    go_enter Try.func49, Try.ntmps49
    go_wp2
    go_ret
    exact ⟨ret_int HN.out.symm, Below.refl _ W⟩
end FeasWalk
end Go.Proofs.Ytlncbckpcmojpaa
set_option linter.unusedVariables false
set_option linter.unusedSimpArgs false
namespace Go.Proofs.Ytlncbckpcmojpaa
open Go.RowKit Go.Proofs.YtlncbckpcmojpaaW.PrintWords Go.Proofs.YtlncbckpcmojpaaW.PrintLast Go.Proofs.YtlncbckpcmojpaaW.PrintMore
namespace FeasWalk
open P
attribute [local go_sem] max2_int min2_int
theorem old_cell {W w' : World} {a : Addr} {v : Value} (hb : Below W.heap.size W w') (h : W.cell? a = some v) : w'.cell? a = some v := (hb.cell (World.block_lt_of_cell? _ _ h)).trans h
/-- The way from one node to another one, or why there is none. -/
def legOf (x : Look) (i j : Nat) : Option (Int × Int) :=
  if x.mt = 0 then (if i * x.ns.length + j < x.mx.length then some (rd x.mx ((i * x.ns.length + j : Nat) : Int), 0) else none)
  else metric_Dist.f x.mt x.sc (wrap64 ((rd_T32 x.ns (j : Int)).f0 - (rd_T32 x.ns (i : Int)).f0)) (wrap64 ((rd_T32 x.ns (j : Int)).f1 - (rd_T32 x.ns (i : Int)).f1))
set_option maxHeartbeats 8000000 in
set_option maxRecDepth 100000 in
theorem between_c (x : Look) (i j : Nat) (W : World) (hr : x.rows W) (hn : x.ns.length ≤ 65536) (hi : i < x.ns.length) (hj : j < x.ns.length) (r1 r2 : Int) (h : legOf x i j = some (r1, r2)) :
    Calls Try.prog 47 #[x.val, .int .i64 (i : Int), .int .i64 (j : Int)] W fun e w' => e = .returned (.tuple #[.int .i64 r1, .int .i64 r2]) ∧ Below W.heap.size W w' := by
  obtain ⟨nm, kd, mt, sc, cp, fl, A, c, ns, B, e0, mx⟩ := x
  unfold Look.val
  unfold legOf at h
  obtain ⟨hr, hm⟩ := hr
  simp only at hr hm hn hi hj h ⊢
  have bK := heap_alloc_new W (.cells #[.string nm, .int .i64 kd, .int .i64 mt, .int .i64 sc, .int .i64 cp, .int .i64 fl, .slice A ns.length c, .slice B mx.length e0] 25)
  have hr1 := Kd.C_alloc hr (.cells #[.string nm, .int .i64 kd, .int .i64 mt, .int .i64 sc, .int .i64 cp, .int .i64 fl, .slice A ns.length c, .slice B mx.length e0] 25)
  have hm1 := Kd.C_alloc hm (.cells #[.string nm, .int .i64 kd, .int .i64 mt, .int .i64 sc, .int .i64 cp, .int .i64 fl, .slice A ns.length c, .slice B mx.length e0] 25)
  have hW0 : Below W.heap.size W (W.alloc (.cells #[.string nm, .int .i64 kd, .int .i64 mt, .int .i64 sc, .int .i64 cp, .int .i64 fl, .slice A ns.length c, .slice B mx.length e0] 25)) := (Below.refl _ W).alloc (Nat.le_refl _) _
  generalize hW1 : W.alloc (.cells #[.string nm, .int .i64 kd, .int .i64 mt, .int .i64 sc, .int .i64 cp, .int .i64 fl, .slice A ns.length c, .slice B mx.length e0] 25) = W1 at *
  obtain ⟨K, hK0⟩ : ∃ K, W.heap.size = K := ⟨_, rfl⟩
  rw [hK0] at bK
  have HW := Lib.hid hW1
  have HK := Lib.hid hK0
  have HB0 := Lib.hid hW0
  have HBK := Lib.hid bK
  have HD := Lib.hid h
  have HM := Lib.hid hm1
  have HR := Lib.hid hr1
  clear hW1 hK0 hW0 bK h hr hm hm1 hr1
  go_enter Try.func47, Try.ntmps47
  go_upto_region 2 with (fail)
  rw [HW.out, HK.out]
  go_cut [24] (fun v24 wc => v24 = .bool false ∧ wc = W1)
  case first =>
    by_cases c1 : (j : Int) < (i : Int)
    · have c2 : ¬ (i : Int) < (j : Int) := by omega
      have b1 : decide ((j : Int) < 0) = false := decide_eq_false (by omega)
      have b2 : decide ((i : Int) ≥ (ns.length : Int)) = false := decide_eq_false (by omega)
      go_wp2
      go_meet
      case rel => exact ⟨by simp; omega, rfl⟩
    · have b1 : decide ((i : Int) < 0) = false := decide_eq_false (by omega)
      by_cases c2 : (i : Int) < (j : Int)
      · have b2 : decide ((j : Int) ≥ (ns.length : Int)) = false := decide_eq_false (by omega)
        go_wp2
        go_meet
        case rel => exact ⟨by simp; omega, rfl⟩
      · have b2 : decide ((i : Int) ≥ (ns.length : Int)) = false := decide_eq_false (by omega)
        go_wp2
        go_meet
        case rel => exact ⟨by simp; omega, rfl⟩
  case rest =>
  obtain ⟨rfl, hwc⟩ := hcut
  have hwc := hwc.symm
  subst hwc
  by_cases hm0 : mt = 0
  · have bm : (mt == 0) = true := beq_iff_eq.2 hm0
    have hsq : i * ns.length ≤ 65536 * 65536 := Nat.mul_le_mul (by omega) hn
    obtain ⟨q, hq⟩ : ∃ q : Nat, i * ns.length = q := ⟨_, rfl⟩
    have hqi : (i : Int) * (ns.length : Int) = (q : Int) := by rw [← hq, Int.natCast_mul]
    have h := HD.out
    rw [if_pos hm0, hq] at h
    rw [hq] at hsq
    by_cases hlt : q + j < mx.length
    · rw [if_pos hlt] at h
      cases h
      obtain ⟨ad, e1, c0⟩ := Kd.at_int HM.out ((q + j : Nat) : Int) (by omega) (by omega)
      cases e1
      rw [Int.toNat_natCast] at c0
      have p1 : (0 : Int) ≤ (q : Int) + (j : Int) ∧ (q : Int) + (j : Int) < (mx.length : Int) := by omega
      obtain ⟨x0, x1, k2, x3, x4, x5, x6, k7, f0, f1, f2, f3, f4, f5, f6, f7⟩ := blk8_ HBK.out
      clear hm0 x0 x1 x3 x4 x5 x6 f0 f1 f2 f3 f4 f5 f6 f7 hq HD
      go_wp2
      go_ret2
      exact ⟨rfl, HB0.out⟩
    · rw [if_neg hlt] at h; cases h
  · have bm : (mt == 0) = false := beq_eq_false_iff_ne.2 hm0
    have HD := Lib.hid ((if_neg hm0).symm.trans HD.out)
    obtain ⟨ad, e1, c0, c1, c2, c3, c4, c5, c6⟩ := at_T32 HR.out (i : Int) (by omega) (by omega)
    cases e1
    obtain ⟨ad2, e2, d0, d1, d2, d3, d4, d5, d6⟩ := at_T32 HR.out (j : Int) (by omega) (by omega)
    cases e2
    rw [Int.toNat_natCast] at c0 c1 c2 c3 c4 c5 c6 d0 d1 d2 d3 d4 d5 d6
    have p1 : (0 : Int) ≤ (i : Int) ∧ (i : Int) < (ns.length : Int) := by omega
    have p2 : (0 : Int) ≤ (j : Int) ∧ (j : Int) < (ns.length : Int) := by omega
    obtain ⟨x0, x1, k2, k3, x4, x5, k6, x7, f0, f1, f2, f3, f4, f5, f6, f7⟩ := blk8_ HBK.out
    have HS := Lib.hid (show ∀ w', Below W1.heap.size W1 w' → (w'.cell? ⟨K, 6, none⟩ = some (.slice (some ad) ns.length c) ∧ w'.cell? (ad.add (i * 7)) = some (.int .i64 (rd_T32 ns (i : Int)).f0) ∧ w'.cell? ⟨(ad.add (i * 7)).block, (ad.add (i * 7)).off + 1, none⟩ = some (.int .i64 (rd_T32 ns (i : Int)).f1) ∧ w'.cell? ⟨(ad.add (i * 7)).block, (ad.add (i * 7)).off + 2, none⟩ = some (.int .i64 (rd_T32 ns (i : Int)).f2) ∧ w'.cell? ⟨(ad.add (i * 7)).block, (ad.add (i * 7)).off + 3, none⟩ = some (.int .i64 (rd_T32 ns (i : Int)).f3) ∧ w'.cell? ⟨(ad.add (i * 7)).block, (ad.add (i * 7)).off + 4, none⟩ = some (.int .i64 (rd_T32 ns (i : Int)).f4) ∧ w'.cell? ⟨(ad.add (i * 7)).block, (ad.add (i * 7)).off + 5, none⟩ = some (.int .i64 (rd_T32 ns (i : Int)).f5) ∧ w'.cell? ⟨(ad.add (i * 7)).block, (ad.add (i * 7)).off + 6, none⟩ = some (.int .i64 (rd_T32 ns (i : Int)).f6) ∧ w'.cell? (ad.add (j * 7)) = some (.int .i64 (rd_T32 ns (j : Int)).f0) ∧ w'.cell? ⟨(ad.add (j * 7)).block, (ad.add (j * 7)).off + 1, none⟩ = some (.int .i64 (rd_T32 ns (j : Int)).f1) ∧ w'.cell? ⟨(ad.add (j * 7)).block, (ad.add (j * 7)).off + 2, none⟩ = some (.int .i64 (rd_T32 ns (j : Int)).f2) ∧ w'.cell? ⟨(ad.add (j * 7)).block, (ad.add (j * 7)).off + 3, none⟩ = some (.int .i64 (rd_T32 ns (j : Int)).f3) ∧ w'.cell? ⟨(ad.add (j * 7)).block, (ad.add (j * 7)).off + 4, none⟩ = some (.int .i64 (rd_T32 ns (j : Int)).f4) ∧ w'.cell? ⟨(ad.add (j * 7)).block, (ad.add (j * 7)).off + 5, none⟩ = some (.int .i64 (rd_T32 ns (j : Int)).f5) ∧ w'.cell? ⟨(ad.add (j * 7)).block, (ad.add (j * 7)).off + 6, none⟩ = some (.int .i64 (rd_T32 ns (j : Int)).f6) ∧ Below W1.heap.size W1 w') from fun w' hb => ⟨old_cell hb k6, old_cell hb c0, old_cell hb c1, old_cell hb c2, old_cell hb c3, old_cell hb c4, old_cell hb c5, old_cell hb c6, old_cell hb d0, old_cell hb d1, old_cell hb d2, old_cell hb d3, old_cell hb d4, old_cell hb d5, old_cell hb d6, hb⟩)
    clear hm0 x0 x1 x4 x5 x7 f0 f1 f2 f3 f4 f5 f6 f7 c0 c1 c2 c3 c4 c5 c6 d0 d1 d2 d3 d4 d5 d6
    go_wp2
    clear k2 k3 k6
    -- REGION
    refine start_ (n := 14) (S := fun w' => w'.cell? ⟨K, 6, none⟩ = some (.slice (some ad) ns.length c) ∧ w'.cell? (ad.add (i * 7)) = some (.int .i64 (rd_T32 ns (i : Int)).f0) ∧ w'.cell? ⟨(ad.add (i * 7)).block, (ad.add (i * 7)).off + 1, none⟩ = some (.int .i64 (rd_T32 ns (i : Int)).f1) ∧ w'.cell? ⟨(ad.add (i * 7)).block, (ad.add (i * 7)).off + 2, none⟩ = some (.int .i64 (rd_T32 ns (i : Int)).f2) ∧ w'.cell? ⟨(ad.add (i * 7)).block, (ad.add (i * 7)).off + 3, none⟩ = some (.int .i64 (rd_T32 ns (i : Int)).f3) ∧ w'.cell? ⟨(ad.add (i * 7)).block, (ad.add (i * 7)).off + 4, none⟩ = some (.int .i64 (rd_T32 ns (i : Int)).f4) ∧ w'.cell? ⟨(ad.add (i * 7)).block, (ad.add (i * 7)).off + 5, none⟩ = some (.int .i64 (rd_T32 ns (i : Int)).f5) ∧ w'.cell? ⟨(ad.add (i * 7)).block, (ad.add (i * 7)).off + 6, none⟩ = some (.int .i64 (rd_T32 ns (i : Int)).f6) ∧ w'.cell? (ad.add (j * 7)) = some (.int .i64 (rd_T32 ns (j : Int)).f0) ∧ w'.cell? ⟨(ad.add (j * 7)).block, (ad.add (j * 7)).off + 1, none⟩ = some (.int .i64 (rd_T32 ns (j : Int)).f1) ∧ w'.cell? ⟨(ad.add (j * 7)).block, (ad.add (j * 7)).off + 2, none⟩ = some (.int .i64 (rd_T32 ns (j : Int)).f2) ∧ w'.cell? ⟨(ad.add (j * 7)).block, (ad.add (j * 7)).off + 3, none⟩ = some (.int .i64 (rd_T32 ns (j : Int)).f3) ∧ w'.cell? ⟨(ad.add (j * 7)).block, (ad.add (j * 7)).off + 4, none⟩ = some (.int .i64 (rd_T32 ns (j : Int)).f4) ∧ w'.cell? ⟨(ad.add (j * 7)).block, (ad.add (j * 7)).off + 5, none⟩ = some (.int .i64 (rd_T32 ns (j : Int)).f5) ∧ w'.cell? ⟨(ad.add (j * 7)).block, (ad.add (j * 7)).off + 6, none⟩ = some (.int .i64 (rd_T32 ns (j : Int)).f6) ∧ Below W1.heap.size W1 w') (ds := [13]) #[false, false, false, false, false, false, false, false, false, false, false, false, false, false] (by kernel_rfl) rfl rfl (HS.out _ (below_drew1 (Below.refl _ _))) (fun hHeld => ?_)
    refine pure_ (i := 0) (N := some 37) (v := ?_) (a' := ?_) #[true, false, false, false, false, false, false, false, false, false, false, false, false, false] rfl rfl (by kernel_rfl) (fun _ _ _ h => h) (Or.inl ⟨by rfl, ?_⟩) ?_ ?_
    rotate_left
    · intro w'
      go_simp
      with_reducible rfl
    rotate_left
    · simp only [Act.put, List.setIfInBounds_toArray, List.set_cons_zero, List.set_cons_succ, i64_w, i32_w]
      rfl
    refine pure_ (i := 2) (N := some 39) (v := ?_) (a' := ?_) #[true, false, true, false, false, false, false, false, false, false, false, false, false, false] rfl rfl (by kernel_rfl) (fun _ _ _ h => h) (Or.inl ⟨by rfl, ?_⟩) ?_ ?_
    rotate_left
    · intro w'
      go_simp
      with_reducible rfl
    rotate_left
    · simp only [Act.put, List.setIfInBounds_toArray, List.set_cons_zero, List.set_cons_succ, i64_w, i32_w]
      rfl
    refine pure_ (i := 5) (N := some 42) (v := ?_) (a' := ?_) #[true, false, true, false, false, true, false, false, false, false, false, false, false, false] rfl rfl (by kernel_rfl) (fun _ _ _ h => h) (Or.inl ⟨by rfl, ?_⟩) ?_ ?_
    rotate_left
    · intro w'
      go_simp
      with_reducible rfl
    rotate_left
    · simp only [Act.put, List.setIfInBounds_toArray, List.set_cons_zero, List.set_cons_succ, i64_w, i32_w]
      rfl
    refine pure_ (i := 7) (N := some 44) (v := ?_) (a' := ?_) #[true, false, true, false, false, true, false, true, false, false, false, false, false, false] rfl rfl (by kernel_rfl) (fun _ _ _ h => h) (Or.inl ⟨by rfl, ?_⟩) ?_ ?_
    rotate_left
    · intro w'
      go_simp
      with_reducible rfl
    rotate_left
    · simp only [Act.put, List.setIfInBounds_toArray, List.set_cons_zero, List.set_cons_succ, i64_w, i32_w]
      rfl
    refine take_ (i := 1) (N := some 38) (v := ?_) (a' := ?_) #[true, true, true, false, false, true, false, true, false, false, false, false, false, false] rfl rfl (by kernel_rfl) (fun _ _ _ h => h) (Or.inl ⟨by rfl, ?_⟩) hHeld ?_ ?_
    rotate_left
    · rintro w' ⟨s0, s1, s2, s3, s4, s5, s6, s7, s8, s9, s10, s11, s12, s13, s14, s15⟩
      go_simp
      with_reducible rfl
    rotate_left
    · simp only [Act.put, List.setIfInBounds_toArray, List.set_cons_zero, List.set_cons_succ, i64_w, i32_w]
      rfl
    refine pure_ (i := 3) (N := some 40) (v := ?_) (a' := ?_) #[true, true, true, true, false, true, false, true, false, false, false, false, false, false] rfl rfl (by kernel_rfl) (fun _ _ _ h => h) (Or.inl ⟨by rfl, ?_⟩) ?_ ?_
    rotate_left
    · intro w'
      go_simp
      with_reducible rfl
    rotate_left
    · simp only [Act.put, List.setIfInBounds_toArray, List.set_cons_zero, List.set_cons_succ, i64_w, i32_w]
      rfl
    refine take_ (i := 4) (N := some 41) (v := ?_) (a' := ?_) #[true, true, true, true, true, true, false, true, false, false, false, false, false, false] rfl rfl (by kernel_rfl) (fun _ _ _ h => h) (Or.inl ⟨by rfl, ?_⟩) hHeld ?_ ?_
    rotate_left
    · rintro w' ⟨s0, s1, s2, s3, s4, s5, s6, s7, s8, s9, s10, s11, s12, s13, s14, s15⟩
      go_simp
      with_reducible rfl
    rotate_left
    · simp only [Act.put, List.setIfInBounds_toArray, List.set_cons_zero, List.set_cons_succ, i64_w, i32_w]
      rfl
    refine take_ (i := 6) (N := some 43) (v := ?_) (a' := ?_) #[true, true, true, true, true, true, true, true, false, false, false, false, false, false] rfl rfl (by kernel_rfl) (fun _ _ _ h => h) (Or.inl ⟨by rfl, ?_⟩) hHeld ?_ ?_
    rotate_left
    · rintro w' ⟨s0, s1, s2, s3, s4, s5, s6, s7, s8, s9, s10, s11, s12, s13, s14, s15⟩
      go_simp
      with_reducible rfl
    rotate_left
    · simp only [Act.put, List.setIfInBounds_toArray, List.set_cons_zero, List.set_cons_succ, i64_w, i32_w]
      rfl
    refine pure_ (i := 8) (N := some 45) (v := ?_) (a' := ?_) #[true, true, true, true, true, true, true, true, true, false, false, false, false, false] rfl rfl (by kernel_rfl) (fun _ _ _ h => h) (Or.inl ⟨by rfl, ?_⟩) ?_ ?_
    rotate_left
    · intro w'
      go_simp
      with_reducible rfl
    rotate_left
    · simp only [Act.put, List.setIfInBounds_toArray, List.set_cons_zero, List.set_cons_succ, i64_w, i32_w]
      rfl
    refine take_ (i := 9) (N := some 46) (v := ?_) (a' := ?_) #[true, true, true, true, true, true, true, true, true, true, false, false, false, false] rfl rfl (by kernel_rfl) (fun _ _ _ h => h) (Or.inl ⟨by rfl, ?_⟩) hHeld ?_ ?_
    rotate_left
    · rintro w' ⟨s0, s1, s2, s3, s4, s5, s6, s7, s8, s9, s10, s11, s12, s13, s14, s15⟩
      go_simp
      with_reducible rfl
    rotate_left
    · simp only [Act.put, List.setIfInBounds_toArray, List.set_cons_zero, List.set_cons_succ, i64_w, i32_w]
      rfl
    refine join_ (σ := Nat × Nat) 2 #[true, true, true, true, true, true, true, true, true, true, true, true, false, false] (fun s_ => [(9, .pointer (some ⟨s_.1, 0, none⟩)), (10, .pointer (some ⟨s_.2, 0, none⟩))]) (fun s_ w' => (w'.cell? ⟨K, 6, none⟩ = some (.slice (some ad) ns.length c) ∧ w'.cell? (ad.add (i * 7)) = some (.int .i64 (rd_T32 ns (i : Int)).f0) ∧ w'.cell? ⟨(ad.add (i * 7)).block, (ad.add (i * 7)).off + 1, none⟩ = some (.int .i64 (rd_T32 ns (i : Int)).f1) ∧ w'.cell? ⟨(ad.add (i * 7)).block, (ad.add (i * 7)).off + 2, none⟩ = some (.int .i64 (rd_T32 ns (i : Int)).f2) ∧ w'.cell? ⟨(ad.add (i * 7)).block, (ad.add (i * 7)).off + 3, none⟩ = some (.int .i64 (rd_T32 ns (i : Int)).f3) ∧ w'.cell? ⟨(ad.add (i * 7)).block, (ad.add (i * 7)).off + 4, none⟩ = some (.int .i64 (rd_T32 ns (i : Int)).f4) ∧ w'.cell? ⟨(ad.add (i * 7)).block, (ad.add (i * 7)).off + 5, none⟩ = some (.int .i64 (rd_T32 ns (i : Int)).f5) ∧ w'.cell? ⟨(ad.add (i * 7)).block, (ad.add (i * 7)).off + 6, none⟩ = some (.int .i64 (rd_T32 ns (i : Int)).f6) ∧ w'.cell? (ad.add (j * 7)) = some (.int .i64 (rd_T32 ns (j : Int)).f0) ∧ w'.cell? ⟨(ad.add (j * 7)).block, (ad.add (j * 7)).off + 1, none⟩ = some (.int .i64 (rd_T32 ns (j : Int)).f1) ∧ w'.cell? ⟨(ad.add (j * 7)).block, (ad.add (j * 7)).off + 2, none⟩ = some (.int .i64 (rd_T32 ns (j : Int)).f2) ∧ w'.cell? ⟨(ad.add (j * 7)).block, (ad.add (j * 7)).off + 3, none⟩ = some (.int .i64 (rd_T32 ns (j : Int)).f3) ∧ w'.cell? ⟨(ad.add (j * 7)).block, (ad.add (j * 7)).off + 4, none⟩ = some (.int .i64 (rd_T32 ns (j : Int)).f4) ∧ w'.cell? ⟨(ad.add (j * 7)).block, (ad.add (j * 7)).off + 5, none⟩ = some (.int .i64 (rd_T32 ns (j : Int)).f5) ∧ w'.cell? ⟨(ad.add (j * 7)).block, (ad.add (j * 7)).off + 6, none⟩ = some (.int .i64 (rd_T32 ns (j : Int)).f6) ∧ Below W1.heap.size W1 w') ∧ w'.heap[s_.1]? = some (.cells #[.int .i64 0, .int .i64 0, .int .i64 0, .int .i64 0, .int .i64 0, .int .i64 0, .int .i64 0] 32 (0, 0)) ∧ w'.heap[s_.2]? = some (.cells #[.int .i64 0, .int .i64 0, .int .i64 0, .int .i64 0, .int .i64 0, .int .i64 0, .int .i64 0] 32 (0, 0)) ∧ W1.heap.size ≤ s_.1 ∧ W1.heap.size ≤ s_.2 ∧ s_.1 ≠ s_.2) ?_ ?_
    rotate_left
    · intro hCont
      refine two_ (i := 10) (j := 11) (Ni := some 9) (Nj := some 10) #[true, true, true, true, true, true, true, true, true, true, true, false, false, false] #[true, true, true, true, true, true, true, true, true, true, false, true, false, false] rfl rfl rfl rfl (by kernel_rfl) (by decide) (by decide) (fun K hK => ?_) (fun K hK => ?_)
      · skip
        have hbl := hHeld.2.2.2.2.2.2.2.2.2.2.2.2.2.2.2
        refine box_step ?hg (N := 9) ?hd (cs := #[.int .i64 0, .int .i64 0, .int .i64 0, .int .i64 0, .int .i64 0, .int .i64 0, .int .i64 0]) (t := 32) ?hr ?_; (case hd => rfl); (case hg => rfl); (case hr => first | (go_simp; done) | (go_simp; rfl))
        intro g9 hg9 w9 hZ9 hb
        have hbl9 := hbl.trans (hb.mono hbl.size)
        have hs9 : W1.heap.size ≤ g9 := by rw [hg9]; exact hbl.size
        clear hbl
        clear hb
        refine hK.out _ _ (HS.out _ hbl9) (fun hHeld => ?_)
        clear hK K
        refine norm_ (a' := ?_) ?_ ?_
        rotate_left
        · show Act.put _ (some 9) _ = _
          simp only [Act.put, List.setIfInBounds_toArray, List.set_cons_zero, List.set_cons_succ, i64_w, i32_w]
          rfl
        refine one_ (i := 11) (N := some 10) #[true, true, true, true, true, true, true, true, true, true, true, true, false, false] rfl rfl (by kernel_rfl) (by decide) (fun K hK => ?_)
        have hbl := hHeld.2.2.2.2.2.2.2.2.2.2.2.2.2.2.2
        refine box_step ?hg (N := 10) ?hd (cs := #[.int .i64 0, .int .i64 0, .int .i64 0, .int .i64 0, .int .i64 0, .int .i64 0, .int .i64 0]) (t := 32) ?hr ?_; (case hd => rfl); (case hg => rfl); (case hr => first | (go_simp; done) | (go_simp; rfl))
        intro g10 hg10 w10 hZ10 hb
        have hbl10 := hbl.trans (hb.mono hbl.size)
        have hs10 : W1.heap.size ≤ g10 := by rw [hg10]; exact hbl.size
        clear hbl
        have hY9 := blk_below hZ9 hb
        have hne : g9 ≠ g10 := by rw [hg10]; exact Nat.ne_of_lt (blk_lt hZ9)
        clear hb
        refine hK.out _ _ (HS.out _ hbl10) (fun hHeld => ?_)
        clear hK K
        refine norm_ (a' := ?_) ?_ ?_
        rotate_left
        · show Act.put _ (some 10) _ = _
          simp only [Act.put, List.setIfInBounds_toArray, List.set_cons_zero, List.set_cons_succ, i64_w, i32_w]
          rfl
        exact norm_ (by simp only [putAll, Act.put, List.setIfInBounds_toArray, List.set_cons_zero, List.set_cons_succ]) (hCont (g9, g10) _ ⟨hHeld, hY9, hZ10, hs9, hs10, hne⟩)
      · skip
        have hbl := hHeld.2.2.2.2.2.2.2.2.2.2.2.2.2.2.2
        refine box_step ?hg (N := 10) ?hd (cs := #[.int .i64 0, .int .i64 0, .int .i64 0, .int .i64 0, .int .i64 0, .int .i64 0, .int .i64 0]) (t := 32) ?hr ?_; (case hd => rfl); (case hg => rfl); (case hr => first | (go_simp; done) | (go_simp; rfl))
        intro g10 hg10 w10 hZ10 hb
        have hbl10 := hbl.trans (hb.mono hbl.size)
        have hs10 : W1.heap.size ≤ g10 := by rw [hg10]; exact hbl.size
        clear hbl
        clear hb
        refine hK.out _ _ (HS.out _ hbl10) (fun hHeld => ?_)
        clear hK K
        refine norm_ (a' := ?_) ?_ ?_
        rotate_left
        · show Act.put _ (some 10) _ = _
          simp only [Act.put, List.setIfInBounds_toArray, List.set_cons_zero, List.set_cons_succ, i64_w, i32_w]
          rfl
        refine one_ (i := 10) (N := some 9) #[true, true, true, true, true, true, true, true, true, true, true, true, false, false] rfl rfl (by kernel_rfl) (by decide) (fun K hK => ?_)
        have hbl := hHeld.2.2.2.2.2.2.2.2.2.2.2.2.2.2.2
        refine box_step ?hg (N := 9) ?hd (cs := #[.int .i64 0, .int .i64 0, .int .i64 0, .int .i64 0, .int .i64 0, .int .i64 0, .int .i64 0]) (t := 32) ?hr ?_; (case hd => rfl); (case hg => rfl); (case hr => first | (go_simp; done) | (go_simp; rfl))
        intro g9 hg9 w9 hZ9 hb
        have hbl9 := hbl.trans (hb.mono hbl.size)
        have hs9 : W1.heap.size ≤ g9 := by rw [hg9]; exact hbl.size
        clear hbl
        have hY10 := blk_below hZ10 hb
        have hne : g10 ≠ g9 := by rw [hg9]; exact Nat.ne_of_lt (blk_lt hZ10)
        clear hb
        refine hK.out _ _ (HS.out _ hbl9) (fun hHeld => ?_)
        clear hK K
        refine norm_ (a' := ?_) ?_ ?_
        rotate_left
        · show Act.put _ (some 9) _ = _
          simp only [Act.put, List.setIfInBounds_toArray, List.set_cons_zero, List.set_cons_succ, i64_w, i32_w]
          rfl
        exact norm_ (by simp only [putAll, Act.put, List.setIfInBounds_toArray, List.set_cons_zero, List.set_cons_succ]) (hCont (g9, g10) _ ⟨hHeld, hZ9, hY10, hs9, hs10, fun e => hne e.symm⟩)
    rintro ⟨g9, g10⟩ w4 ⟨hHeld, h9, h10, hg9, hg10, hne⟩
    refine norm_ (a' := ?_) ?_ ?_
    rotate_left
    · simp only [putAll, Act.put, List.setIfInBounds_toArray, List.set_cons_zero, List.set_cons_succ]
      rfl
    refine one_ (i := 12) (N := none) #[true, true, true, true, true, true, true, true, true, true, true, true, true, false] rfl rfl (by kernel_rfl) (by decide) (fun K hK => ?_)
    obtain ⟨a0, a1, a2, a3, a4, a5, a6, b0, b1, b2, b3, b4, b5, b6⟩ := blk7_ h9
    have hbl := hHeld.2.2.2.2.2.2.2.2.2.2.2.2.2.2.2
    refine skip_ (w1 := ?_) (by rfl) rfl ?_ ?_
    rotate_left
    · go_simp
      rfl
    clear a0 a1 a2 a3 a4 a5 a6 b0 b1 b2 b3 b4 b5 b6
    refine hK.out _ _ (HS.out _ (below7 hbl hg9)) (fun hHeld => ?_)
    clear hK K
    have q9 : Aside0 ((((((((w4.setCell ⟨g9, 0, none⟩ (.int .i64 (rd_T32 ns (i : Int)).f0)).setCell ⟨g9, 1, none⟩ (.int .i64 (rd_T32 ns (i : Int)).f1)).setCell ⟨g9, 2, none⟩ (.int .i64 (rd_T32 ns (i : Int)).f2)).setCell ⟨g9, 3, none⟩ (.int .i64 (rd_T32 ns (i : Int)).f3)).setCell ⟨g9, 4, none⟩ (.int .i64 (rd_T32 ns (i : Int)).f4)).setCell ⟨g9, 5, none⟩ (.int .i64 (rd_T32 ns (i : Int)).f5)).setCell ⟨g9, 6, none⟩ (.int .i64 (rd_T32 ns (i : Int)).f6)).heap[g9]? = _) := ⟨put7 h9⟩
    have q10 : Aside0 ((((((((w4.setCell ⟨g9, 0, none⟩ (.int .i64 (rd_T32 ns (i : Int)).f0)).setCell ⟨g9, 1, none⟩ (.int .i64 (rd_T32 ns (i : Int)).f1)).setCell ⟨g9, 2, none⟩ (.int .i64 (rd_T32 ns (i : Int)).f2)).setCell ⟨g9, 3, none⟩ (.int .i64 (rd_T32 ns (i : Int)).f3)).setCell ⟨g9, 4, none⟩ (.int .i64 (rd_T32 ns (i : Int)).f4)).setCell ⟨g9, 5, none⟩ (.int .i64 (rd_T32 ns (i : Int)).f5)).setCell ⟨g9, 6, none⟩ (.int .i64 (rd_T32 ns (i : Int)).f6)).heap[g10]? = _) := ⟨far7 h10 hne.symm⟩
    generalize ((((((w4.setCell ⟨g9, 0, none⟩ (.int .i64 (rd_T32 ns (i : Int)).f0)).setCell ⟨g9, 1, none⟩ (.int .i64 (rd_T32 ns (i : Int)).f1)).setCell ⟨g9, 2, none⟩ (.int .i64 (rd_T32 ns (i : Int)).f2)).setCell ⟨g9, 3, none⟩ (.int .i64 (rd_T32 ns (i : Int)).f3)).setCell ⟨g9, 4, none⟩ (.int .i64 (rd_T32 ns (i : Int)).f4)).setCell ⟨g9, 5, none⟩ (.int .i64 (rd_T32 ns (i : Int)).f5)).setCell ⟨g9, 6, none⟩ (.int .i64 (rd_T32 ns (i : Int)).f6) = w5 at q9 q10 hHeld ⊢
    have h9 := q9.out
    have h10 := q10.out
    clear q9 q10 hbl
    refine last_ (i := 13) (N := none) #[true, true, true, true, true, true, true, true, true, true, true, true, true, true] rfl rfl (by kernel_rfl) (by decide) (fun K hK => ?_)
    obtain ⟨a0, a1, a2, a3, a4, a5, a6, b0, b1, b2, b3, b4, b5, b6⟩ := blk7_ h10
    refine skip_ (w1 := ?_) (by rfl) rfl ?_ ?_
    rotate_left
    · go_simp
      rfl
    clear a0 a1 a2 a3 a4 a5 a6 b0 b1 b2 b3 b4 b5 b6
    refine hK.out _ _ ?_
    clear hK K
    refine done_ (by kernel_rfl) ?_
    -- BEHIND
    have q9 : Aside0 ((((((((w5.setCell ⟨g10, 0, none⟩ (.int .i64 (rd_T32 ns (j : Int)).f0)).setCell ⟨g10, 1, none⟩ (.int .i64 (rd_T32 ns (j : Int)).f1)).setCell ⟨g10, 2, none⟩ (.int .i64 (rd_T32 ns (j : Int)).f2)).setCell ⟨g10, 3, none⟩ (.int .i64 (rd_T32 ns (j : Int)).f3)).setCell ⟨g10, 4, none⟩ (.int .i64 (rd_T32 ns (j : Int)).f4)).setCell ⟨g10, 5, none⟩ (.int .i64 (rd_T32 ns (j : Int)).f5)).setCell ⟨g10, 6, none⟩ (.int .i64 (rd_T32 ns (j : Int)).f6)).heap[g9]? = _) := ⟨far7 h9 hne⟩
    have q10 : Aside0 ((((((((w5.setCell ⟨g10, 0, none⟩ (.int .i64 (rd_T32 ns (j : Int)).f0)).setCell ⟨g10, 1, none⟩ (.int .i64 (rd_T32 ns (j : Int)).f1)).setCell ⟨g10, 2, none⟩ (.int .i64 (rd_T32 ns (j : Int)).f2)).setCell ⟨g10, 3, none⟩ (.int .i64 (rd_T32 ns (j : Int)).f3)).setCell ⟨g10, 4, none⟩ (.int .i64 (rd_T32 ns (j : Int)).f4)).setCell ⟨g10, 5, none⟩ (.int .i64 (rd_T32 ns (j : Int)).f5)).setCell ⟨g10, 6, none⟩ (.int .i64 (rd_T32 ns (j : Int)).f6)).heap[g10]? = _) := ⟨put7 h10⟩
    have qB : Aside0 (Below W1.heap.size W1 (((((((w5.setCell ⟨g10, 0, none⟩ (.int .i64 (rd_T32 ns (j : Int)).f0)).setCell ⟨g10, 1, none⟩ (.int .i64 (rd_T32 ns (j : Int)).f1)).setCell ⟨g10, 2, none⟩ (.int .i64 (rd_T32 ns (j : Int)).f2)).setCell ⟨g10, 3, none⟩ (.int .i64 (rd_T32 ns (j : Int)).f3)).setCell ⟨g10, 4, none⟩ (.int .i64 (rd_T32 ns (j : Int)).f4)).setCell ⟨g10, 5, none⟩ (.int .i64 (rd_T32 ns (j : Int)).f5)).setCell ⟨g10, 6, none⟩ (.int .i64 (rd_T32 ns (j : Int)).f6))) := ⟨below7 hHeld.2.2.2.2.2.2.2.2.2.2.2.2.2.2.2 hg10⟩
    generalize ((((((w5.setCell ⟨g10, 0, none⟩ (.int .i64 (rd_T32 ns (j : Int)).f0)).setCell ⟨g10, 1, none⟩ (.int .i64 (rd_T32 ns (j : Int)).f1)).setCell ⟨g10, 2, none⟩ (.int .i64 (rd_T32 ns (j : Int)).f2)).setCell ⟨g10, 3, none⟩ (.int .i64 (rd_T32 ns (j : Int)).f3)).setCell ⟨g10, 4, none⟩ (.int .i64 (rd_T32 ns (j : Int)).f4)).setCell ⟨g10, 5, none⟩ (.int .i64 (rd_T32 ns (j : Int)).f5)).setCell ⟨g10, 6, none⟩ (.int .i64 (rd_T32 ns (j : Int)).f6) = w6 at q9 q10 qB ⊢
    clear h9 h10 hne hHeld
    have hk := blk_below HBK.out qB.out
    obtain ⟨x0, x1, k2, k3, x4, x5, x6, x7, f0, f1, f2, f3, f4, f5, f6, f7⟩ := blk8_ hk
    obtain ⟨a0, a1, a2, a3, a4, a5, a6, y0, y1, y2, y3, y4, y5, y6⟩ := blk7_ q9.out
    obtain ⟨z0, z1, z2, z3, z4, z5, z6, t0, t1, t2, t3, t4, t5, t6⟩ := blk7_ q10.out
    clear x0 x1 x4 x5 x6 x7 f0 f1 f2 f3 f4 f5 f6 f7 a2 a3 a4 a5 a6 y0 y1 y2 y3 y4 y5 y6 z2 z3 z4 z5 z6 t0 t1 t2 t3 t4 t5 t6 hk q9 q10
    go_wp2_with fail
    refine (metric_Dist.calls _ _ _ _ _ _ _ HD.out).mono ?_
    rintro e w2 ⟨rfl, hb⟩
    have HB := Aside0.mk (HB0.out.trans ((qB.out.mono HB0.out.size).trans (hb.mono (Nat.le_trans HB0.out.size qB.out.size))))
    clear hb
    go_wp2
    go_ret2
    exact ⟨rfl, HB.out⟩
end FeasWalk
end Go.Proofs.Ytlncbckpcmojpaa
set_option linter.unusedVariables false
set_option linter.unusedSimpArgs false
namespace Go.Proofs.Ytlncbckpcmojpaa
open Go.RowKit Go.Proofs.YtlncbckpcmojpaaW.PrintWords Go.Proofs.YtlncbckpcmojpaaW.PrintLast Go.Proofs.YtlncbckpcmojpaaW.PrintMore
namespace FeasWalk
open P
abbrev I1 (v : Int) : Obj := .cells #[.int .i64 v] 3 (0, 0)
def lateT (late now u due dst : Int) : Int := if late < 0 ∧ now > wrap64 (u * due) then dst else late
set_option maxHeartbeats 8000000 in
set_option maxRecDepth 100000 in
theorem drive_c (x : Look) (K Bk Bat Bnow Blate Bu b : Nat) (a t : Nat) (now late u : Int) (v : Value) (W : World) (hK : x.at W K v) (hBk : W.heap[Bk]? = some (.cells #[.pointer (some ⟨K, 0, none⟩)] 61 (0, 0)))
    (hAt : W.heap[Bat]? = some (I1 a)) (hNow : W.heap[Bnow]? = some (I1 now)) (hLate : W.heap[Blate]? = some (I1 late)) (hU : W.heap[Bu]? = some (I1 u))
    (n1 : Bat ≠ Bnow) (n2 : Bat ≠ Blate) (n3 : Bnow ≠ Blate) (n4 : Bu ≠ Bat ∧ Bu ≠ Bnow ∧ Bu ≠ Blate) (n5 : Bk ≠ Bat ∧ Bk ≠ Bnow ∧ Bk ≠ Blate) (n6 : K ≠ Bat ∧ K ≠ Bnow ∧ K ≠ Blate)
    (hb : b ≤ Bat ∧ b ≤ Bnow ∧ b ≤ Blate) (hr : x.rows W) (hro : ∃ w0, Below b w0 W ∧ x.rows w0 ∧ w0.heap.size ≤ b) (hn : x.ns.length ≤ 65536) (ha : a < x.ns.length) (ht : t < x.ns.length) (r1 r2 : Int) (h : legOf x a t = some (r1, r2)) :
    Calls Try.prog 59 #[.int .i64 (t : Int), .pointer (some ⟨Bk, 0, none⟩), .pointer (some ⟨Bat, 0, none⟩), .pointer (some ⟨Bnow, 0, none⟩), .pointer (some ⟨Blate, 0, none⟩), .pointer (some ⟨Bu, 0, none⟩)] W fun e w' =>
      (∃ u, e = .returned u) ∧ w'.heap[Bat]? = some (I1 t) ∧ w'.heap[Bnow]? = some (I1 (wrap64 (now + r1))) ∧ w'.heap[Blate]? = some (I1 (lateT late (wrap64 (now + r1)) u (rd_T32 x.ns (t : Int)).f4 t)) ∧
      (∀ k o, W.heap[k]? = some o → k ≠ Bat → k ≠ Bnow → k ≠ Blate → w'.heap[k]? = some o) ∧ Below b W w' := by
  obtain ⟨nm, kd, mt, sc, cp, fl, A, c, ns, B, e0, mx⟩ := x
  have HL := Lib.hid (show ∀ w', Below W.heap.size W w' → _ from fun w' hb => between_c ⟨nm, kd, mt, sc, cp, fl, A, c, ns, B, e0, mx⟩ a t w' (Look.rows_below hr hb) hn ha ht r1 r2 h)
  unfold Look.val at HL
  unfold Look.at at hK
  simp only at hK hn ha ht HL ⊢
  obtain ⟨w0, hB0, hr0, hs0⟩ := hro
  have HN := Lib.hid (And.intro hB0 (And.intro hr0.1 hs0))
  obtain ⟨k0, k1, k2, k3, k4, k5, k6, k7, k8, f0, f1, f2, f3, f4, f5, f6, f7, f8⟩ := blk9_ hK
  have HS := Lib.hid (show ∀ w', Below W.heap.size W w' → (w'.cell? ⟨Bk, 0, none⟩ = some (.pointer (some ⟨K, 0, none⟩)) ∧ w'.cell? ⟨K, 0, none⟩ = some (.string nm) ∧ w'.cell? ⟨K, 1, none⟩ = some (.int .i64 kd) ∧ w'.cell? ⟨K, 2, none⟩ = some (.int .i64 mt) ∧ w'.cell? ⟨K, 3, none⟩ = some (.int .i64 sc) ∧ w'.cell? ⟨K, 4, none⟩ = some (.int .i64 cp) ∧ w'.cell? ⟨K, 5, none⟩ = some (.int .i64 fl) ∧ w'.cell? ⟨K, 6, none⟩ = some (.slice A ns.length c) ∧ w'.cell? ⟨K, 7, none⟩ = some (.slice B mx.length e0) ∧ w'.cell? ⟨Bat, 0, none⟩ = some (.int .i64 (a : Int)) ∧ Below W.heap.size W w') from
    fun w' hb => ⟨old_cell hb (blk1_ hBk).1, old_cell hb k0, old_cell hb k1, old_cell hb k2, old_cell hb k3, old_cell hb k4, old_cell hb k5, old_cell hb k6, old_cell hb k7, old_cell hb (blk1_ hAt).1, hb⟩)
  have HKs := Lib.hid hK
  have HBk := Lib.hid hBk
  have HAt := Lib.hid hAt
  have HNow := Lib.hid hNow
  have HLate := Lib.hid hLate
  have HU := Lib.hid hU
  have HNE := Lib.hid (And.intro n5 (And.intro n6 n4))
  have HBB := Lib.hid hb
  have HNN := Lib.hid (And.intro n1 (And.intro n2 n3))
  clear hK hBk hAt hNow hLate hU k0 k1 k2 k3 k4 k5 k6 k7 k8 f0 f1 f2 f3 f4 f5 f6 f7 f8 hr h hB0 hr0 hs0 n1 n2 n3 n4 n5 n6 hb
  obtain ⟨q, hq⟩ : ∃ q, wrap64 (now + r1) = q := ⟨_, rfl⟩
  have HQ := Lib.hid ((i64_w _).trans hq : IntKind.i64.wrap (now + r1) = q)
  rw [hq]
  clear hq
  go_enter Try.func59, Try.ntmps59
  go_wp2_with fail
  -- REGION
  refine start_ (n := 12) (S := fun w' => w'.cell? ⟨Bk, 0, none⟩ = some (.pointer (some ⟨K, 0, none⟩)) ∧ w'.cell? ⟨K, 0, none⟩ = some (.string nm) ∧ w'.cell? ⟨K, 1, none⟩ = some (.int .i64 kd) ∧ w'.cell? ⟨K, 2, none⟩ = some (.int .i64 mt) ∧ w'.cell? ⟨K, 3, none⟩ = some (.int .i64 sc) ∧ w'.cell? ⟨K, 4, none⟩ = some (.int .i64 cp) ∧ w'.cell? ⟨K, 5, none⟩ = some (.int .i64 fl) ∧ w'.cell? ⟨K, 6, none⟩ = some (.slice A ns.length c) ∧ w'.cell? ⟨K, 7, none⟩ = some (.slice B mx.length e0) ∧ w'.cell? ⟨Bat, 0, none⟩ = some (.int .i64 (a : Int)) ∧ Below W.heap.size W w') (ds := []) #[false, false, false, false, false, false, false, false, false, false, false, false] (by kernel_rfl) rfl rfl (HS.out _ (below_drew1 (Below.refl _ _))) (fun hHeld => ?_)
  refine pure_ (i := 5) (N := some 16) (v := ?_) (a' := ?_) #[false, false, false, false, false, true, false, false, false, false, false, false] rfl rfl (by kernel_rfl) (fun _ _ _ h => h) (Or.inl ⟨by rfl, ?_⟩) ?_ ?_
  rotate_left
  · intro w'
    go_simp
    with_reducible rfl
  rotate_left
  · simp only [Act.put, List.setIfInBounds_toArray, List.set_cons_zero, List.set_cons_succ, i64_w, i32_w]
    rfl
  refine take_ (i := 0) (N := some 11) (v := ?_) (a' := ?_) #[true, false, false, false, false, true, false, false, false, false, false, false] rfl rfl (by kernel_rfl) (fun _ _ _ h => h) (Or.inl ⟨by rfl, ?_⟩) hHeld ?_ ?_
  rotate_left
  · rintro w' ⟨s0, s1, s2, s3, s4, s5, s6, s7, s8, s9, s10⟩
    go_simp
    with_reducible rfl
  rotate_left
  · simp only [Act.put, List.setIfInBounds_toArray, List.set_cons_zero, List.set_cons_succ, i64_w, i32_w]
    rfl
  refine pure_ (i := 1) (N := some 12) (v := ?_) (a' := ?_) #[true, true, false, false, false, true, false, false, false, false, false, false] rfl rfl (by kernel_rfl) (fun _ _ _ h => h) (Or.inl ⟨by rfl, ?_⟩) ?_ ?_
  rotate_left
  · intro w'
    go_simp
    with_reducible rfl
  rotate_left
  · simp only [Act.put, List.setIfInBounds_toArray, List.set_cons_zero, List.set_cons_succ, i64_w, i32_w]
    rfl
  refine pure_ (i := 2) (N := some 13) (v := ?_) (a' := ?_) #[true, true, true, false, false, true, false, false, false, false, false, false] rfl rfl (by kernel_rfl) (fun _ _ _ h => h) (Or.inl ⟨by rfl, ?_⟩) ?_ ?_
  rotate_left
  · intro w'
    go_simp
    with_reducible rfl
  rotate_left
  · simp only [Act.put, List.setIfInBounds_toArray, List.set_cons_zero, List.set_cons_succ, i64_w, i32_w]
    rfl
  refine take_ (i := 3) (N := some 14) (v := ?_) (a' := ?_) #[true, true, true, true, false, true, false, false, false, false, false, false] rfl rfl (by kernel_rfl) (fun _ _ _ h => h) (Or.inl ⟨by rfl, ?_⟩) hHeld ?_ ?_
  rotate_left
  · rintro w' ⟨s0, s1, s2, s3, s4, s5, s6, s7, s8, s9, s10⟩
    go_simp
    with_reducible rfl
  rotate_left
  · simp only [Act.put, List.setIfInBounds_toArray, List.set_cons_zero, List.set_cons_succ, i64_w, i32_w]
    rfl
  refine take_ (i := 4) (N := some 15) (v := ?_) (a' := ?_) #[true, true, true, true, true, true, false, false, false, false, false, false] rfl rfl (by kernel_rfl) (fun _ _ _ h => h) (Or.inl ⟨by rfl, ?_⟩) hHeld ?_ ?_
  rotate_left
  · rintro w' ⟨s0, s1, s2, s3, s4, s5, s6, s7, s8, s9, s10⟩
    go_simp
    with_reducible rfl
  rotate_left
  · simp only [Act.put, List.setIfInBounds_toArray, List.set_cons_zero, List.set_cons_succ, i64_w, i32_w]
    rfl
  refine one_ (i := 6) (N := some 17) #[true, true, true, true, true, true, true, false, false, false, false, false] rfl rfl (by kernel_rfl) (by decide) (fun K hK => ?_)
  have hbl := hHeld.2.2.2.2.2.2.2.2.2.2
  refine goes_ Try.func47 (by kernel_rfl) rfl #[.agg #[.string nm, .int .i64 kd, .int .i64 mt, .int .i64 sc, .int .i64 cp, .int .i64 fl, .slice A ns.length c, .slice B mx.length e0], .int .i64 (a : Int), .int .i64 (t : Int)] (by rfl) rfl rfl (by simp only [List.map_toArray, List.map_cons, List.map_nil]; rfl) ?_
  with_reducible refine (HL.out _ hbl).mono ?_
  rintro e w3 ⟨rfl, hb⟩
  refine ⟨_, rfl, ?_⟩
  have hb3 := hbl.trans (hb.mono hbl.size)
  clear hb hbl
  refine hK.out _ _ (HS.out _ hb3) (fun hHeld => ?_)
  clear hK K
  refine norm_ (a' := ?_) ?_ ?_
  rotate_left
  · show Act.put _ (some 17) _ = _
    simp only [Act.put, List.setIfInBounds_toArray, List.set_cons_zero, List.set_cons_succ, i64_w, i32_w]
    rfl
  refine pure_ (i := 7) (N := some 10) (v := ?_) (a' := ?_) #[true, true, true, true, true, true, true, true, false, false, false, false] rfl rfl (by kernel_rfl) (fun _ _ _ h => h) (Or.inl ⟨by rfl, ?_⟩) ?_ ?_
  rotate_left
  · intro w'
    go_simp
    with_reducible rfl
  rotate_left
  · simp only [Act.put, List.setIfInBounds_toArray, List.set_cons_zero, List.set_cons_succ, i64_w, i32_w]
    rfl
  refine pure_ (i := 8) (N := some 18) (v := ?_) (a' := ?_) #[true, true, true, true, true, true, true, true, true, false, false, false] rfl rfl (by kernel_rfl) (fun _ _ _ h => h) (Or.inl ⟨by rfl, ?_⟩) ?_ ?_
  rotate_left
  · intro w'
    go_simp
    with_reducible rfl
  rotate_left
  · simp only [Act.put, List.setIfInBounds_toArray, List.set_cons_zero, List.set_cons_succ, i64_w, i32_w]
    rfl
  refine pure_ (i := 9) (N := some 19) (v := ?_) (a' := ?_) #[true, true, true, true, true, true, true, true, true, true, false, false] rfl rfl (by kernel_rfl) (fun _ _ _ h => h) (Or.inl ⟨by rfl, ?_⟩) ?_ ?_
  rotate_left
  · intro w'
    go_simp
    with_reducible rfl
  rotate_left
  · simp only [Act.put, List.setIfInBounds_toArray, List.set_cons_zero, List.set_cons_succ, i64_w, i32_w]
    rfl
  refine pure_ (i := 10) (N := some 7) (v := ?_) (a' := ?_) #[true, true, true, true, true, true, true, true, true, true, true, false] rfl rfl (by kernel_rfl) (fun _ _ _ h => h) (Or.inl ⟨by rfl, ?_⟩) ?_ ?_
  rotate_left
  · intro w'
    go_simp
    with_reducible rfl
  rotate_left
  · simp only [Act.put, List.setIfInBounds_toArray, List.set_cons_zero, List.set_cons_succ, i64_w, i32_w]
    rfl
  refine pure_ (i := 11) (N := some 8) (v := ?_) (a' := ?_) #[true, true, true, true, true, true, true, true, true, true, true, true] rfl rfl (by kernel_rfl) (fun _ _ _ h => h) (Or.inl ⟨by rfl, ?_⟩) ?_ ?_
  rotate_left
  · intro w'
    go_simp
    with_reducible rfl
  rotate_left
  · simp only [Act.put, List.setIfInBounds_toArray, List.set_cons_zero, List.set_cons_succ, i64_w, i32_w]
    rfl
  refine done_ (by kernel_rfl) ?_
  -- BEHIND
  clear hHeld
  have hqw := HQ.out
  have bNow := blk_below HNow.out hb3
  have bAt := blk_below HAt.out hb3
  obtain ⟨c1, f1⟩ := blk1_ bNow
  obtain ⟨c2, f2⟩ := blk1_ bAt
  have e1 := HNN.out.1
  have e2 := e1.symm
  go_upto_region 2 with (fail)
  have hlt := blk_lt HAt.out
  have qNow : Aside0 (((w3.setCell ⟨Bnow, 0, none⟩ (.int .i64 q)).setCell ⟨Bat, 0, none⟩ (.int .i64 (t : Int))).heap[Bnow]? = some (I1 q)) := ⟨blk_far (p := ⟨Bat, 0, none⟩) (blk_put bNow 0 _ rfl) e2 _⟩
  have qAt : Aside0 (((w3.setCell ⟨Bnow, 0, none⟩ (.int .i64 q)).setCell ⟨Bat, 0, none⟩ (.int .i64 (t : Int))).heap[Bat]? = some (I1 t)) := ⟨blk_put (blk_far (p := ⟨Bnow, 0, none⟩) bAt e1 _) 0 _ rfl⟩
  have qB : Aside0 (Below b W ((w3.setCell ⟨Bnow, 0, none⟩ (.int .i64 q)).setCell ⟨Bat, 0, none⟩ (.int .i64 (t : Int)))) := ⟨((hb3.mono (Nat.le_of_lt (Nat.lt_of_le_of_lt HBB.out.1 hlt))).setCell (p := ⟨Bnow, 0, none⟩) HBB.out.2.1 _).setCell (p := ⟨Bat, 0, none⟩) HBB.out.1 _⟩
  have qF : Aside0 (∀ k o, W.heap[k]? = some o → k ≠ Bat → k ≠ Bnow → ((w3.setCell ⟨Bnow, 0, none⟩ (.int .i64 q)).setCell ⟨Bat, 0, none⟩ (.int .i64 (t : Int))).heap[k]? = some o) :=
    ⟨fun k o hk n1 n2 => (Below.heap_setCell _ _ _ _ (show k ≠ (⟨Bat, 0, none⟩ : Addr).block from n1)).trans ((Below.heap_setCell _ _ _ _ (show k ≠ (⟨Bnow, 0, none⟩ : Addr).block from n2)).trans (blk_below hk hb3))⟩
  generalize (w3.setCell ⟨Bnow, 0, none⟩ (.int .i64 q)).setCell ⟨Bat, 0, none⟩ (.int .i64 (t : Int)) = w4 at qNow qAt qB qF ⊢
  clear bNow bAt c1 f1 c2 f2 e1 e2 hb3 hqw
  have bK := qF.out _ _ HKs.out HNE.out.2.1.1 HNE.out.2.1.2.1
  have bBk := qF.out _ _ HBk.out HNE.out.1.1 HNE.out.1.2.1
  obtain ⟨k0, k1, k2, k3, k4, k5, k6, k7, k8, f0, f1, f2, f3, f4, f5, f6, f7, f8⟩ := blk9_ bK
  obtain ⟨j0, -⟩ := blk1_ bBk
  clear k0 k1 k2 k3 k4 k5 k7 k8 f0 f1 f2 f3 f4 f5 f6 f7 f8 bK bBk
  have hC4 := Kd.C_below HN.out.2.1 ((HN.out.1.trans qB.out).mono HN.out.2.2)
  obtain ⟨ad, e1, c0, c1, c2, c3, c4, c5, c6⟩ := at_T32 hC4 (t : Int) (by omega) (by omega)
  cases e1
  rw [Int.toNat_natCast] at c0 c1 c2 c3 c4 c5 c6
  have p1 : (0 : Int) ≤ (t : Int) ∧ (t : Int) < (ns.length : Int) := by omega
  clear hC4
  generalize hd : rd_T32 ns (t : Int) = d at *
  have HDn := Lib.hid hd
  clear hd
  go_upto_region 3 with (fail)
  have bD := heap_alloc_new w4 (.cells #[.int .i64 d.f0, .int .i64 d.f1, .int .i64 d.f2, .int .i64 d.f3, .int .i64 d.f4, .int .i64 d.f5, .int .i64 d.f6] 32)
  have rNow := Aside0.mk (blk_alloc qNow.out (.cells #[.int .i64 d.f0, .int .i64 d.f1, .int .i64 d.f2, .int .i64 d.f3, .int .i64 d.f4, .int .i64 d.f5, .int .i64 d.f6] 32))
  have rAt := Aside0.mk (blk_alloc qAt.out (.cells #[.int .i64 d.f0, .int .i64 d.f1, .int .i64 d.f2, .int .i64 d.f3, .int .i64 d.f4, .int .i64 d.f5, .int .i64 d.f6] 32))
  have rB := Aside0.mk (qB.out.alloc (Nat.le_trans (Nat.le_of_lt (Nat.lt_of_le_of_lt HBB.out.1 hlt)) qB.out.size) (.cells #[.int .i64 d.f0, .int .i64 d.f1, .int .i64 d.f2, .int .i64 d.f3, .int .i64 d.f4, .int .i64 d.f5, .int .i64 d.f6] 32))
  have rF := Aside0.mk (fun (k : Nat) (o : Obj) (hk : W.heap[k]? = some o) (n1 : k ≠ Bat) (n2 : k ≠ Bnow) => blk_alloc (qF.out k o hk n1 n2) (.cells #[.int .i64 d.f0, .int .i64 d.f1, .int .i64 d.f2, .int .i64 d.f3, .int .i64 d.f4, .int .i64 d.f5, .int .i64 d.f6] 32))
  generalize w4.heap.size = Bd at bD ⊢
  generalize w4.alloc (.cells #[.int .i64 d.f0, .int .i64 d.f1, .int .i64 d.f2, .int .i64 d.f3, .int .i64 d.f4, .int .i64 d.f5, .int .i64 d.f6] 32) = w5 at bD rNow rAt rB rF ⊢
  clear qNow qAt qB qF k6 j0 c0 c1 c2 c3 c4 c5 c6 p1
  have bLate := rF.out _ _ HLate.out HNN.out.2.1.symm HNN.out.2.2.symm
  have bU := rF.out _ _ HU.out HNE.out.2.2.1 HNE.out.2.2.2.1
  obtain ⟨x0, x1, x2, x3, d4, x5, x6, g0, g1, g2, g3, g4, g5, g6⟩ := blk7_ bD
  obtain ⟨l0, lf⟩ := blk1_ bLate
  obtain ⟨u0, -⟩ := blk1_ bU
  obtain ⟨m0, -⟩ := blk1_ rNow.out
  clear x0 x1 x2 x3 x5 x6 g0 g1 g2 g3 g4 g5 g6 bU bD
  obtain ⟨y, hy⟩ : ∃ y, wrap64 (u * d.f4) = y := ⟨_, rfl⟩
  have hyw : IntKind.i64.wrap (u * d.f4) = y := (i64_w _).trans hy
  have HY := Lib.hid hy
  clear hy
  by_cases z1 : late < 0
  · have b1 : decide (late < 0) = true := decide_eq_true z1
    by_cases z2 : q > y
    · have b2 : decide (y < q) = true := decide_eq_true z2
      have HL2 := Lib.hid (show lateT late q u d.f4 t = t by unfold lateT; rw [HY.out]; exact if_pos ⟨z1, z2⟩)
      clear z1 z2
      go_wp2
      go_end0
      rw [HDn.out, HL2.out]
      exact ⟨⟨_, rfl⟩, blk_far (p := ⟨Blate, 0, none⟩) rAt.out HNN.out.2.1 _, blk_far (p := ⟨Blate, 0, none⟩) rNow.out HNN.out.2.2 _, blk_put bLate 0 _ rfl, fun k o hk n1 n2 n3 => (Below.heap_setCell _ _ _ _ (show k ≠ (⟨Blate, 0, none⟩ : Addr).block from n3)).trans (rF.out k o hk n1 n2), rB.out.setCell (p := ⟨Blate, 0, none⟩) HBB.out.2.2 _⟩
    · have b2 : decide (y < q) = false := decide_eq_false z2
      have HL2 := Lib.hid (show lateT late q u d.f4 t = late by unfold lateT; rw [HY.out]; exact if_neg (fun h => z2 h.2))
      clear z1 z2
      go_wp2
      go_end0
      rw [HDn.out, HL2.out]
      exact ⟨⟨_, rfl⟩, rAt.out, rNow.out, bLate, fun k o hk n1 n2 _ => rF.out k o hk n1 n2, rB.out⟩
  · have b1 : decide (late < 0) = false := decide_eq_false z1
    have HL2 := Lib.hid (show lateT late q u d.f4 t = late by unfold lateT; exact if_neg (fun h => z1 h.1))
    clear z1
    go_wp2
    go_end0
    rw [HDn.out, HL2.out]
    exact ⟨⟨_, rfl⟩, rAt.out, rNow.out, bLate, fun k o hk n1 n2 _ => rF.out k o hk n1 n2, rB.out⟩
end FeasWalk
end Go.Proofs.Ytlncbckpcmojpaa
