/- Texts of this session in one: root.Floor computes the greatest whole number whose square is its argument at most: the walk of the function and of its ; Rounded roots of quotients: what root.Near, root.Down and root.Ceil compute, as natural numbers, and what these are leas -/
import Derived.RangeFuncNested
import Derived.RangeFuncBound
import Derived.RangeFuncCalls
import Derived.RangeFuncLeaves
import Derived.RangeFuncFrom
import Derived.Shelf.Abstract
import Derived.Shelf.RegionOpen
import Derived.WalkKit
import Derived.OwnWalkIn
import Derived.TacticsInMore
import Derived.LoopNIn
import Derived.LoopIn
import Derived.Lib.Hide
import Derived.Test.YtlncbckpcmojpaaMka
import Derived.Test.YtlncbckpcmojpaaPx0
namespace Go.Proofs.Ytlncbckpcmojpaa
open Go.RowKit
namespace FloorWalk
open Go.RowKit Go.Shelf Go.Proofs.YtlncbckpcmojpaaW.PrintWords
attribute [local go_sem] Oper.semAt_some

theorem cell_of_box {W : World} {B : Nat} {v : Value} {t : TypeId} (h : W.heap[B]? = some (.cells #[v] t (0, 0))) : W.cell? ⟨B, 0, none⟩ = some v ∧ W.frozen? ⟨B, 0, none⟩ = false := by
  constructor <;> simp [World.cell?, World.frozen?, h]
theorem cell_new (W : World) (v : Value) (t : TypeId) : (W.alloc (.cells #[v] t)).cell? ⟨W.heap.size, 0, none⟩ = some v ∧ (W.alloc (.cells #[v] t)).frozen? ⟨W.heap.size, 0, none⟩ = false :=
  cell_of_box (World.alloc_heap_new W _)
theorem cell_alloc {W : World} {a : Addr} {v : Value} (o : Obj) (h : W.cell? a = some v) : (W.alloc o).cell? a = some v := cell_kept h (World.grownBy_alloc W o none) (fun r e => by cases e)
theorem frozen_alloc {W : World} {a : Addr} {v : Value} (o : Obj) (h : W.cell? a = some v) (hf : W.frozen? a = false) : (W.alloc o).frozen? a = false := (frozen_kept h (World.grownBy_alloc W o none) (fun r e => by cases e)).trans hf

/-- what a round keeps: the number's own cell. -/
def KeepN (b : Nat) (n : Int) (A B : World) : Prop := A.cell? ⟨b, 0, none⟩ = some (.int .i64 n) → B.cell? ⟨b, 0, none⟩ = some (.int .i64 n)

set_option maxRecDepth 100000 in
theorem len_tab : ∃ T : Int → Int, (∀ k x y, P.bits_Len64.j0 (k + 1) x y = if x ≥ 65536 then (if x / 65536 ≥ 256 then (if 0 ≤ x / 65536 / 256 % 256 then (if x / 65536 / 256 % 256 < 256 then some (wrap64 (wrap64 (wrap64 (y + 16) + 8) + wrap64 (T (x / 65536 / 256 % 256)))) else none) else none)
      else (if 0 ≤ x / 65536 % 256 then (if x / 65536 % 256 < 256 then some (wrap64 (wrap64 (y + 16) + wrap64 (T (x / 65536 % 256)))) else none) else none))
    else (if x ≥ 256 then (if 0 ≤ x / 256 % 256 then (if x / 256 % 256 < 256 then some (wrap64 (wrap64 (y + 8) + wrap64 (T (x / 256 % 256)))) else none) else none)
      else (if 0 ≤ x % 256 then (if x % 256 < 256 then some (wrap64 (y + wrap64 (T (x % 256)))) else none) else none))) ∧
    ∀ i : Fin 256, 0 ≤ T i.val ∧ T i.val ≤ 8 ∧ (1 ≤ i.val → 2 ^ (T i.val).toNat ≤ 2 * i.val ∧ i.val < 2 ^ (T i.val).toNat) := by
  refine ⟨fun i => bt ?t i, ?h, ?_⟩
  case h => intro k x y; rfl
  decide +kernel

theorem pow_up {L m : Nat} {x i : Nat} (hm : 2 ^ L ≤ 2 * i ∧ i < 2 ^ L) (h1 : 2 ^ m * i ≤ x) (h2 : x < 2 ^ m * (i + 1)) : 2 ^ (m + L) ≤ 2 * x ∧ x < 2 ^ (m + L) := by
  rw [Nat.pow_add]
  generalize 2 ^ L = b at *
  generalize 2 ^ m = a at *
  have h3 := Nat.mul_le_mul_left a hm.1
  have h4 := Nat.mul_le_mul_left a (show i + 1 ≤ b from hm.2)
  rw [Nat.mul_left_comm] at h3
  exact ⟨by omega, by omega⟩

/-- What bits.Len gives of a number that an int holds. -/
theorem len_tells (x : Int) (h0 : 1 ≤ x) (h1 : x ≤ 9223372036854775807) : ∃ L : Nat, L ≤ 64 ∧ P.bits_Len.f 2 x = some (L : Int) ∧ 2 ^ L ≤ 2 * x.toNat ∧ x.toNat < 2 ^ L := by
  obtain ⟨T, hT, hb⟩ := len_tab
  have hb' : ∀ i : Int, 0 ≤ i → i < 256 → 0 ≤ T i ∧ T i ≤ 8 ∧ (1 ≤ i → 2 ^ (T i).toNat ≤ 2 * i.toNat ∧ i.toNat < 2 ^ (T i).toNat) := fun i a b => by
    have := hb ⟨i.toNat, by omega⟩
    simp only [Int.toNat_of_nonneg a] at this
    exact ⟨this.1, this.2.1, fun c => this.2.2 (by omega)⟩
  clear hb
  have key : ∀ (y m : Nat) (i : Int), m ≤ 32 + 24 → 1 ≤ i → i < 256 → 2 ^ m * i.toNat ≤ x.toNat → x.toNat < 2 ^ m * (i.toNat + 1) → ∀ r, r = some ((m : Int) + T i) →
      ∃ L : Nat, L ≤ 64 ∧ r = some (L : Int) ∧ 2 ^ L ≤ 2 * x.toNat ∧ x.toNat < 2 ^ L := fun y m i hm a b c d r hr => by
    obtain ⟨t0, t1, t2⟩ := hb' i (by omega) b
    have := pow_up (t2 a) c d
    exact ⟨m + (T i).toNat, by omega, by rw [hr]; congr 1; omega, this⟩
  have wr : ∀ a : Int, 0 ≤ a → a ≤ 100 → wrap64 a = a := fun a _ _ => by unfold wrap64; omega
  have main : ∀ (z : Int) (y : Nat), (y = 0 ∧ z = x ∨ y = 32 ∧ z = x / 4294967296) → 1 ≤ z → z ≤ 4294967295 → ∃ L : Nat, L ≤ 64 ∧ P.bits_Len64.j0 2 z y = some (L : Int) ∧ 2 ^ L ≤ 2 * x.toNat ∧ x.toNat < 2 ^ L := by
    intro z y hz z1 z2
    have ez : 2 ^ y * z.toNat ≤ x.toNat ∧ x.toNat < 2 ^ y * (z.toNat + 1) := by
      rcases hz with ⟨rfl, rfl⟩ | ⟨rfl, rfl⟩
      · simp
      · simp; omega
    have sub : ∀ (s : Nat) (i : Int), s ≤ 24 → i = z / 2 ^ s → 1 ≤ i → i < 256 → ∀ r, r = some ((y : Int) + s + T i) → ∃ L : Nat, L ≤ 64 ∧ r = some (L : Int) ∧ 2 ^ L ≤ 2 * x.toNat ∧ x.toNat < 2 ^ L := by
      intro s i hs hi i1 i2 r hr
      have e : i.toNat = z.toNat / 2 ^ s := by
        rw [hi, show ((2 : Int) ^ s) = ((2 ^ s : Nat) : Int) by simp]
        have hz' : z = (z.toNat : Int) := by omega
        generalize z.toNat = zn at hz'
        rw [hz', ← Int.natCast_ediv]; rfl
      have hp : 0 < 2 ^ s := Nat.pow_pos (by omega)
      have d1 := Nat.div_mul_le_self z.toNat (2 ^ s)
      have d2 := Nat.lt_mul_div_succ z.toNat hp
      refine key y (y + s) i (by omega) i1 i2 ?_ ?_ r (by rw [hr]; congr 1)
      · rw [Nat.pow_add, Nat.mul_assoc, e]
        refine Nat.le_trans (Nat.mul_le_mul_left _ ?_) ez.1
        rw [Nat.mul_comm]; exact d1
      · rw [Nat.pow_add, Nat.mul_assoc, e]
        refine Nat.lt_of_lt_of_le ez.2 (Nat.mul_le_mul_left _ d2)
    rw [hT]
    by_cases c1 : z ≥ 65536
    · rw [if_pos c1]
      by_cases c2 : z / 65536 ≥ 256
      · rw [if_pos c2, if_pos (by omega), if_pos (by omega)]
        obtain ⟨t0, t1, _⟩ := hb' (z / 65536 / 256 % 256) (by omega) (by omega)
        refine sub 24 (z / 65536 / 256 % 256) (by omega) (by omega) (by omega) (by omega) _ ?_
        rw [wr (T _) t0 (by omega), wr ((y : Int) + 16) (by omega) (by omega), wr (((y : Int) + 16) + 8) (by omega) (by omega), wr _ (by omega) (by omega)]
        congr 1
      · rw [if_neg c2, if_pos (by omega), if_pos (by omega)]
        obtain ⟨t0, t1, _⟩ := hb' (z / 65536 % 256) (by omega) (by omega)
        refine sub 16 (z / 65536 % 256) (by omega) (by omega) (by omega) (by omega) _ ?_
        rw [wr (T _) t0 (by omega), wr ((y : Int) + 16) (by omega) (by omega), wr _ (by omega) (by omega)]
        congr 1
    · rw [if_neg c1]
      by_cases c2 : z ≥ 256
      · rw [if_pos c2, if_pos (by omega), if_pos (by omega)]
        obtain ⟨t0, t1, _⟩ := hb' (z / 256 % 256) (by omega) (by omega)
        refine sub 8 (z / 256 % 256) (by omega) (by omega) (by omega) (by omega) _ ?_
        rw [wr (T _) t0 (by omega), wr ((y : Int) + 8) (by omega) (by omega), wr _ (by omega) (by omega)]
        congr 1
      · rw [if_neg c2, if_pos (by omega), if_pos (by omega)]
        obtain ⟨t0, t1, _⟩ := hb' (z % 256) (by omega) (by omega)
        refine sub 0 (z % 256) (by omega) (by omega) (by omega) (by omega) _ ?_
        rw [wr (T _) t0 (by omega), wr _ (by omega) (by omega)]
        congr 1
  unfold P.bits_Len.f P.bits_Len64.f
  have step : ∀ q : Option Int, (q.bind fun t => some t) = q := fun q => by cases q <;> rfl
  rw [step]
  by_cases c : x ≥ 4294967296
  · rw [if_pos c]; exact main _ 32 (.inr ⟨rfl, rfl⟩) (by omega) (by omega)
  · rw [if_neg c]; exact main _ 0 (.inl ⟨rfl, rfl⟩) (by omega) (by omega)

/-- the first guess. -/
def g0 (n : Int) : Nat := 2 ^ (((((P.bits_Len.f 2 n).getD 0).toNat) + 1) / 2)
theorem g0_tells (n : Int) (h0 : 1 ≤ n) (h1 : n ≤ 9223372036854775807) : isq n.toNat ≤ g0 n ∧ 1 ≤ g0 n ∧ g0 n ≤ 4294967296 := by
  obtain ⟨L, hL, hf, hl, hu⟩ := len_tells n h0 h1
  unfold g0
  rw [hf]
  simp only [Option.getD_some, Int.toNat_natCast]
  have h64 : 2 ^ L ≤ 2 ^ 64 := Nat.pow_le_pow_right (by omega) hL
  refine ⟨guess_start hu, Nat.pow_pos (by omega), ?_⟩
  have : 2 ^ ((L + 1) / 2) ≤ 2 ^ 32 := Nat.pow_le_pow_right (by omega) (by omega)
  omega

set_option maxRecDepth 100000 in
set_option maxHeartbeats 2000000 in
theorem guesses_in (m : Nat) (n : Int) (w : World) :
    CallsIn Fence.wide m Try.prog 102 #[.int .i64 n] w fun e w' => e = .returned (.func (.func 104) #[] #[.pointer (some ⟨w.heap.size, 0, none⟩)]) ∧ w' = w.alloc (.cells #[.int .i64 n] 3) := by
  refine callsIn_of_wp Try.func102 rfl trivial ?_ rfl
  simp only [Try.ntmps102, List.size_toArray, List.length_cons, List.length_nil, Nat.reduceAdd, Nat.reduceSub, Array.replicate_succ, Array.replicate_zero, List.push_toArray, List.append_toArray, List.nil_append, List.cons_append]
  gi_wp2
  go_ret
  exact ⟨rfl, rfl⟩
theorem quo_le (n x : Nat) (h1 : 1 ≤ n) (hx : isq n ≤ x) : n / x ≤ isq n + 2 := by
  have h2 := isq_lt n
  have hs : 1 ≤ isq n := le_isq (by omega)
  generalize isq n = s at *
  refine Nat.le_of_lt_succ ((Nat.div_lt_iff_lt_mul (by omega)).2 ?_)
  have h3 := Nat.mul_le_mul_left (s + 3) hx
  have h4 : (s + 1) * (s + 1) ≤ (s + 3) * s := by simp only [Nat.add_mul, Nat.mul_add, Nat.mul_one, Nat.one_mul]; omega
  show n < (s + 3) * x
  omega
theorem next_guess (n : Int) (x y : Nat) (h0 : 1 ≤ n) (hx : isq n.toNat ≤ x) (hx3 : x ≤ 4294967296) (hy : (x + n.toNat / x) / 2 = y) : wrap64 ((wrap64 (↑x + n / ↑x)).tdiv 2) = (y : Int) := by
  have e1 : n / (x : Int) = ((n.toNat / x : Nat) : Int) := by
    have hn : n = (n.toNat : Int) := by omega
    generalize n.toNat = m at hn
    rw [hn, ← Int.natCast_ediv]
  have e2 := quo_le n.toNat x (by omega) hx
  rw [e1, ← hy]
  generalize n.toNat / x = z at *
  generalize isq n.toNat = s at *
  clear e1 hy
  have e3 : wrap64 ((x : Int) + z) = ((x + z : Nat) : Int) := by unfold wrap64; omega
  rw [e3, Int.tdiv_eq_ediv_of_nonneg (by omega)]
  unfold wrap64; omega
set_option maxRecDepth 100000 in
set_option maxHeartbeats 2000000 in
theorem guesses1_in (m : Nat) (hm : 1 ≤ m) (l b : Nat) (n : Int) (h0 : 1 ≤ n) (h1 : n ≤ 9223372036854775807) (J Jx : List Int → World → Prop)
    (W : World) (hJ : AbidesFrom W.heap.size J)
    (hY : ∀ pre x W, J pre W → pre.length < 4294967297 → YieldAt Fence.wide (m - 1) Try.prog l #[.int .i64 x] W fun e W' =>
      (e = .returned (.bool true) ∧ J (pre ++ [x]) W' ∧ KeepN b n W W') ∨ (e = .returned (.bool false) ∧ Jx (pre ++ [x]) W'))
    (hb : W.cell? ⟨b, 0, none⟩ = some (.int .i64 n)) (hJ0 : J [] W) :
    CallsIn Fence.wide m Try.prog 104 #[.func (.yield l) #[] #[], .pointer (some ⟨b, 0, none⟩)] W fun e W' => (∃ v, e = .returned v) ∧
      ((∃ ys : List Int, ys.getLastD 0 = (isq n.toNat : Int) ∧ J ys W') ∨ (∃ pre, True ∧ Jx pre W')) := by
  obtain ⟨L, hL, hf, hl, hu⟩ := len_tells n h0 h1
  have hg := g0_tells n h0 h1
  have eg0 : wrap64 (2 ^ ((L + 1) / 2)) = (g0 n : Int) := by
    have e : g0 n = 2 ^ ((L + 1) / 2) := by unfold g0; rw [hf]; rfl
    have e2 : ((2 : Int) ^ ((L + 1) / 2)) = ((2 ^ ((L + 1) / 2) : Nat) : Int) := by simp
    rw [e2, ← e]; unfold wrap64; omega
  have Hf := Lib.hid hf; clear hf
  have Heg := Lib.hid eg0; clear eg0
  refine callsIn_of_wp Try.func104 rfl trivial ?_ rfl
  simp only [Try.ntmps104, List.size_toArray, List.length_cons, List.length_nil, Nat.reduceAdd, Nat.reduceSub, Array.replicate_succ, Array.replicate_zero, List.push_toArray, List.append_toArray, List.nil_append, List.cons_append]
  gi_wp2_with (refine ⟨trivial, ?_⟩; gi_at_call 105; refine (callsIn_wide.2 (P.bits_Len.calls 2 n L _ Hf.out)).mono ?_; rintro e w' ⟨rfl, ⟨nd, rfl⟩⟩)
  rw [Heg.out]
  generalize g0 n = q at hg
  clear Heg Hf hl hu
  gi_loopw [3] (fun v wr => ∃ (pre : List Int) (x : Nat), v = .int .i64 x ∧ isq n.toNat ≤ x ∧ 1 ≤ x ∧ x ≤ 4294967296 ∧ pre.length + x ≤ 4294967296 ∧ J pre wr ∧ wr.cell? ⟨b, 0, none⟩ = some (.int .i64 n))
    (fun v wr => (intOf v).toNat)
  case atStart =>
    exact ⟨[], q, rfl, hg.1, hg.2.1, hg.2.2, by simpa using hg.2.2, hJ _ _ _ none hJ0 (grown_of_below (pw_below_drewN (Below.refl _ W) nd) none) (fun r e => by cases e), hb⟩
  case round =>
    obtain ⟨pre, x, rfl, hx1, hx2, hx3, hx4, hJs, hbr⟩ := hrel
    obtain ⟨fn, tmps, assign, body, hy, hR⟩ := hY pre x wr hJs (by omega)
    gi_wp2
    refine hR.mono ?_
    rintro e W3 (⟨rfl, hJ3, hk3⟩ | ⟨rfl, hJx3⟩)
    · have hb3 := hk3 hbr
      have hq : ∃ y : Nat, (x + n.toNat / x) / 2 = y := ⟨_, rfl⟩
      obtain ⟨y, hy'⟩ := hq
      have hge := guess_ge n.toNat x hx2
      have hend := guess_end (n := n.toNat) hx2 hx1
      rw [hy'] at hge hend
      have E := Lib.hid (next_guess n x y h0 hx1 hx3 hy')
      clear hy'
      have hs1 : 1 ≤ isq n.toNat := le_isq (by omega)
      gi_wp2
      · have hle : (x : Int) ≤ wrap64 ((wrap64 (↑x + n / ↑x)).tdiv 2) := by assumption
        rw [E.out] at hle
        refine bodyPost_ret (results_none rfl _ _ _) rfl ?_
        exact ⟨⟨_, rfl⟩, .inl ⟨pre ++ [(x : Int)], by rw [hend (by omega)]; simp, hJ3⟩⟩
      · have hlt : wrap64 ((wrap64 (↑x + n / ↑x)).tdiv 2) < (x : Int) := by assumption
        rw [E.out] at hlt ⊢
        refine ⟨⟨pre ++ [(x : Int)], y, rfl, hge, by omega, by omega, by simp; omega, hJ3, hb3⟩, by simp [intOf]; omega⟩
    · gi_wp2
      go_end0
      exact ⟨⟨_, rfl⟩, .inr ⟨pre ++ [(x : Int)], trivial, hJx3⟩⟩
theorem guesses_stops (m : Nat) (hm : 1 ≤ m) (b : Nat) (n : Int) (h0 : 1 ≤ n) (h1 : n ≤ 9223372036854775807) (w : World) (hbw : b < w.heap.size) (hb : w.cell? ⟨b, 0, none⟩ = some (.int .i64 n)) :
    SeqStopsK Fence.wide m Try.prog 104 #[.pointer (some ⟨b, 0, none⟩)] (fun x : Int => #[Value.int .i64 x]) (KeepN b n) (fun ys => ys.getLastD 0 = (isq n.toNat : Int)) (fun _ => True) 4294967297 w := fun l J Jx W hW hJ _ hY h0' =>
  guesses1_in m hm l b n h0 h1 J Jx W hJ hY ((hW.cell (p := ⟨b, 0, none⟩) hbw).trans hb) h0'
set_option maxRecDepth 100000 in
set_option maxHeartbeats 2000000 in
theorem floor_in (n : Int) (h0 : 1 ≤ n) (h1 : n ≤ 9223372036854775807) (w : World) :
    CallsIn Fence.wide 8 Try.prog 98 #[.int .i64 n] w fun e W' => e = .returned (.int .i64 (isq n.toNat)) ∧ Below w.heap.size w W' := by
  refine callsIn_of_wp_marks Try.func98 rfl trivial ?_ rfl
  simp only [Try.ntmps98, List.size_toArray, List.length_cons, List.length_nil, Nat.reduceAdd, Nat.reduceSub, Array.replicate_succ, Array.replicate_zero, List.push_toArray, List.append_toArray, List.nil_append, List.cons_append]
  have hn0 : decide (n ≤ 0) = false := decide_eq_false (by omega)
  gi_wp2_with (refine ⟨trivial, ?_⟩; gi_at_call 102; refine (guesses_in _ _ _).mono ?_; rintro e w' ⟨rfl, rfl⟩)
  have hs := cell_new w (.int .i64 0) 3
  have hb := cell_new (w.alloc (.cells #[.int .i64 0] 3)) (.int .i64 n) 3
  rw [World.size_alloc] at hb
  have hB0 : Below w.heap.size w ((w.alloc (.cells #[.int .i64 0] 3)).alloc (.cells #[.int .i64 n] 3)) := ((Below.refl _ w).alloc (Nat.le_refl _) _).alloc (by simp) _
  refine RangeV.wpIn_rangeFunc_assigns rfl (by omega) (gf := 104) (lb := #[.pointer (some ⟨w.heap.size + 1, 0, none⟩)]) rfl trivial (enters_of Try.func104 (by kernel_rfl) rfl)
    (guesses_stops 7 (by omega) (w.heap.size + 1) n h0 h1 _ (by simp) hb.1) (fun h k hc => k (h hc)) (fun W l o o' hl ho hc hw hcl => cell_kept hcl (grownBy_putObj' _ l o') (fun r e => by cases e; exact ⟨o, ho, hc⟩)) (fun _ => rfl)
    (fun pre W => (W.cell? ⟨w.heap.size, 0, none⟩ = some (.int .i64 (pre.getLastD 0)) ∧ W.frozen? ⟨w.heap.size, 0, none⟩ = false) ∧ Below w.heap.size w W)
    (OwnFrom.and (Own.from (fun s A B row hs hg hr => ⟨cell_kept hs.1 hg hr, (frozen_kept hs.1 hg hr).trans hs.2⟩) _) (ownFrom_below (Nat.le_refl _) (by simp; omega)))
    ⟨⟨cell_alloc _ hs.1, frozen_alloc _ hs.1 hs.2⟩, hB0⟩
    (fun pre x a' W => a' = { tmps := #[.int .i64 n, undef, .pointer (some ⟨w.heap.size, 0, none⟩), .int .i64 n, .bool false, .int .i64 n, .func (.func 104) #[] #[.pointer (some ⟨w.heap.size + 1, 0, none⟩)], .int .i64 x, undef], defers := [] } ∧ (W.cell? ⟨w.heap.size, 0, none⟩ = some (.int .i64 x) ∧ W.frozen? ⟨w.heap.size, 0, none⟩ = false) ∧ Below w.heap.size w W)
    (fun pre x a' => fun s A B row hs hg hr => ⟨hs.1, OwnFrom.and (I := fun (_ : Unit) W => W.cell? ⟨w.heap.size, 0, none⟩ = some (.int .i64 x) ∧ W.frozen? ⟨w.heap.size, 0, none⟩ = false) (I' := fun _ W => Below w.heap.size w W) (Own.from (fun s A B row hs hg hr => ⟨cell_kept hs.1 hg hr, (frozen_kept hs.1 hg hr).trans hs.2⟩) _) (ownFrom_below (Nat.le_refl _) (by simp; omega)) () A B row hs.2 hg hr⟩)
    ?assign ?body ?done
  case assign =>
    rintro l pre x W K ⟨⟨hc, hf⟩, hB⟩ hK
    have hK' := hK _ (W.setCell ⟨w.heap.size, 0, none⟩ (.int .i64 x)) ((KeepsOthers.setCell _ _ _).from _) (fun hcn => by rw [World.cell?_setCell_other _ _ _ _ (by simp)]; exact hcn) ⟨rfl, ⟨World.cell?_setCell_same' _ _ _ (by rw [hc]; rfl), by rw [World.frozen?_setCell]; exact hf⟩, hB.setCell (p := ⟨w.heap.size, 0, none⟩) (Nat.le_refl _) _⟩
    clear hK
    gi_wp2
    exact hK'
  case body =>
    rintro l pre x a' W ⟨rfl, ⟨hc, hf⟩, hB⟩ _
    gi_wp2
    exact ⟨KeepsFrom.refl _ _, fun h => h, ⟨by rw [hc]; simp, hf⟩, hB⟩
  case done =>
    rintro D ys W hD hy ⟨⟨hc, hf⟩, hB⟩ hK
    rw [hy] at hc
    clear hy hs hb hB0
    gi_wp2
    have hK' := (KeepsOthers.setCell W ⟨w.heap.size, 0, none⟩ (.int .i64 (isq n.toNat))).same D _ hK rfl
    refine ⟨by simp, .inl ⟨_, _, rfl, run_takeDeferred hK', ?_⟩⟩
    have hc5 := cell_kept (World.cell?_setCell_same' W ⟨w.heap.size, 0, none⟩ (.int .i64 (isq n.toNat)) (by rw [hc]; rfl)) (grownBy_putObj' _ D (.deferred none)) (fun r e => by cases e; exact ⟨_, hK', rfl⟩)
    refine ⟨.int .i64 (isq n.toNat), ?_, rfl, (hB.setCell (p := ⟨w.heap.size, 0, none⟩) (Nat.le_refl _) _).trans (belowK_b (w := w) (Nat.le_refl _) _ D _ _ (by simp at hD; omega) hK' rfl rfl)⟩
    simp [results, Try.f98, go_sem, hc5]

set_option maxRecDepth 100000 in
set_option maxHeartbeats 2000000 in
theorem floor_low (n : Int) (h0 : n ≤ 0) (w : World) :
    Calls Try.prog 98 #[.int .i64 n] w fun e W' => e = .returned (.int .i64 0) ∧ Below w.heap.size w W' := by
  have hn0 : decide (n ≤ 0) = true := decide_eq_true h0
  go_enter Try.func98, Try.ntmps98
  go_wp2
  refine bodyPost_ret (v := .int .i64 0) (by simp [results, Try.f98, go_sem]) rfl ⟨rfl, ?_⟩
  exact (Below.refl _ w).alloc (Nat.le_refl _) _
end FloorWalk

/-- What root.Floor computes: the whole square root of what an int holds. -/
def root_Floor.f (a0 : Int) : Option Int := if a0 ≤ 9223372036854775807 then some (isq a0.toNat : Int) else none
theorem root_Floor.calls (a0 : Int) (r : Int) (w : World) (h : root_Floor.f a0 = some r) :
    Calls Try.prog 98 #[.int .i64 a0] w fun e w' => e = .returned (.int .i64 r) ∧ Below w.heap.size w w' := by
  unfold root_Floor.f at h
  by_cases h1 : a0 ≤ 9223372036854775807
  · rw [if_pos h1] at h
    cases h
    by_cases h0 : a0 ≤ 0
    · have := FloorWalk.floor_low a0 h0 w
      rw [show a0.toNat = 0 from by omega]
      exact this
    · exact callsIn_wide.1 (FloorWalk.floor_in a0 (by omega) h1 w)
  · rw [if_neg h1] at h
    cases h
end Go.Proofs.Ytlncbckpcmojpaa
namespace Go.Proofs.Ytlncbckpcmojpaa.P
open Go.RowKit Go.Proofs.YtlncbckpcmojpaaW.PrintWords Go.Proofs.YtlncbckpcmojpaaW.PrintLast Go.Proofs.YtlncbckpcmojpaaW.PrintMore
attribute [local go_sem] max2_int min2_int max_two min_two max_three min_three max_four min_four   -- for this text's walks alone
set_option linter.unusedVariables false
set_option linter.unusedSimpArgs false

/-! ### root_Down: function 87 -/
def root_Down.f (a0 : Int) (a1 : Int) (a2 : Int) : Option (Int) := (root_Floor.f (wrap64 ((wrap64 (a1 * a1)) * a0))).bind fun t107 => (if a2 = 0 then (none) else (some (wrap64 (Int.tdiv t107 a2))))
set_option maxHeartbeats 8000000 in
set_option maxRecDepth 100000 in
theorem root_Down.calls (a0 : Int) (a1 : Int) (a2 : Int) (r : Int) (w : World) (h : root_Down.f a0 a1 a2 = some r) :
  Calls Try.prog 87 #[.int .i64 a0, .int .i64 a1, .int .i64 a2] w fun e w' => e = .returned (.int .i64 r) ∧ Below w.heap.size w w' := by
 have HB := Aside0.mk (Below.refl w.heap.size w)
 have H : ((root_Floor.f (wrap64 ((wrap64 (a1 * a1)) * a0))).bind fun t107 => (if a2 = 0 then (none) else (some (wrap64 (Int.tdiv t107 a2))))) = some r := h
 clear h
 replace H := Option.bind_eq_some_iff.mp H
 obtain ⟨t107, A40, H⟩ := H
 replace H : (if a2 = 0 then (none) else (some (wrap64 (Int.tdiv t107 a2)))) = some r := H
 have A4 := Aside0.mk A40
 clear A40
 by_cases c5 : a2 = 0
 ·rw [if_pos c5] at H
  exact absurd H (by simp)
 ·rw [if_neg c5] at H
  have c5b0 : (a2 == 0) = false := beq_eq_false_iff_ne.mpr c5
  have c5b1 : (a2 != 0) = true := bne_iff_ne.mpr c5
  obtain rfl := Option.some.inj H
  go_enter Try.func87, Try.ntmps87
  go_wp2_with (first | ((with_reducible refine gate_callee (f := 98) rfl ?_); refine goesL_ (some 12) rfl rfl Try.func98 (by kernel_rfl) rfl #[.int .i64 (wrap64 ((wrap64 (a1 * a1)) * a0))] rfl (by (try simp only [List.map_toArray, List.map_cons, List.map_nil]); first | done | rfl | (simp only [List.length_drop, List.length_take]; rfl)) ?_; (with_reducible refine (root_Floor.calls (wrap64 ((wrap64 (a1 * a1)) * a0)) t107 _ A4.out).mono ?_); rintro e w6 ⟨rfl, hb⟩; refine ⟨_, rfl, ?_⟩; have n0_ := Aside0.mk (below_step (by repeat (first | (with_reducible first | exact HB.out | apply below_alloc | apply pw_below_drewN | apply below_drew1) | exact HB.out)) hb); clear HB; have HB := n0_; clear n0_; (try clear hb); (try clear hb2); (try clear hk); (try clear hi)))
  go_ret
  exact ⟨by first | rfl | (simp [errW_none, errW_some] <;> rfl) | (simp [*, errW_none, errW_some] <;> rfl), by repeat (first | (with_reducible first | exact HB.out | apply below_alloc | apply pw_below_drewN | apply below_drew1) | exact HB.out)⟩

end Go.Proofs.Ytlncbckpcmojpaa.P
namespace Go.Proofs.Ytlncbckpcmojpaa.P
open Go.RowKit Go.Proofs.YtlncbckpcmojpaaW.PrintWords Go.Proofs.YtlncbckpcmojpaaW.PrintLast Go.Proofs.YtlncbckpcmojpaaW.PrintMore
attribute [local go_sem] max2_int min2_int max_two min_two max_three min_three max_four min_four   -- for this text's walks alone
set_option linter.unusedVariables false
set_option linter.unusedSimpArgs false

/-! ### root_Near: function 78 -/
def root_Near.f (a0 : Int) (a1 : Int) : Option (Int) := (root_Floor.f (wrap64 (4 * a0))).bind fun t102 => (if a1 = 0 then (none) else (some (wrap64 (Int.tdiv (wrap64 ((wrap64 (Int.tdiv t102 a1)) + 1)) 2))))
set_option maxHeartbeats 8000000 in
set_option maxRecDepth 100000 in
theorem root_Near.calls (a0 : Int) (a1 : Int) (r : Int) (w : World) (h : root_Near.f a0 a1 = some r) :
  Calls Try.prog 78 #[.int .i64 a0, .int .i64 a1] w fun e w' => e = .returned (.int .i64 r) ∧ Below w.heap.size w w' := by
 have HB := Aside0.mk (Below.refl w.heap.size w)
 have H : ((root_Floor.f (wrap64 (4 * a0))).bind fun t102 => (if a1 = 0 then (none) else (some (wrap64 (Int.tdiv (wrap64 ((wrap64 (Int.tdiv t102 a1)) + 1)) 2))))) = some r := h
 clear h
 replace H := Option.bind_eq_some_iff.mp H
 obtain ⟨t102, A30, H⟩ := H
 replace H : (if a1 = 0 then (none) else (some (wrap64 (Int.tdiv (wrap64 ((wrap64 (Int.tdiv t102 a1)) + 1)) 2)))) = some r := H
 have A3 := Aside0.mk A30
 clear A30
 by_cases c4 : a1 = 0
 ·rw [if_pos c4] at H
  exact absurd H (by simp)
 ·rw [if_neg c4] at H
  have c4b0 : (a1 == 0) = false := beq_eq_false_iff_ne.mpr c4
  have c4b1 : (a1 != 0) = true := bne_iff_ne.mpr c4
  obtain rfl := Option.some.inj H
  go_enter Try.func78, Try.ntmps78
  go_wp2_with (first | ((with_reducible refine gate_callee (f := 98) rfl ?_); refine goesL_ (some 7) rfl rfl Try.func98 (by kernel_rfl) rfl #[.int .i64 (wrap64 (4 * a0))] rfl (by (try simp only [List.map_toArray, List.map_cons, List.map_nil]); first | done | rfl | (simp only [List.length_drop, List.length_take]; rfl)) ?_; (with_reducible refine (root_Floor.calls (wrap64 (4 * a0)) t102 _ A3.out).mono ?_); rintro e w5 ⟨rfl, hb⟩; refine ⟨_, rfl, ?_⟩; have n0_ := Aside0.mk (below_step (by repeat (first | (with_reducible first | exact HB.out | apply below_alloc | apply pw_below_drewN | apply below_drew1) | exact HB.out)) hb); clear HB; have HB := n0_; clear n0_; (try clear hb); (try clear hb2); (try clear hk); (try clear hi)))
  go_ret
  exact ⟨by first | rfl | (simp [errW_none, errW_some] <;> rfl) | (simp [*, errW_none, errW_some] <;> rfl), by repeat (first | (with_reducible first | exact HB.out | apply below_alloc | apply pw_below_drewN | apply below_drew1) | exact HB.out)⟩

end Go.Proofs.Ytlncbckpcmojpaa.P
namespace Go.Proofs.Ytlncbckpcmojpaa.P
open Go.RowKit Go.Proofs.YtlncbckpcmojpaaW.PrintWords Go.Proofs.YtlncbckpcmojpaaW.PrintLast Go.Proofs.YtlncbckpcmojpaaW.PrintMore
attribute [local go_sem] max2_int min2_int max_two min_two max_three min_three max_four min_four   -- for this text's walks alone
set_option linter.unusedVariables false
set_option linter.unusedSimpArgs false

/-! ### root_Ceil: function 80 -/
def root_Ceil.f (a0 : Int) (a1 : Int) (a2 : Int) : Option (Int) := (root_up.f a0 a1).bind fun t103 => ((root_Floor.f t103).bind fun t104 => (if (wrap64 (t104 * t104)) < t103 then ((root_up.f (wrap64 (t104 + 1)) a2).bind fun t105 => (some t105)) else ((root_up.f t104 a2).bind fun t106 => (some t106))))
set_option maxHeartbeats 8000000 in
set_option maxRecDepth 100000 in
theorem root_Ceil.calls (a0 : Int) (a1 : Int) (a2 : Int) (r : Int) (w : World) (h : root_Ceil.f a0 a1 a2 = some r) :
  Calls Try.prog 80 #[.int .i64 a0, .int .i64 a1, .int .i64 a2] w fun e w' => e = .returned (.int .i64 r) ∧ Below w.heap.size w w' := by
 have HB := Aside0.mk (Below.refl w.heap.size w)
 have H : ((root_up.f a0 a1).bind fun t103 => ((root_Floor.f t103).bind fun t104 => (if (wrap64 (t104 * t104)) < t103 then ((root_up.f (wrap64 (t104 + 1)) a2).bind fun t105 => (some t105)) else ((root_up.f t104 a2).bind fun t106 => (some t106))))) = some r := h
 clear h
 replace H := Option.bind_eq_some_iff.mp H
 obtain ⟨t103, A40, H⟩ := H
 replace H : ((root_Floor.f t103).bind fun t104 => (if (wrap64 (t104 * t104)) < t103 then ((root_up.f (wrap64 (t104 + 1)) a2).bind fun t105 => (some t105)) else ((root_up.f t104 a2).bind fun t106 => (some t106)))) = some r := H
 have A4 := Aside0.mk A40
 clear A40
 replace H := Option.bind_eq_some_iff.mp H
 obtain ⟨t104, A50, H⟩ := H
 replace H : (if (wrap64 (t104 * t104)) < t103 then ((root_up.f (wrap64 (t104 + 1)) a2).bind fun t105 => (some t105)) else ((root_up.f t104 a2).bind fun t106 => (some t106))) = some r := H
 have A5 := Aside0.mk A50
 clear A50
 by_cases c6 : (wrap64 (t104 * t104)) < t103
 ·rw [if_pos c6] at H
  have c6b0 : decide ((wrap64 (t104 * t104)) < t103) = true := decide_eq_true c6
  clear c6
  replace H := Option.bind_eq_some_iff.mp H
  obtain ⟨t105, A70, H⟩ := H
  replace H : (some t105) = some r := H
  have A7 := Aside0.mk A70
  clear A70
  obtain rfl := Option.some.inj H
  go_enter Try.func80, Try.ntmps80
  go_wp2_with (first | ((with_reducible refine gate_callee (f := 99) rfl ?_); refine goesL_ (some 11) rfl rfl Try.func99 (by kernel_rfl) rfl #[.int .i64 a0, .int .i64 a1] rfl (by (try simp only [List.map_toArray, List.map_cons, List.map_nil]); first | done | rfl | (simp only [List.length_drop, List.length_take]; rfl)) ?_; (with_reducible refine (root_up.calls a0 a1 t103 _ A4.out).mono ?_); rintro e w' ⟨rfl, ⟨nd, rfl⟩⟩; refine ⟨_, rfl, ?_⟩) | ((with_reducible refine gate_callee (f := 98) rfl ?_); refine goesL_ (some 13) rfl rfl Try.func98 (by kernel_rfl) rfl #[.int .i64 t103] rfl (by (try simp only [List.map_toArray, List.map_cons, List.map_nil]); first | done | rfl | (simp only [List.length_drop, List.length_take]; rfl)) ?_; (with_reducible refine (root_Floor.calls t103 t104 _ A5.out).mono ?_); rintro e w8 ⟨rfl, hb⟩; refine ⟨_, rfl, ?_⟩; have n0_ := Aside0.mk (below_step (by repeat (first | (with_reducible first | exact HB.out | apply below_alloc | apply pw_below_drewN | apply below_drew1) | exact HB.out)) hb); clear HB; have HB := n0_; clear n0_; (try clear hb); (try clear hb2); (try clear hk); (try clear hi)) | ((with_reducible refine gate_callee (f := 99) rfl ?_); refine goesL_ (some 23) rfl rfl Try.func99 (by kernel_rfl) rfl #[.int .i64 (wrap64 (t104 + 1)), .int .i64 a2] rfl (by (try simp only [List.map_toArray, List.map_cons, List.map_nil]); first | done | rfl | (simp only [List.length_drop, List.length_take]; rfl)) ?_; (with_reducible refine (root_up.calls (wrap64 (t104 + 1)) a2 t105 _ A7.out).mono ?_); rintro e w' ⟨rfl, ⟨nd, rfl⟩⟩; refine ⟨_, rfl, ?_⟩))
  go_ret
  exact ⟨by first | rfl | (simp [errW_none, errW_some] <;> rfl) | (simp [*, errW_none, errW_some] <;> rfl), by repeat (first | (with_reducible first | exact HB.out | apply below_alloc | apply pw_below_drewN | apply below_drew1) | exact HB.out)⟩
 ·rw [if_neg c6] at H
  have c6b0 : decide ((wrap64 (t104 * t104)) < t103) = false := decide_eq_false c6
  clear c6
  replace H := Option.bind_eq_some_iff.mp H
  obtain ⟨t106, A90, H⟩ := H
  replace H : (some t106) = some r := H
  have A9 := Aside0.mk A90
  clear A90
  obtain rfl := Option.some.inj H
  go_enter Try.func80, Try.ntmps80
  go_wp2_with (first | ((with_reducible refine gate_callee (f := 99) rfl ?_); refine goesL_ (some 11) rfl rfl Try.func99 (by kernel_rfl) rfl #[.int .i64 a0, .int .i64 a1] rfl (by (try simp only [List.map_toArray, List.map_cons, List.map_nil]); first | done | rfl | (simp only [List.length_drop, List.length_take]; rfl)) ?_; (with_reducible refine (root_up.calls a0 a1 t103 _ A4.out).mono ?_); rintro e w' ⟨rfl, ⟨nd, rfl⟩⟩; refine ⟨_, rfl, ?_⟩) | ((with_reducible refine gate_callee (f := 98) rfl ?_); refine goesL_ (some 13) rfl rfl Try.func98 (by kernel_rfl) rfl #[.int .i64 t103] rfl (by (try simp only [List.map_toArray, List.map_cons, List.map_nil]); first | done | rfl | (simp only [List.length_drop, List.length_take]; rfl)) ?_; (with_reducible refine (root_Floor.calls t103 t104 _ A5.out).mono ?_); rintro e w10 ⟨rfl, hb⟩; refine ⟨_, rfl, ?_⟩; have n0_ := Aside0.mk (below_step (by repeat (first | (with_reducible first | exact HB.out | apply below_alloc | apply pw_below_drewN | apply below_drew1) | exact HB.out)) hb); clear HB; have HB := n0_; clear n0_; (try clear hb); (try clear hb2); (try clear hk); (try clear hi)) | ((with_reducible refine gate_callee (f := 99) rfl ?_); refine goesL_ (some 23) rfl rfl Try.func99 (by kernel_rfl) rfl #[.int .i64 t104, .int .i64 a2] rfl (by (try simp only [List.map_toArray, List.map_cons, List.map_nil]); first | done | rfl | (simp only [List.length_drop, List.length_take]; rfl)) ?_; (with_reducible refine (root_up.calls t104 a2 t106 _ A9.out).mono ?_); rintro e w' ⟨rfl, ⟨nd, rfl⟩⟩; refine ⟨_, rfl, ?_⟩))
  go_ret
  exact ⟨by first | rfl | (simp [errW_none, errW_some] <;> rfl) | (simp [*, errW_none, errW_some] <;> rfl), by repeat (first | (with_reducible first | exact HB.out | apply below_alloc | apply pw_below_drewN | apply below_drew1) | exact HB.out)⟩

end Go.Proofs.Ytlncbckpcmojpaa.P
namespace Go.Proofs.Ytlncbckpcmojpaa
open Go.RowKit Go.Proofs.YtlncbckpcmojpaaW.PrintWords

/-- Told by an equation that the kernel need not reckon through. -/
theorem bind_s {α β : Type} (a : α) (f : α → Option β) : (some a).bind f = f a := Eq.symm (Eq.symm rfl)
theorem wrap64_id {a : Int} (h0 : -9223372036854775808 ≤ a) (h1 : a ≤ 9223372036854775807) : wrap64 a = a := by unfold wrap64; omega

/-- a divided by b, rounded up. -/
def cd (a b : Nat) : Nat := (a + b - 1) / b
theorem cd_le {a b q : Nat} (hb : 1 ≤ b) : cd a b ≤ q ↔ a ≤ q * b := by
  unfold cd
  rw [← Nat.lt_succ_iff, Nat.div_lt_iff_lt_mul (by omega), Nat.succ_mul]
  omega
/-- The least number whose square is c at least. -/
def csq (c : Nat) : Nat := if isq c * isq c < c then isq c + 1 else isq c
def near (n d : Nat) : Nat := (isq (4 * n) / d + 1) / 2
def down (n m d : Nat) : Nat := isq (m * m * n) / d
def ceil (n k d : Nat) : Nat := cd (csq (cd n k)) d

theorem isq_bd {n : Nat} (h : n ≤ 9223372036854775807) : isq n ≤ 3037000499 := by
  refine isq_le_of ?_
  omega

theorem floor_eq {n : Nat} (h : n ≤ 9223372036854775807) : root_Floor.f (n : Int) = some (isq n : Int) := by
  unfold root_Floor.f; rw [if_pos (by omega)]; rfl
theorem near_eq {n d : Nat} (h : 4 * n ≤ 9223372036854775807) (hd : 1 ≤ d) : P.root_Near.f (n : Int) (d : Int) = some (near n d : Int) := by
  unfold P.root_Near.f near
  have hb := isq_bd h
  rw [wrap64_id (by omega) (by omega), show (4 : Int) * (n : Int) = ((4 * n : Nat) : Int) by omega, floor_eq h]
  simp only [bind_s]
  generalize isq (4 * n) = s at *
  rw [if_neg (by omega), Int.tdiv_eq_ediv_of_nonneg (a := (s : Int)) (by omega), ← Int.natCast_ediv]
  have h1 : s / d ≤ s := Nat.div_le_self _ _
  generalize s / d = z at *
  rw [wrap64_id (a := ((z : Nat) : Int)) (by omega) (by omega), wrap64_id (a := ((z : Nat) : Int) + 1) (by omega) (by omega), Int.tdiv_eq_ediv_of_nonneg (by omega), wrap64_id (by omega) (by omega)]
  congr 1
theorem down_eq {n m d : Nat} (hm : m ≤ 1000) (h : m * m * n ≤ 9223372036854775807) (hd : 1 ≤ d) : P.root_Down.f (n : Int) (m : Int) (d : Int) = some (down n m d : Int) := by
  unfold P.root_Down.f down
  have hb := isq_bd h
  have h2 : m * m ≤ 1000 * 1000 := Nat.mul_le_mul hm hm
  rw [show (m : Int) * (m : Int) = ((m * m : Nat) : Int) by simp, wrap64_id (a := ((m * m : Nat) : Int)) (by omega) (by omega), show ((m * m : Nat) : Int) * (n : Int) = ((m * m * n : Nat) : Int) by simp, wrap64_id (by omega) (by omega), floor_eq h]
  simp only [bind_s]
  generalize isq (m * m * n) = s at *
  rw [if_neg (by omega), Int.tdiv_eq_ediv_of_nonneg (a := (s : Int)) (by omega), ← Int.natCast_ediv]
  have h1 : s / d ≤ s := Nat.div_le_self _ _
  generalize s / d = z at *
  rw [wrap64_id (by omega) (by omega)]
theorem up_eq {a b : Nat} (ha : a ≤ 9000000000000000000) (hb : 1 ≤ b) (hb2 : b ≤ 100000000000) : P.root_up.f (a : Int) (b : Int) = some (cd a b : Int) := by
  unfold P.root_up.f cd
  rw [if_neg (by omega), wrap64_id (a := (a : Int) + b) (by omega) (by omega), wrap64_id (a := (a : Int) + b - 1) (by omega) (by omega), show (a : Int) + b - 1 = ((a + b - 1 : Nat) : Int) by omega, Int.tdiv_eq_ediv_of_nonneg (by omega), ← Int.natCast_ediv]
  have h1 : (a + b - 1) / b ≤ a + b - 1 := Nat.div_le_self _ _
  generalize (a + b - 1) / b = z at *
  rw [wrap64_id (by omega) (by omega)]
theorem csq_sq (c : Nat) : (isq c * isq c < c → csq c = isq c + 1) ∧ (¬ isq c * isq c < c → csq c = isq c) := by
  unfold csq
  exact ⟨fun h => if_pos h, fun h => if_neg h⟩
theorem ceil_eq {n k d : Nat} (hn : n ≤ 9000000000000000000) (hk : 1 ≤ k) (hk2 : k ≤ 100000000000) (hd : 1 ≤ d) (hd2 : d ≤ 100000000000) : P.root_Ceil.f (n : Int) (k : Int) (d : Int) = some (ceil n k d : Int) := by
  unfold P.root_Ceil.f ceil
  rw [up_eq hn hk hk2]
  simp only [bind_s]
  have h1 : cd n k ≤ n := (cd_le hk).2 (Nat.le_mul_of_pos_right _ (by omega))
  generalize cd n k = c at *
  have hc : c ≤ 9223372036854775807 := by omega
  rw [floor_eq hc]
  simp only [bind_s]
  obtain ⟨q1, q2⟩ := csq_sq c
  have hb := isq_bd hc
  have h2 := isq_le c
  generalize isq c = s at *
  generalize csq c = t at *
  have h3 : s * s ≤ 9223372036854775807 := by omega
  have e : ((s : Int) * (s : Int)) = ((s * s : Nat) : Int) := (Int.natCast_mul s s).symm
  rw [e]
  generalize s * s = ss at *
  rw [wrap64_id (a := (ss : Int)) (by omega) (by omega)]
  by_cases hs : ss < c
  · rw [if_pos (by omega), wrap64_id (by omega) (by omega), show (s : Int) + 1 = ((s + 1 : Nat) : Int) by omega, up_eq (by omega) hd hd2, q1 hs]
    simp only [bind_s]
  · rw [if_neg (by omega), up_eq (by omega) hd hd2, q2 hs]
    simp only [bind_s]
end Go.Proofs.Ytlncbckpcmojpaa
