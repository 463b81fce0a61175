/- Texts of this session in one: canon: numbers that may be (number, signed), over the library's ContainsFunc and IndexFunc at ints; names (words.Name).; canon: the looks at one node of an instance (coord, demand, window, service, mate) and at the matrix.; canon: the mate of a node; the matrix.; canon.Check's note: a fault is appended to what the looker has found, if something is not so.; canon.Check: its walk. -/
import Derived.Test.YtfnnngoandpgkaaMga
import Derived.Laws.RangeAny
import Derived.Lib.Hide
import Derived.Lib.OthersKept
import Derived.RangeFuncLeaves
import Derived.RangeFuncOwn
namespace Go.Proofs.Ytfnnngoandpgkaa
open Go.RowKit Go.Proofs.YtfnnngoandpgkaaW.PrintWords Go.Proofs.YtfnnngoandpgkaaW.PrintLast Go.Proofs.YtfnnngoandpgkaaW.PrintMore
set_option linter.unusedVariables false
namespace CanonWalk
def numB (n : Int) : Bool := decide (0 ≤ n ∧ n ≤ 100000000)
def sigB (n : Int) : Bool := decide (-100000000 ≤ n ∧ n ≤ 100000000)
theorem ret_bool {a b : Bool} (h : a = b) : Ending.returned (.bool a) = .returned (.bool b) := by rw [h]
theorem between_f (a b c : Int) : P.canon_between.f a b c = some (decide (b ≤ a ∧ a ≤ c)) := by
  unfold P.canon_between.f
  by_cases h : b ≤ a
  · rw [if_pos h]; congr 1; rw [decide_eq_decide]; omega
  · rw [if_neg h, decide_eq_false (fun e => h e.1)]
theorem below_d {w : World} (n : Nat) : Below w.heap.size w (w.drewN n) := pw_below_drewN (Below.refl _ _) n
theorem between_c (a b c : Int) (w : World) : Calls Try.prog 25 #[.int .i64 a, .int .i64 b, .int .i64 c] w fun e w' => e = .returned (.bool (decide (b ≤ a ∧ a ≤ c))) ∧ Below w.heap.size w w' :=
  (P.canon_between.calls a b c _ w (between_f a b c)).mono (fun _ _ ⟨h, n, e⟩ => ⟨h, by rw [e]; exact below_d n⟩)
set_option maxHeartbeats 1000000 in
theorem number1 (n : Int) (w : World) : Calls Try.prog 59 #[.int .i64 n] w fun e w' => e = .returned (.bool (!(numB n))) ∧ Below w.heap.size w w' := by
  have hc := between_f n 0 100000000
  have HC := Lib.hid hc
  clear hc
  go_enter Try.func59, Try.ntmps59
  go_wp2_with (go_at_call 25; refine (P.canon_between.calls n 0 100000000 _ _ HC.out).mono ?_; rintro e w' ⟨rfl, ⟨nd, rfl⟩⟩)
  go_ret
  exact ⟨ret_bool (by unfold numB; simp [Bool.decide_and]), below_d nd⟩
set_option maxHeartbeats 1000000 in
theorem signed1 (n : Int) (w : World) : Calls Try.prog 60 #[.int .i64 n] w fun e w' => e = .returned (.bool (!(sigB n))) ∧ Below w.heap.size w w' := by
  have hc := between_f n (-100000000) 100000000
  have HC := Lib.hid hc
  clear hc
  go_enter Try.func60, Try.ntmps60
  go_wp2_with (go_at_call 25; refine (P.canon_between.calls n (-100000000) 100000000 _ _ HC.out).mono ?_; rintro e w' ⟨rfl, ⟨nd, rfl⟩⟩)
  go_ret
  exact ⟨ret_bool (by unfold sigB; simp [Bool.decide_and]), below_d nd⟩
def idx (p : Int → Bool) (l : List Int) : Int := if l.any p then (l.findIdx p : Int) else -1
theorem rd_at' {l : List Int} {j : Nat} (hj : j < l.length) : rd l (j : Int) = l[j] := by
  unfold rd
  rw [Int.toNat_natCast, List.getD_eq_getElem?_getD, List.getElem?_eq_getElem hj]; rfl
theorem any_take_all {p : Int → Bool} {l : List Int} {k : Nat} (h : ∀ j : Nat, j < k → p (rd l j) = false) (hk : l.length ≤ k) : l.any p = false := by
  rw [List.any_eq_false]
  intro x hx
  obtain ⟨i, hi, rfl⟩ := List.getElem_of_mem hx
  have := h i (by omega)
  rw [rd_at' hi] at this
  simpa using this
theorem findIdx_at {p : Int → Bool} {l : List Int} {k : Nat} (h : ∀ j : Nat, j < k → p (rd l j) = false) (hk : k < l.length) (hp : p (rd l k) = true) : l.any p = true ∧ l.findIdx p = k := by
  refine ⟨List.any_eq_true.2 ⟨l[k], List.getElem_mem hk, by rw [← rd_at' hk]; exact hp⟩, ?_⟩
  refine (List.findIdx_eq hk).2 ⟨by rw [← rd_at' hk]; exact hp, fun j hj => ?_⟩
  rw [← rd_at' (by omega)]; exact h j hj
set_option maxRecDepth 100000 in
set_option maxHeartbeats 1000000 in
theorem indexInts (g : Nat) (eg : ∀ args w, (callFunc g args).run Try.prog w = .ok (.enter g args) w) (p : Int → Bool) (hp : ∀ d W, Calls Try.prog g #[.int .i64 d] W fun e w' => e = .returned (.bool (p d)) ∧ Below W.heap.size W w')
    (A : Option Addr) (c : Nat) (l : List Int) (w : World) (hr : Kd.C (Kd.int .i64) w A l.length l) :
    Calls Try.prog 61 #[.slice A l.length c, .func (.func g) #[] #[]] w fun e w' => e = .returned (.int .i64 (idx p l)) ∧ Below w.heap.size w w' := by
  have HR := Lib.hid hr
  have Hlen := hr.2.1
  clear hr
  have HP := Lib.hid hp
  clear hp
  go_enter Try.func61, Try.ntmps61
  go_wp2
  go_loopw [8] (fun v wr => ∃ k : Nat, v = .int .i64 k ∧ k ≤ l.length ∧ Aside0 (∀ j : Nat, j < k → p (rd l j) = false) ∧ Aside0 (Below w.heap.size w wr)) (fun v wr => l.length - (intOf v).toNat)
  case atStart => exact ⟨0, rfl, Nat.zero_le _, ⟨fun j hj => absurd hj (Nat.not_lt_zero _)⟩, ⟨Below.refl _ _⟩⟩
  case round =>
    obtain ⟨k, rfl, hk, hno, HB⟩ := hrel
    by_cases hlt : k < l.length
    · obtain ⟨ad, rfl, hcx⟩ := Kd.at_int (Kd.C_below HR.out HB.out) k (by omega) (by omega)
      rw [Int.toNat_natCast] at hcx
      go_wp2_with (fail)
      refine (HP.out (rd l k) _).mono ?_
      rintro e w2 ⟨rfl, hb⟩
      have HB2 := Aside0.mk (HB.out.trans (hb.mono HB.out.size))
      clear hb hcx
      cases hpk : p (rd l k) with
      | true =>
        have E := findIdx_at hno.out hlt hpk
        have E := Aside0.mk E
        clear hpk
        go_wp2
        go_ret
        exact ⟨by unfold idx; rw [E.out.1, E.out.2]; rfl, HB2.out⟩
      | false =>
        have Hn := Aside0.mk (show ∀ j : Nat, j < k + 1 → p (rd l j) = false from fun j hj => by
          by_cases h : j = k
          · rw [h]; exact hpk
          · exact hno.out j (by omega))
        clear hpk
        go_wp2
        go_roundw
        case rel => exact ⟨k + 1, by go_num, by omega, Hn, HB2⟩
        case measure => simp [intOf]; omega
    · go_wp2
      go_ret
      exact ⟨by unfold idx; rw [any_take_all hno.out (by omega)]; rfl, HB.out⟩
set_option maxHeartbeats 1000000 in
theorem containsInts (g : Nat) (eg : ∀ args w, (callFunc g args).run Try.prog w = .ok (.enter g args) w) (p : Int → Bool) (hp : ∀ d W, Calls Try.prog g #[.int .i64 d] W fun e w' => e = .returned (.bool (p d)) ∧ Below W.heap.size W w')
    (A : Option Addr) (c : Nat) (l : List Int) (w : World) (hr : Kd.C (Kd.int .i64) w A l.length l) :
    Calls Try.prog 58 #[.slice A l.length c, .func (.func g) #[] #[]] w fun e w' => e = .returned (.bool (l.any p)) ∧ Below w.heap.size w w' := by
  have HC := Lib.hid (indexInts g eg p hp A c l w hr)
  clear hp hr
  go_enter Try.func58, Try.ntmps58
  go_wp2_with (fail)
  refine HC.out.mono ?_
  rintro e w2 ⟨rfl, hb⟩
  have HB := Aside0.mk hb
  clear hb HC
  go_wp2
  go_ret
  refine ⟨?_, HB.out⟩
  unfold idx
  cases l.any p <;> simp
theorem not_any (p : Int → Bool) (l : List Int) : (!(l.any fun n => !(p n))) = l.all p := by
  induction l with
  | nil => rfl
  | cons a l ih => rw [List.any_cons, List.all_cons, Bool.not_or, ih, Bool.not_not]
set_option maxHeartbeats 1000000 in
theorem number_c (A : Option Addr) (c : Nat) (l : List Int) (w : World) (hr : Kd.C (Kd.int .i64) w A l.length l) :
    Calls Try.prog 50 #[.slice A l.length c] w fun e w' => e = .returned (.bool (l.all numB)) ∧ Below w.heap.size w w' := by
  have HC := Lib.hid (containsInts 59 (enters_ Try.func59 (by kernel_rfl) rfl) (fun n => !(numB n)) number1 A c l w hr)
  clear hr
  go_enter Try.func50, Try.ntmps50
  go_wp2_with (fail)
  refine HC.out.mono ?_
  rintro e w2 ⟨rfl, hb⟩
  have HB := Aside0.mk hb
  clear hb HC
  go_wp2
  go_ret
  exact ⟨ret_bool (not_any _ _), HB.out⟩
set_option maxHeartbeats 1000000 in
theorem signed_c (A : Option Addr) (c : Nat) (l : List Int) (w : World) (hr : Kd.C (Kd.int .i64) w A l.length l) :
    Calls Try.prog 51 #[.slice A l.length c] w fun e w' => e = .returned (.bool (l.all sigB)) ∧ Below w.heap.size w w' := by
  have HC := Lib.hid (containsInts 60 (enters_ Try.func60 (by kernel_rfl) rfl) (fun n => !(sigB n)) signed1 A c l w hr)
  clear hr
  go_enter Try.func51, Try.ntmps51
  go_wp2_with (fail)
  refine HC.out.mono ?_
  rintro e w2 ⟨rfl, hb⟩
  have HB := Aside0.mk hb
  clear hb HC
  go_wp2
  go_ret
  exact ⟨ret_bool (not_any _ _), HB.out⟩

/-! Names. -/
def okP (c : Int) : Prop := (65 ≤ c ∧ c ≤ 90) ∨ (97 ≤ c ∧ c ≤ 122) ∨ (48 ≤ c ∧ c ≤ 57) ∨ c = 46 ∨ c = 95 ∨ c = 45
instance (c : Int) : Decidable (okP c) := by unfold okP; infer_instance
def nameB (s : ByteArray) : Bool := (List.range s.size).all (fun i : Nat => decide (okP (bt s (i : Int)))) && decide (1 ≤ s.size ∧ s.size ≤ 40)
theorem within_f (c a b : Int) : P.words_within.f c a b = some (decide (a ≤ c ∧ c ≤ b)) := by
  unfold P.words_within.f
  by_cases h : a ≤ c
  · rw [if_pos h]; congr 1; rw [decide_eq_decide]; omega
  · rw [if_neg h, decide_eq_false (fun e => h e.1)]
theorem named_f (c : Int) : P.words_named.f c = some (decide (okP c)) := by
  unfold P.words_named.f P.words_capital.f
  rw [within_f, within_f, within_f]
  simp only [Option.bind_some]
  by_cases h1 : 65 ≤ c ∧ c ≤ 90
  · rw [if_pos (decide_eq_true h1), Option.bind_some, if_pos rfl, decide_eq_true (show okP c by unfold okP; omega)]
  · rw [if_neg (by simpa using h1)]
    by_cases h2 : 48 ≤ c ∧ c ≤ 57
    · rw [if_pos (decide_eq_true h2), Option.bind_some, if_pos rfl, decide_eq_true (show okP c by unfold okP; omega)]
    · rw [if_neg (by simpa using h2), Option.bind_some]
      by_cases h3 : c = 95
      · rw [if_pos (beq_iff_eq.2 h3), decide_eq_true (show okP c by unfold okP; omega)]
      · rw [if_neg (by simpa using h3)]
        by_cases h4 : 97 ≤ c ∧ c ≤ 122
        · rw [if_pos (decide_eq_true h4), decide_eq_true (show okP c by unfold okP; omega)]
        · rw [if_neg (by simpa using h4)]
          by_cases h5 : c = 46
          · rw [if_pos h5, decide_eq_true (show okP c by unfold okP; omega)]
          · rw [if_neg h5]
            by_cases h6 : c = 45
            · rw [beq_iff_eq.2 h6, decide_eq_true (show okP c by unfold okP; omega)]
            · rw [beq_eq_false_iff_ne.2 h6, decide_eq_false (show ¬ okP c by unfold okP; omega)]
theorem bt_nat {s : ByteArray} {pos : Nat} (h : pos < s.size) : bt s (pos : Int) = ((s[pos]'h).toNat : Int) := by
  unfold bt; rw [Int.toNat_natCast, dif_pos h]
theorem name_no {s : ByteArray} {pos : Nat} (h : pos < s.size) (hn : ¬ okP (bt s (pos : Int))) : nameB s = false := by
  unfold nameB
  rw [Bool.and_eq_false_iff]; left
  rw [List.all_eq_false]
  exact ⟨pos, List.mem_range.2 h, by simpa using hn⟩
theorem name_end {s : ByteArray} (h : ∀ j : Nat, j < s.size → okP (bt s (j : Int))) : nameB s = decide (1 ≤ s.size ∧ s.size ≤ 40) := by
  unfold nameB
  rw [List.all_eq_true.2 (fun j hj => by simpa using h j (List.mem_range.1 hj)), Bool.true_and]
theorem iterAt_below {w W : World} {b k : Nat} {s : ByteArray} {pos : Nat} (hB : Below b w W) (hk : b ≤ k) (hb : b ≤ w.heap.size) (hkW : k < W.heap.size) : Below b w (W.iterAt k s pos) :=
  hB.trans (by
    have e : W.iterAt k s pos = W.putObj k (.stringIter s pos) := rfl
    rw [e]
    refine (Below.refl b W).grown (grownBy_putObj' W k _) (by omega) (fun j e => ?_)
    have := Option.some.inj e
    omega)
set_option maxRecDepth 100000 in
set_option maxHeartbeats 2000000 in
theorem all_c (s : ByteArray) (w : World) (hs : s.size ≤ 9223372036854775807) :
    Calls Try.prog 48 #[.string s, .func (.func 49) #[] #[]] w fun e w' => e = .returned (.bool (nameB s)) ∧ Below w.heap.size w w' := by
  have NF := Lib.hid named_f
  go_enter Try.func48, Try.ntmps48
  go_wp2
  go_loopw [4] (fun v wr => ∃ pos : Nat, v = .bool false ∧ Aside0 (wr.heap[w.heap.size]? = some (.stringIter s pos)) ∧ Aside0 (Below w.heap.size w wr) ∧ Aside0 (∀ j : Nat, j < pos → okP (bt s (j : Int)))) (fun _ wr => s.size - wr.iterPos w.heap.size)
  case atStart => exact ⟨0, rfl, ⟨World.iter_heap w s 0⟩, ⟨(Below.refl _ w).alloc (Nat.le_refl _) _⟩, ⟨fun j h => absurd h (Nat.not_lt_zero _)⟩⟩
  case round =>
    obtain ⟨pos, rfl, HK, HB, HO⟩ := hrel
    by_cases hp : pos < s.size
    · by_cases hc : okP (bt s (pos : Int))
      · have ha : (s[pos]'hp).toNat < 128 := by
          rw [bt_nat hp] at hc
          unfold okP at hc
          omega
        have hnx : ∀ ty, (Instr.next (.pointer (some ⟨w.heap.size, 0, none⟩)) true ty).run Try.prog wr = _ := fun ty => Lib.run_next_ascii_at wr _ s pos ty HK.out hp ha
        have HK2 := Aside0.mk (Lib.iterAt_heap wr w.heap.size s pos (pos + 1) HK.out)
        have hlt : w.heap.size < wr.heap.size := (Array.getElem?_eq_some_iff.1 HK.out).1
        have HB2 := Aside0.mk (iterAt_below (pos := pos + 1) (s := s) HB.out (Nat.le_refl _) (Nat.le_refl _) hlt)
        have HO2 := Aside0.mk (show ∀ j : Nat, j < pos + 1 → okP (bt s (j : Int)) from fun j hj => by
          by_cases h : j = pos
          · rw [h]; exact hc
          · exact HO.out j (by omega))
        have HC := Lib.hid (show P.words_named.f ((s[pos]'hp).toNat : Int) = some true by rw [NF.out, ← bt_nat hp, decide_eq_true hc])
        have HM := Aside0.mk (show wr.iterPos w.heap.size = pos by unfold World.iterPos; rw [HK.out])
        have HM2 := Aside0.mk (show (wr.iterAt w.heap.size s (pos + 1)).iterPos w.heap.size = pos + 1 by unfold World.iterPos; rw [HK2.out])
        clear hc hlt
        go_wp2_with (fail)
        refine (P.words_named.calls _ true _ HC.out).mono ?_
        rintro e w2 ⟨rfl, ⟨nd, rfl⟩⟩
        go_wp2
        go_roundw
        case rel => exact ⟨pos + 1, rfl, HK2, ⟨HB2.out.trans ((below_d nd).mono HB2.out.size)⟩, HO2⟩
        case measure =>
          have e2 : ((wr.iterAt w.heap.size s (pos + 1)).drewN nd).iterPos w.heap.size = pos + 1 := HM2.out
          rw [e2, HM.out]; omega
      · have HN := Aside0.mk (name_no hp hc)
        have hlt : w.heap.size < wr.heap.size := (Array.getElem?_eq_some_iff.1 HK.out).1
        obtain ⟨r, W2, hnx0, hr, hb2⟩ : ∃ (r : Nat) (W2 : World), (∀ ty, (Instr.next (.pointer (some ⟨w.heap.size, 0, none⟩)) true ty).run Try.prog wr = .ok (.tuple #[.bool true, .int .i64 pos, .int .i32 (r : Int)]) W2) ∧ ¬ okP (r : Int) ∧ Below w.heap.size w W2 := by
          refine ⟨(Utf8.decode s pos).1, _, fun ty => Lib.run_next_any_at wr _ s pos ty HK.out hp, ?_, iterAt_below HB.out (Nat.le_refl _) (Nat.le_refl _) hlt⟩
          by_cases ha : (s[pos]'hp).toNat < 128
          · rw [decode_ascii s pos hp ha]
            rw [bt_nat hp] at hc
            exact hc
          · have := (decode_high s pos hp (by omega)).1
            unfold okP
            omega
        have hnx := hnx0
        have HC := Lib.hid (show P.words_named.f (r : Int) = some false by rw [NF.out, decide_eq_false hr])
        have HB2 := Aside0.mk hb2
        clear hc hlt hr hb2 hnx0
        go_wp2_with (fail)
        refine (P.words_named.calls _ false _ HC.out).mono ?_
        rintro e w2 ⟨rfl, ⟨nd, rfl⟩⟩
        go_wp2
        go_ret
        exact ⟨ret_bool HN.out.symm, HB2.out.trans ((below_d nd).mono HB2.out.size)⟩
    · have hnx : ∀ ty, (Instr.next (.pointer (some ⟨w.heap.size, 0, none⟩)) true ty).run Try.prog wr = _ := fun ty => Lib.run_next_end_at wr _ s pos ty HK.out hp
      have HN := Aside0.mk (name_end (fun j hj => HO.out j (by omega)))
      have hz : s.toList.length = s.size := by rw [ByteArray.toList_eq, Array.length_toList]; rfl
      have HZ := Aside0.mk hz
      clear hz
      go_wp2
      all_goals
        go_ret
        refine ⟨ret_bool ?_, HB.out⟩
        rw [HN.out]
        have hz := HZ.out
      · rename_i he
        rw [he] at hz
        rw [decide_eq_false (by simp at hz; omega)]
      · rename_i he
        have h1 : s.toList.isEmpty = false := by simpa using he
        have h2 : s.toList.length ≠ 0 := fun e => he (List.length_eq_zero_iff.1 e)
        rw [h1, Bool.not_false, Bool.true_and, decide_eq_decide]; omega
set_option maxHeartbeats 1000000 in
theorem name_c (s : ByteArray) (w : World) (hs : s.size ≤ 9223372036854775807) : Calls Try.prog 24 #[.string s] w fun e w' => e = .returned (.bool (nameB s)) ∧ Below w.heap.size w w' := by
  have HC := Lib.hid (all_c s w hs)
  go_enter Try.func24, Try.ntmps24
  go_wp2_with (fail)
  refine HC.out.mono ?_
  rintro e w2 ⟨rfl, hb⟩
  have HB := Aside0.mk hb
  clear hb HC
  go_wp2
  go_ret
  exact ⟨rfl, HB.out⟩
end CanonWalk
end Go.Proofs.Ytfnnngoandpgkaa
namespace Go.Proofs.Ytfnnngoandpgkaa
open Go.RowKit Go.Proofs.YtfnnngoandpgkaaW.PrintWords Go.Proofs.YtfnnngoandpgkaaW.PrintLast Go.Proofs.YtfnnngoandpgkaaW.PrintMore
set_option linter.unusedVariables false
namespace CanonWalk
open P
abbrev Node := S46
/-- The looker at an instance: its block; v: what has been found. -/
structure Look where
  nm : ByteArray
  kd : Int
  mt : Int
  sc : Int
  cp : Int
  fl : Int
  A : Option Addr
  c : Nat
  ns : List Node
  B : Option Addr
  e : Nat
  mx : List Int
def Look.at (x : Look) (W : World) (K : Nat) (v : Value) : Prop := W.heap[K]? = some (.cells #[.string x.nm, .int .i64 x.kd, .int .i64 x.mt, .int .i64 x.sc, .int .i64 x.cp, .int .i64 x.fl, .slice x.A x.ns.length x.c, .slice x.B x.mx.length x.e, v] 51 (0, 0))
def oneV (K : Nat) (d : Node) (i : Int) : Value := .agg #[.pointer (some ⟨K, 0, none⟩), .int .i64 d.f0, .int .i64 d.f1, .int .i64 d.f2, .int .i64 d.f3, .int .i64 d.f4, .int .i64 d.f5, .int .i64 d.f6, .int .i64 i]
theorem row_C {W : World} {g : Nat} {cs : List Int} (h : W.heap[g]? = some (.cells (cs.map (Value.int .i64)).toArray 3 (0, 0))) (hl : cs.length ≤ 65536) : Kd.C (Kd.int .i64) W (some ⟨g, 0, none⟩) cs.length cs :=
  (Kd.R_reads' (Kd.R_of_own (ok := fun _ => True) (e := 3) (base := 0) ⟨by simp [encs], .inr ⟨g, cs.length, _, rfl, Nat.zero_le _, h, Nat.le_refl _, by unfold maxLen; omega, by simp, by rw [List.toList_toArray, Nat.mul_one, List.take_of_length_le (by simp)]; rfl⟩⟩ (fun _ _ => trivial))).2.2
/-- x | y is nought. -/
def orz (a b : Int) : Bool := bits BinOp.or IntKind.i64 a b == 0
def coordB (mt : Int) (d : Node) : Bool := sigB d.f0 && sigB d.f1 && (decide (mt ≠ 0) || orz d.f0 d.f1)
/-- Behind a call that followed two new blocks. -/
theorem after2 {W w2 : World} {o1 o2 : Obj} (hb : Below ((W.alloc o1).alloc o2).heap.size ((W.alloc o1).alloc o2) w2) : (∀ (k : Nat) (o : Obj), W.heap[k]? = some o → w2.heap[k]? = some o) ∧ w2.heap[W.heap.size]? = some o1 ∧ w2.heap[W.heap.size + 1]? = some o2 ∧ Below W.heap.size W w2 := by
  have b1 := heap_alloc_new W o1
  have b2 := heap_alloc_new (W.alloc o1) o2
  rw [World.size_alloc] at b2
  exact ⟨fun k o h => blk_below (blk_alloc (blk_alloc h _) _) hb, blk_below (blk_alloc b1 _) hb, blk_below b2 hb, (((Below.refl _ W).alloc (Nat.le_refl _) _).alloc (by simp) _).trans (hb.mono (by simp; omega))⟩
set_option maxHeartbeats 2000000 in
theorem coord_c (x : Look) (K : Nat) (v : Value) (d : Node) (i : Int) (W : World) (hK : x.at W K v) :
    Calls Try.prog 29 #[oneV K d i] W fun e w' => e = .returned (.bool (coordB x.mt d)) ∧ Below W.heap.size W w' := by
  have hlt : K < W.heap.size := (Array.getElem?_eq_some_iff.1 hK).1
  unfold Look.at at hK
  unfold oneV
  have hu := Try.underlying57
  have HS := Lib.hid (fun W' => signed_c (some ⟨W.heap.size + 1, 0, none⟩) 2 [d.f0, d.f1] W')
  cases hS : ([d.f0, d.f1].all sigB) with
  | false =>
    rw [hS] at HS
    have HN := Lib.hid (show coordB x.mt d = false by
      unfold coordB
      have : (sigB d.f0 && sigB d.f1) = false := by simpa using hS
      rw [this]; rfl)
    clear hS
    go_enter Try.func29, Try.ntmps29
    go_wp2_with fail
    refine (HS.out _ (row_C (by have := heap_alloc_new (W.alloc (.cells #[.pointer (some ⟨K, 0, none⟩), .int .i64 d.f0, .int .i64 d.f1, .int .i64 d.f2, .int .i64 d.f3, .int .i64 d.f4, .int .i64 d.f5, .int .i64 d.f6, .int .i64 i] 57)) (.cells #[.int .i64 d.f0, .int .i64 d.f1] 3); rw [World.size_alloc] at this; exact this) (by simp))).mono ?_
    rintro e w2 ⟨rfl, hb⟩
    obtain ⟨_, _, _, hB⟩ := after2 hb
    have HB := Aside0.mk hB
    clear hb hB
    go_wp2
    go_ret
    exact ⟨ret_bool HN.out.symm, HB.out⟩
  | true =>
    rw [hS] at HS
    have hS2 : (sigB d.f0 && sigB d.f1) = true := by simpa using hS
    by_cases hm : x.mt = 0
    · have hm1 : (x.mt != 0) = false := bne_eq_false_iff_eq.2 hm
      have HN := Lib.hid (show coordB x.mt d = orz d.f0 d.f1 by
        unfold coordB
        rw [hS2, decide_eq_false (fun e => e hm)]; rfl)
      clear hS hm hS2
      go_enter Try.func29, Try.ntmps29
      go_wp2_with fail
      refine (HS.out _ (row_C (by have := heap_alloc_new (W.alloc (.cells #[.pointer (some ⟨K, 0, none⟩), .int .i64 d.f0, .int .i64 d.f1, .int .i64 d.f2, .int .i64 d.f3, .int .i64 d.f4, .int .i64 d.f5, .int .i64 d.f6, .int .i64 i] 57)) (.cells #[.int .i64 d.f0, .int .i64 d.f1] 3); rw [World.size_alloc] at this; exact this) (by simp))).mono ?_
      rintro e w2 ⟨rfl, hb⟩
      obtain ⟨old, b1, _, hB⟩ := after2 hb
      have kK := old _ _ hK
      have HB := Aside0.mk hB
      clear hb hB old hK
      obtain ⟨k0, k1, k2, k3, k4, k5, k6, k7, k8, f0, f1, f2, f3, f4, f5, f6, f7, f8⟩ := blk9_ kK
      obtain ⟨o0, o1, o2, o3, o4, o5, o6, o7, o8, g0, g1, g2, g3, g4, g5, g6, g7, g8⟩ := blk9_ b1
      clear k0 k1 k3 k4 k5 k6 k7 k8 f0 f1 f2 f3 f4 f5 f6 f7 f8 o3 o4 o5 o6 o7 o8 g0 g1 g2 g3 g4 g5 g6 g7 g8 b1 kK
      go_wp2
      go_ret
      exact ⟨ret_bool (by rw [HN.out]; rfl), HB.out⟩
    · have hm1 : (x.mt != 0) = true := bne_iff_ne.2 hm
      have HN := Lib.hid (show coordB x.mt d = true by
        unfold coordB
        rw [hS2, decide_eq_true hm]; rfl)
      clear hS hm hS2
      go_enter Try.func29, Try.ntmps29
      go_wp2_with fail
      refine (HS.out _ (row_C (by have := heap_alloc_new (W.alloc (.cells #[.pointer (some ⟨K, 0, none⟩), .int .i64 d.f0, .int .i64 d.f1, .int .i64 d.f2, .int .i64 d.f3, .int .i64 d.f4, .int .i64 d.f5, .int .i64 d.f6, .int .i64 i] 57)) (.cells #[.int .i64 d.f0, .int .i64 d.f1] 3); rw [World.size_alloc] at this; exact this) (by simp))).mono ?_
      rintro e w2 ⟨rfl, hb⟩
      obtain ⟨old, b1, _, hB⟩ := after2 hb
      have kK := old _ _ hK
      have HB := Aside0.mk hB
      clear hb hB old hK
      obtain ⟨k0, k1, k2, k3, k4, k5, k6, k7, k8, f0, f1, f2, f3, f4, f5, f6, f7, f8⟩ := blk9_ kK
      obtain ⟨o0, o1, o2, o3, o4, o5, o6, o7, o8, g0, g1, g2, g3, g4, g5, g6, g7, g8⟩ := blk9_ b1
      clear k0 k1 k3 k4 k5 k6 k7 k8 f0 f1 f2 f3 f4 f5 f6 f7 f8 o3 o4 o5 o6 o7 o8 g0 g1 g2 g3 g4 g5 g6 g7 g8 b1 kK
      go_wp2
      go_ret
      exact ⟨ret_bool HN.out.symm, HB.out⟩
theorem timed_c (x : Look) (K : Nat) (v : Value) (W : World) (hK : x.at W K v) :
    Calls Try.prog 52 #[.pointer (some ⟨K, 0, none⟩)] W fun e w' => e = .returned (.bool (decide (x.kd ≠ 1 ∧ x.kd ≠ 2))) ∧ w' = W := by
  unfold Look.at at hK
  obtain ⟨k0, k1, k2, k3, k4, k5, k6, k7, k8, f0, f1, f2, f3, f4, f5, f6, f7, f8⟩ := blk9_ hK
  clear k0 k2 k3 k4 k5 k6 k7 k8 f0 f1 f2 f3 f4 f5 f6 f7 f8
  clear hK
  by_cases h1 : x.kd = 1
  · have b1 : (x.kd != 1) = false := bne_eq_false_iff_eq.2 h1
    have HN := Lib.hid (show decide (x.kd ≠ 1 ∧ x.kd ≠ 2) = false from decide_eq_false (fun e => e.1 h1))
    clear h1
    go_enter Try.func52, Try.ntmps52
    go_wp2
    go_ret
    exact ⟨ret_bool HN.out.symm, rfl⟩
  · have b1 : (x.kd != 1) = true := bne_iff_ne.2 h1
    have HN := Lib.hid (show decide (x.kd ≠ 1 ∧ x.kd ≠ 2) = (x.kd != 2) by
      by_cases h2 : x.kd = 2
      · rw [decide_eq_false (fun e => e.2 h2), bne_eq_false_iff_eq.2 h2]
      · rw [decide_eq_true ⟨h1, h2⟩, bne_iff_ne.2 h2])
    clear h1
    go_enter Try.func52, Try.ntmps52
    go_wp2
    go_ret
    exact ⟨ret_bool HN.out.symm, rfl⟩
def demandB (kd i : Int) (d : Node) : Bool := if kd = 1 ∨ i = 0 then decide (d.f2 = 0) else if kd = 4 then sigB d.f2 else numB d.f2
set_option maxHeartbeats 2000000 in
theorem demand_c (x : Look) (K : Nat) (v : Value) (d : Node) (i : Int) (W : World) (hK : x.at W K v) :
    Calls Try.prog 30 #[oneV K d i] W fun e w' => e = .returned (.bool (demandB x.kd i d)) ∧ Below W.heap.size W w' := by
  unfold Look.at at hK
  unfold oneV
  have hu := Try.underlying57
  have b0 := heap_alloc_new W (.cells #[.pointer (some ⟨K, 0, none⟩), .int .i64 d.f0, .int .i64 d.f1, .int .i64 d.f2, .int .i64 d.f3, .int .i64 d.f4, .int .i64 d.f5, .int .i64 d.f6, .int .i64 i] 57)
  have kK := blk_alloc hK (.cells #[.pointer (some ⟨K, 0, none⟩), .int .i64 d.f0, .int .i64 d.f1, .int .i64 d.f2, .int .i64 d.f3, .int .i64 d.f4, .int .i64 d.f5, .int .i64 d.f6, .int .i64 i] 57)
  obtain ⟨k0, k1, k2, k3, k4, k5, k6, k7, k8, f0, f1, f2, f3, f4, f5, f6, f7, f8⟩ := blk9_ kK
  clear k0 k2 k3 k4 k5 k6 k7 k8 f0 f1 f2 f3 f4 f5 f6 f7 f8
  clear b0
  by_cases h1 : x.kd = 1
  · have b1 : (x.kd == 1) = true := beq_iff_eq.2 h1
    have HN := Lib.hid (show demandB x.kd i d = (d.f2 == 0) by
      unfold demandB; rw [if_pos (.inl h1)]; rfl)
    clear h1
    go_enter Try.func30, Try.ntmps30
    go_wp2
    go_ret
    exact ⟨ret_bool HN.out.symm, (Below.refl _ W).alloc (Nat.le_refl _) _⟩
  · have b1 : (x.kd == 1) = false := beq_eq_false_iff_ne.2 h1
    by_cases h2 : i = 0
    · have b2 : (i == 0) = true := beq_iff_eq.2 h2
      have HN := Lib.hid (show demandB x.kd i d = (d.f2 == 0) by
        unfold demandB; rw [if_pos (.inr h2)]; rfl)
      clear h1 h2
      go_enter Try.func30, Try.ntmps30
      go_wp2
      go_ret
      exact ⟨ret_bool HN.out.symm, (Below.refl _ W).alloc (Nat.le_refl _) _⟩
    · have b2 : (i == 0) = false := beq_eq_false_iff_ne.2 h2
      by_cases h4 : x.kd = 4
      · have b4 : (x.kd == 4) = true := beq_iff_eq.2 h4
        have HN := Lib.hid (show demandB x.kd i d = sigB d.f2 by
          unfold demandB; rw [if_neg (fun e => e.elim h1 h2), if_pos h4])
        have HS := Lib.hid (fun W' => signed_c (some ⟨W.heap.size + 1, 0, none⟩) 1 [d.f2] W')
        clear h1 h2 h4
        go_enter Try.func30, Try.ntmps30
        go_wp2_with fail
        refine (HS.out _ (row_C (by have := heap_alloc_new (W.alloc (.cells #[.pointer (some ⟨K, 0, none⟩), .int .i64 d.f0, .int .i64 d.f1, .int .i64 d.f2, .int .i64 d.f3, .int .i64 d.f4, .int .i64 d.f5, .int .i64 d.f6, .int .i64 i] 57)) (.cells #[.int .i64 d.f2] 3); rw [World.size_alloc] at this; exact this) (by simp))).mono ?_
        rintro e w2 ⟨rfl, hb⟩
        obtain ⟨_, _, _, hB⟩ := after2 hb
        have HB := Aside0.mk hB
        clear hb hB
        go_wp2
        go_ret
        exact ⟨ret_bool HN.out.symm, HB.out⟩
      · have b4 : (x.kd == 4) = false := beq_eq_false_iff_ne.2 h4
        have HN := Lib.hid (show demandB x.kd i d = numB d.f2 by
          unfold demandB; rw [if_neg (fun e => e.elim h1 h2), if_neg h4])
        have HS := Lib.hid (fun W' => number_c (some ⟨W.heap.size + 1, 0, none⟩) 1 [d.f2] W')
        clear h1 h2 h4
        go_enter Try.func30, Try.ntmps30
        go_wp2_with fail
        refine (HS.out _ (row_C (by have := heap_alloc_new (W.alloc (.cells #[.pointer (some ⟨K, 0, none⟩), .int .i64 d.f0, .int .i64 d.f1, .int .i64 d.f2, .int .i64 d.f3, .int .i64 d.f4, .int .i64 d.f5, .int .i64 d.f6, .int .i64 i] 57)) (.cells #[.int .i64 d.f2] 3); rw [World.size_alloc] at this; exact this) (by simp))).mono ?_
        rintro e w2 ⟨rfl, hb⟩
        obtain ⟨_, _, _, hB⟩ := after2 hb
        have HB := Aside0.mk hB
        clear hb hB
        go_wp2
        go_ret
        exact ⟨ret_bool HN.out.symm, HB.out⟩
def windowB (kd : Int) (d : Node) : Bool := if kd = 1 ∨ kd = 2 then orz d.f3 d.f4 else numB d.f3 && numB d.f4 && decide (d.f3 ≤ d.f4)
set_option maxHeartbeats 2000000 in
theorem window_c (x : Look) (K : Nat) (v : Value) (d : Node) (i : Int) (W : World) (hK : x.at W K v) :
    Calls Try.prog 31 #[oneV K d i] W fun e w' => e = .returned (.bool (windowB x.kd d)) ∧ Below W.heap.size W w' := by
  unfold Look.at at hK
  unfold oneV
  have hu := Try.underlying57
  have HT := Lib.hid (timed_c x K v (W.alloc (.cells #[.pointer (some ⟨K, 0, none⟩), .int .i64 d.f0, .int .i64 d.f1, .int .i64 d.f2, .int .i64 d.f3, .int .i64 d.f4, .int .i64 d.f5, .int .i64 d.f6, .int .i64 i] 57)) (blk_alloc hK _))
  by_cases h1 : x.kd = 1 ∨ x.kd = 2
  · have HN := Lib.hid (show windowB x.kd d = orz d.f3 d.f4 by unfold windowB; rw [if_pos h1])
    have hd : decide (x.kd ≠ 1 ∧ x.kd ≠ 2) = false := decide_eq_false (fun e => h1.elim e.1 e.2)
    rw [hd] at HT
    clear h1 hd
    go_enter Try.func31, Try.ntmps31
    go_wp2_with fail
    refine HT.out.mono ?_
    rintro e w2 ⟨rfl, rfl⟩
    go_wp2
    go_ret
    exact ⟨ret_bool (by rw [HN.out]; rfl), (Below.refl _ W).alloc (Nat.le_refl _) _⟩
  · have hd : decide (x.kd ≠ 1 ∧ x.kd ≠ 2) = true := decide_eq_true ⟨fun e => h1 (.inl e), fun e => h1 (.inr e)⟩
    rw [hd] at HT
    have HS := Lib.hid (fun W' => number_c (some ⟨W.heap.size + 1, 0, none⟩) 2 [d.f3, d.f4] W')
    cases hS : ([d.f3, d.f4].all numB) with
    | false =>
      rw [hS] at HS
      have HN := Lib.hid (show windowB x.kd d = false by
        unfold windowB
        rw [if_neg h1]
        have : (numB d.f3 && numB d.f4) = false := by simpa using hS
        rw [this]; rfl)
      clear hS h1 hd
      go_enter Try.func31, Try.ntmps31
      go_wp2_with fail
      refine HT.out.mono ?_
      rintro e w2 ⟨rfl, rfl⟩
      go_wp2_with fail
      refine (HS.out _ (row_C (by have := heap_alloc_new (W.alloc (.cells #[.pointer (some ⟨K, 0, none⟩), .int .i64 d.f0, .int .i64 d.f1, .int .i64 d.f2, .int .i64 d.f3, .int .i64 d.f4, .int .i64 d.f5, .int .i64 d.f6, .int .i64 i] 57)) (.cells #[.int .i64 d.f3, .int .i64 d.f4] 3); rw [World.size_alloc] at this; exact this) (by simp))).mono ?_
      rintro e w2 ⟨rfl, hb⟩
      obtain ⟨_, _, _, hB⟩ := after2 hb
      have HB := Aside0.mk hB
      clear hb hB
      go_wp2
      go_ret
      exact ⟨ret_bool HN.out.symm, HB.out⟩
    | true =>
      rw [hS] at HS
      have HN := Lib.hid (show windowB x.kd d = decide (d.f3 ≤ d.f4) by
        unfold windowB
        rw [if_neg h1]
        have : (numB d.f3 && numB d.f4) = true := by simpa using hS
        rw [this]; rfl)
      clear hS h1 hd
      go_enter Try.func31, Try.ntmps31
      go_wp2_with fail
      refine HT.out.mono ?_
      rintro e w2 ⟨rfl, rfl⟩
      go_wp2_with fail
      refine (HS.out _ (row_C (by have := heap_alloc_new (W.alloc (.cells #[.pointer (some ⟨K, 0, none⟩), .int .i64 d.f0, .int .i64 d.f1, .int .i64 d.f2, .int .i64 d.f3, .int .i64 d.f4, .int .i64 d.f5, .int .i64 d.f6, .int .i64 i] 57)) (.cells #[.int .i64 d.f3, .int .i64 d.f4] 3); rw [World.size_alloc] at this; exact this) (by simp))).mono ?_
      rintro e w2 ⟨rfl, hb⟩
      obtain ⟨_, b1, _, hB⟩ := after2 hb
      have HB := Aside0.mk hB
      clear hb hB
      obtain ⟨o0, o1, o2, o3, o4, o5, o6, o7, o8, g0, g1, g2, g3, g4, g5, g6, g7, g8⟩ := blk9_ b1
      clear o0 o1 o2 o3 o6 o7 o8 g0 g1 g2 g3 g4 g5 g6 g7 g8
      clear b1
      go_wp2
      go_ret
      exact ⟨ret_bool HN.out.symm, HB.out⟩
def serviceB (kd : Int) (d : Node) : Bool := if kd = 1 ∨ kd = 2 then decide (d.f5 = 0) else numB d.f5
set_option maxHeartbeats 2000000 in
theorem service_c (x : Look) (K : Nat) (v : Value) (d : Node) (i : Int) (W : World) (hK : x.at W K v) :
    Calls Try.prog 32 #[oneV K d i] W fun e w' => e = .returned (.bool (serviceB x.kd d)) ∧ Below W.heap.size W w' := by
  unfold Look.at at hK
  unfold oneV
  have hu := Try.underlying57
  have HT := Lib.hid (timed_c x K v (W.alloc (.cells #[.pointer (some ⟨K, 0, none⟩), .int .i64 d.f0, .int .i64 d.f1, .int .i64 d.f2, .int .i64 d.f3, .int .i64 d.f4, .int .i64 d.f5, .int .i64 d.f6, .int .i64 i] 57)) (blk_alloc hK _))
  by_cases h1 : x.kd = 1 ∨ x.kd = 2
  · have HN := Lib.hid (show serviceB x.kd d = (d.f5 == 0) by unfold serviceB; rw [if_pos h1]; rfl)
    have hd : decide (x.kd ≠ 1 ∧ x.kd ≠ 2) = false := decide_eq_false (fun e => h1.elim e.1 e.2)
    rw [hd] at HT
    clear h1 hd
    go_enter Try.func32, Try.ntmps32
    go_wp2_with fail
    refine HT.out.mono ?_
    rintro e w2 ⟨rfl, rfl⟩
    go_wp2
    go_ret
    exact ⟨ret_bool HN.out.symm, (Below.refl _ W).alloc (Nat.le_refl _) _⟩
  · have hd : decide (x.kd ≠ 1 ∧ x.kd ≠ 2) = true := decide_eq_true ⟨fun e => h1 (.inl e), fun e => h1 (.inr e)⟩
    rw [hd] at HT
    have HS := Lib.hid (fun W' => number_c (some ⟨W.heap.size + 1, 0, none⟩) 1 [d.f5] W')
    have HN := Lib.hid (show serviceB x.kd d = numB d.f5 by unfold serviceB; rw [if_neg h1])
    clear h1 hd
    go_enter Try.func32, Try.ntmps32
    go_wp2_with fail
    refine HT.out.mono ?_
    rintro e w2 ⟨rfl, rfl⟩
    go_wp2_with fail
    refine (HS.out _ (row_C (by have := heap_alloc_new (W.alloc (.cells #[.pointer (some ⟨K, 0, none⟩), .int .i64 d.f0, .int .i64 d.f1, .int .i64 d.f2, .int .i64 d.f3, .int .i64 d.f4, .int .i64 d.f5, .int .i64 d.f6, .int .i64 i] 57)) (.cells #[.int .i64 d.f5] 3); rw [World.size_alloc] at this; exact this) (by simp))).mono ?_
    rintro e w2 ⟨rfl, hb⟩
    obtain ⟨_, _, _, hB⟩ := after2 hb
    have HB := Aside0.mk hB
    clear hb hB
    go_wp2
    go_ret
    exact ⟨ret_bool HN.out.symm, HB.out⟩
end CanonWalk
end Go.Proofs.Ytfnnngoandpgkaa
namespace Go.Proofs.Ytfnnngoandpgkaa
open Go.RowKit Go.Proofs.YtfnnngoandpgkaaW.PrintWords Go.Proofs.YtfnnngoandpgkaaW.PrintLast Go.Proofs.YtfnnngoandpgkaaW.PrintMore
set_option linter.unusedVariables false
namespace CanonWalk
open P
/-- Is the other node of a pair its mate? -/
def pairB (i : Int) (d q : Node) : Bool := q.f6 == i && d.f2 != 0 && q.f2 == wrap64 (-d.f2)
def mateB (kd : Int) (ns : List Node) (i : Int) (d : Node) : Bool :=
  if kd ≠ 4 ∨ i = 0 then decide (d.f6 = 0) else if 1 ≤ d.f6 ∧ d.f6 ≤ (ns.length : Int) - 1 ∧ d.f6 ≠ i then pairB i d (rd_T46 ns d.f6) else false
theorem mate_end {W : World} {o1 : Obj} (nd : Nat) (o2 : Obj) : Below W.heap.size W (((W.alloc o1).drewN nd).alloc o2) := below_alloc (pw_below_drewN (below_alloc (Below.refl _ _) _) _) _
set_option maxHeartbeats 4000000 in
set_option maxRecDepth 100000 in
theorem mate_c (x : Look) (K : Nat) (v : Value) (d : Node) (i : Int) (W : World) (hK : x.at W K v) (hn : x.ns.length ≤ 65536) (hr : Kd.C k46 W x.A x.ns.length x.ns) :
    Calls Try.prog 33 #[oneV K d i] W fun e w' => e = .returned (.bool (mateB x.kd x.ns i d)) ∧ Below W.heap.size W w' := by
  obtain ⟨nm, kd, mt, sc, cp, fl, A, c, ns, B, e0, mx⟩ := x
  unfold Look.at at hK
  simp only at hK hn hr ⊢
  unfold oneV
  have hu := Try.underlying57
  have kK := blk_alloc hK (.cells #[.pointer (some ⟨K, 0, none⟩), .int .i64 d.f0, .int .i64 d.f1, .int .i64 d.f2, .int .i64 d.f3, .int .i64 d.f4, .int .i64 d.f5, .int .i64 d.f6, .int .i64 i] 57)
  obtain ⟨k0, k1, k2, k3, k4, k5, k6, k7, k8, f0, f1, f2, f3, f4, f5, f6, f7, f8⟩ := blk9_ kK
  clear k0 k2 k3 k4 k5 k7 k8 f0 f1 f2 f3 f4 f5 f6 f7 f8
  clear kK
  by_cases h1 : kd = 4
  · have b1 : (kd != 4) = false := bne_eq_false_iff_eq.2 h1
    by_cases h2 : i = 0
    · have b2 : (i == 0) = true := beq_iff_eq.2 h2
      have HN := Lib.hid (show mateB kd ns i d = (d.f6 == 0) by unfold mateB; rw [if_pos (.inr h2)]; rfl)
      clear h1 h2 hK hr
      go_enter Try.func33, Try.ntmps33
      go_wp2
      go_ret
      exact ⟨ret_bool HN.out.symm, (Below.refl _ W).alloc (Nat.le_refl _) _⟩
    · have b2 : (i == 0) = false := beq_eq_false_iff_ne.2 h2
      have HM := Lib.hid (show mateB kd ns i d = if 1 ≤ d.f6 ∧ d.f6 ≤ (ns.length : Int) - 1 ∧ d.f6 ≠ i then pairB i d (rd_T46 ns d.f6) else false by unfold mateB; rw [if_neg (fun e => e.elim (fun h => h h1) h2)])
      have hw : wrap64 ((ns.length : Int) - 1) = (ns.length : Int) - 1 := by unfold wrap64; omega
      have HBT := Lib.hid (between_f d.f6 1 ((ns.length : Int) - 1))
      clear h1 h2 hw
      by_cases h3 : 1 ≤ d.f6 ∧ d.f6 ≤ (ns.length : Int) - 1
      · rw [decide_eq_true h3] at HBT
        by_cases h4 : d.f6 = i
        · have b4 : (d.f6 == i) = true := beq_iff_eq.2 h4
          have HN := Lib.hid (show mateB kd ns i d = false by rw [HM.out, if_neg (fun e => e.2.2 h4)])
          clear h3 h4 hK hr HM
          go_enter Try.func33, Try.ntmps33
          go_wp2_with fail
          refine (canon_between.calls _ _ _ _ _ HBT.out).mono ?_
          rintro e w' ⟨rfl, ⟨nd, rfl⟩⟩
          go_wp2
          go_ret
          exact ⟨ret_bool HN.out.symm, ((Below.refl _ W).alloc (Nat.le_refl _) _).trans ((below_d nd).mono (by simp))⟩
        · have b4 : (d.f6 == i) = false := beq_eq_false_iff_ne.2 h4
          have HN := Lib.hid (show mateB kd ns i d = pairB i d (rd_T46 ns d.f6) by rw [HM.out, if_pos ⟨h3.1, h3.2, h4⟩])
          clear h4 HM
          obtain ⟨ad, e, c0, c1, c2, c3, c4, c5, c6⟩ := at_T46 (Kd.C_alloc hr (.cells #[.pointer (some ⟨K, 0, none⟩), .int .i64 d.f0, .int .i64 d.f1, .int .i64 d.f2, .int .i64 d.f3, .int .i64 d.f4, .int .i64 d.f5, .int .i64 d.f6, .int .i64 i] 57)) d.f6 (by omega) (by omega)
          cases e
          have p1 : 0 ≤ d.f6 := by omega
          have p2 : d.f6 < (ns.length : Int) := by omega
          have p3 : 0 ≤ d.f6 ∧ d.f6 < (ns.length : Int) := ⟨p1, p2⟩
          clear h3 hr hK
          generalize hq : rd_T46 ns d.f6 = q at *
          clear hq
          have HR := Lib.hid HN
          clear HN
          by_cases d1 : q.f6 = i
          · have e1 : (q.f6 == i) = true := beq_iff_eq.2 d1
            by_cases d2 : d.f2 = 0
            · have e2 : (d.f2 != 0) = false := bne_eq_false_iff_eq.2 d2
              have HP := Lib.hid (show mateB kd ns i d = false by rw [HR.out.out]; unfold pairB; rw [e2]; simp)
              clear d1 d2 HR
              go_enter Try.func33, Try.ntmps33
              go_wp2_with fail
              refine (canon_between.calls _ _ _ _ _ HBT.out).mono ?_
              rintro e w' ⟨rfl, ⟨nd, rfl⟩⟩
              go_wp2
              go_ret
              exact ⟨ret_bool HP.out.symm, mate_end nd _⟩
            · have e2 : (d.f2 != 0) = true := bne_iff_ne.2 d2
              have HP := Lib.hid (show mateB kd ns i d = (q.f2 == wrap64 (-d.f2)) by rw [HR.out.out]; unfold pairB; rw [e1, e2]; rfl)
              clear d1 d2 HR
              go_enter Try.func33, Try.ntmps33
              go_wp2_with fail
              refine (canon_between.calls _ _ _ _ _ HBT.out).mono ?_
              rintro e w' ⟨rfl, ⟨nd, rfl⟩⟩
              go_wp2
              go_ret
              exact ⟨ret_bool HP.out.symm, mate_end nd _⟩
          · have e1 : (q.f6 == i) = false := beq_eq_false_iff_ne.2 d1
            have HP := Lib.hid (show mateB kd ns i d = false by rw [HR.out.out]; unfold pairB; rw [e1]; rfl)
            clear d1 HR
            go_enter Try.func33, Try.ntmps33
            go_wp2_with fail
            refine (canon_between.calls _ _ _ _ _ HBT.out).mono ?_
            rintro e w' ⟨rfl, ⟨nd, rfl⟩⟩
            go_wp2
            go_ret
            exact ⟨ret_bool HP.out.symm, mate_end nd _⟩
      · rw [decide_eq_false h3] at HBT
        have HP := Lib.hid (show mateB kd ns i d = false by rw [HM.out, if_neg (fun e => h3 ⟨e.1, e.2.1⟩)])
        clear h3 hK hr HM
        go_enter Try.func33, Try.ntmps33
        go_wp2_with fail
        refine (canon_between.calls _ _ _ _ _ HBT.out).mono ?_
        rintro e w' ⟨rfl, ⟨nd, rfl⟩⟩
        go_wp2
        go_ret
        exact ⟨ret_bool HP.out.symm, ((Below.refl _ W).alloc (Nat.le_refl _) _).trans ((below_d nd).mono (by simp))⟩
  · have b1 : (kd != 4) = true := bne_iff_ne.2 h1
    have HN := Lib.hid (show mateB kd ns i d = (d.f6 == 0) by unfold mateB; rw [if_pos (.inl h1)]; rfl)
    clear h1 hK hr
    go_enter Try.func33, Try.ntmps33
    go_wp2
    go_ret
    exact ⟨ret_bool HN.out.symm, (Below.refl _ W).alloc (Nat.le_refl _) _⟩
def diagB (mx : List Int) (n i : Nat) : Bool := rd mx ((i * n + i : Nat) : Int) == 0
def matrixB (mt : Int) (n : Nat) (mx : List Int) : Bool := if mt = 0 then decide (mx.length = n * n) && mx.all numB && (List.range n).all (diagB mx n) else decide (mx.length = 0)
theorem diag_lt {k n : Nat} (h : k < n) : k * n + k < n * n := by
  have h1 : k * n + n ≤ n * n := by rw [← Nat.succ_mul]; exact Nat.mul_le_mul_right n h
  omega
set_option maxHeartbeats 4000000 in
set_option maxRecDepth 100000 in
theorem matrix_c (x : Look) (K : Nat) (v : Value) (W : World) (hK : x.at W K v) (hn : x.ns.length ≤ 400) (hm : Kd.C (Kd.int .i64) W x.B x.mx.length x.mx) :
    Calls Try.prog 28 #[.pointer (some ⟨K, 0, none⟩)] W fun e w' => e = .returned (.bool (matrixB x.mt x.ns.length x.mx)) ∧ Below W.heap.size W w' := by
  obtain ⟨nm, kd, mt, sc, cp, fl, A, c, ns, B, e0, mx⟩ := x
  unfold Look.at at hK
  simp only at hK hn hm ⊢
  have hml := hm.2.1
  have HM := Lib.hid hm
  clear hm
  obtain ⟨k0, k1, k2, k3, k4, k5, k6, k7, k8, f0, f1, f2, f3, f4, f5, f6, f7, f8⟩ := blk9_ hK
  clear k0 k1 k3 k4 k5 k8 f0 f1 f2 f3 f4 f5 f6 f7 f8
  by_cases h1 : mt = 0
  · have b1 : (mt != 0) = false := bne_eq_false_iff_eq.2 h1
    have HS := Lib.hid (number_c B e0 mx W HM.out)
    have hsq : ns.length * ns.length ≤ 400 * 400 := Nat.mul_le_mul hn hn
    obtain ⟨sq, hq⟩ : ∃ sq : Nat, ns.length * ns.length = sq := ⟨_, rfl⟩
    have hqi : (ns.length : Int) * (ns.length : Int) = (sq : Int) := by rw [← hq, Int.natCast_mul]
    have HQ := Lib.hid hq
    rw [hq] at hsq
    by_cases h2 : mx.length = sq
    · have b2 : ((mx.length : Int) != (sq : Int)) = false := bne_eq_false_iff_eq.2 (by omega)
      have HL := Lib.hid h2
      cases hS : mx.all numB with
      | false =>
        rw [hS] at HS
        have HN := Lib.hid (show matrixB mt ns.length mx = false by unfold matrixB; rw [if_pos h1, hS]; simp)
        clear h1 hS hq h2
        go_enter Try.func28, Try.ntmps28
        go_wp2_with fail
        refine HS.out.mono ?_
        rintro e w2 ⟨rfl, hb⟩
        have HB := Aside0.mk hb
        clear hb
        go_wp2
        go_ret
        exact ⟨ret_bool HN.out.symm, HB.out⟩
      | true =>
        rw [hS] at HS
        have HN := Lib.hid (show matrixB mt ns.length mx = (List.range ns.length).all (diagB mx ns.length) by unfold matrixB; rw [if_pos h1, hS, decide_eq_true (h2.trans hq.symm)]; rfl)
        clear h1 hS hq h2
        go_enter Try.func28, Try.ntmps28
        go_wp2_with fail
        refine HS.out.mono ?_
        rintro e w2 ⟨rfl, hb⟩
        have kK := blk_below hK hb
        have HB := Aside0.mk hb
        have HC := Aside0.mk (Kd.C_below HM.out hb)
        have HD := Lib.hid (show ∀ l r : Bool, l = r → l = r from fun _ _ h => h)
        clear hb hK HM HS k2 k6 k7 HD
        obtain ⟨k0, k1, k2, k3, k4, k5, k6, k7, k8, f0, f1, f2, f3, f4, f5, f6, f7, f8⟩ := blk9_ kK
        clear k0 k1 k2 k3 k4 k5 k6 k8 f0 f1 f2 f3 f4 f5 f6 f7 f8 kK
        go_wp2
        go_loop [44] (fun v => ∃ k : Nat, v = .int .i64 k ∧ k ≤ ns.length ∧ Aside0 (∀ j : Nat, j < k → diagB mx ns.length j = true)) (fun v => ns.length - (intOf v).toNat)
        case atStart => exact ⟨0, rfl, Nat.zero_le _, ⟨fun j h => absurd h (Nat.not_lt_zero _)⟩⟩
        case round =>
          obtain ⟨k, rfl, hk, HO⟩ := hrel
          by_cases hlt : k < ns.length
          · obtain ⟨p1, hp1⟩ : ∃ p1 : Nat, k * ns.length = p1 := ⟨_, rfl⟩
            have hp2 : (k : Int) * (ns.length : Int) = (p1 : Int) := by rw [← hp1, Int.natCast_mul]
            have hlt2 := diag_lt hlt
            rw [hp1, HQ.out, ← HL.out] at hlt2
            have HP := Lib.hid hp1
            clear hp1
            obtain ⟨ad, e, hcx⟩ := Kd.at_int HC.out ((p1 : Int) + (k : Int)) (by omega) (by omega)
            cases e
            rw [show ((p1 : Int) + (k : Int)).toNat = p1 + k by omega] at hcx
            have i1 : 0 ≤ (p1 : Int) + (k : Int) := by omega
            have i2 : (p1 : Int) + (k : Int) < (mx.length : Int) := by omega
            have HE := Lib.hid (show diagB mx ns.length k = (rd mx ((p1 : Int) + (k : Int)) == 0) by unfold diagB; rw [HP.out, Int.natCast_add])
            generalize hr : rd mx ((p1 : Int) + (k : Int)) = z at *
            clear hr
            by_cases hz : z = 0
            · have z1 : (z != 0) = false := bne_eq_false_iff_eq.2 hz
              have HO2 := Aside0.mk (show ∀ j : Nat, j < k + 1 → diagB mx ns.length j = true from fun j hj => by
                by_cases h : j = k
                · rw [h, HE.out, hz]; rfl
                · exact HO.out j (by omega))
              clear hz
              go_wp2
              go_round
              case rel => exact ⟨k + 1, by go_num, by omega, HO2⟩
              case measure => simp [intOf]; omega
            · have z1 : (z != 0) = true := bne_iff_ne.2 hz
              have HF := Lib.hid (show (List.range ns.length).all (diagB mx ns.length) = false by
                rw [List.all_eq_false]
                exact ⟨k, List.mem_range.2 hlt, by rw [HE.out]; simpa using hz⟩)
              clear hz
              go_wp2
              go_ret
              exact ⟨ret_bool (by rw [HN.out, HF.out]), HB.out⟩
          · have HT := Lib.hid (show (List.range ns.length).all (diagB mx ns.length) = true from List.all_eq_true.2 fun j hj => HO.out j (by have := List.mem_range.1 hj; omega))
            go_wp2
            go_ret
            exact ⟨ret_bool (by rw [HN.out, HT.out]), HB.out⟩
    · have b2 : ((mx.length : Int) != (sq : Int)) = true := bne_iff_ne.2 (by omega)
      have HN := Lib.hid (show matrixB mt ns.length mx = false by unfold matrixB; rw [if_pos h1, decide_eq_false (fun e => h2 (e.trans hq))]; rfl)
      clear h1 hq h2 hK
      go_enter Try.func28, Try.ntmps28
      go_wp2
      go_ret
      exact ⟨ret_bool HN.out.symm, Below.refl _ _⟩
  · have b1 : (mt != 0) = true := bne_iff_ne.2 h1
    have HN := Lib.hid (show matrixB mt ns.length mx = ((mx.length : Int) == 0) by
      unfold matrixB; rw [if_neg h1]
      by_cases h2 : mx.length = 0
      · rw [decide_eq_true h2, h2]; rfl
      · rw [decide_eq_false h2, beq_eq_false_iff_ne.2 (by omega)])
    clear h1 hK
    go_enter Try.func28, Try.ntmps28
    go_wp2
    go_ret
    exact ⟨ret_bool HN.out.symm, Below.refl _ _⟩
end CanonWalk
end Go.Proofs.Ytfnnngoandpgkaa
namespace Go.Proofs.Ytfnnngoandpgkaa
open Go.RowKit Go.Proofs.YtfnnngoandpgkaaW.PrintWords Go.Proofs.YtfnnngoandpgkaaW.PrintLast Go.Proofs.YtfnnngoandpgkaaW.PrintMore
set_option linter.unusedVariables false
set_option linter.unusedSimpArgs false
namespace CanonWalk
open P
abbrev Fault := S43
def opt (b : Bool) (f : Fault) : List Fault := if b = true then [] else [f]
theorem info_fault : (Try.prog.info? 43).map (fun i => (i.zero, i.size, i.bytes)) = some (some (.agg #[.int .i64 0, .int .i64 0]), 2, 16) := by kernel_rfl
/-- What a note leaves: the looker has found one more, or none; all else lies as it lay. -/
def Noted (x : Look) (K : Nat) (xs : List Fault) (w0 W w' : World) : Prop :=
  ∃ v', x.at w' K v' ∧ Kd.S k43 43 w' w0.heap.size (fun _ => True) v' xs ∧ Below w0.heap.size w0 w' ∧ ∀ (k : Nat) (cs : Array Value) (T : TypeId), W.heap[k]? = some (.cells cs T (0, 0)) → k ≠ K → T ≠ 43 → w'.heap[k]? = some (.cells cs T (0, 0))
set_option maxHeartbeats 4000000 in
set_option maxRecDepth 100000 in
theorem note_c (x : Look) (G Bk : Nat) (b : Bool) (fd nd : Int) (v : Value) (xs : List Fault) (w0 W : World) (hlen : xs.length ≤ 1000000) (hG : x.at W G v) (hBk : W.heap[Bk]? = some (.cells #[.pointer (some ⟨G, 0, none⟩)] 49 (0, 0)))
    (hS : Kd.S k43 43 W w0.heap.size (fun _ => True) v xs) (hB : Below w0.heap.size w0 W) (hge : w0.heap.size ≤ G) :
    Calls Try.prog 23 #[.bool b, .int .i64 fd, .int .i64 nd, .pointer (some ⟨Bk, 0, none⟩)] W fun e w' => (∃ u, e = .returned u) ∧ Noted x G (xs ++ opt b ⟨fd, nd⟩) w0 W w' := by
  unfold Look.at at hG
  cases b with
  | true =>
    go_enter Try.func23, Try.ntmps23
    go_wp2
    go_end0
    exact ⟨⟨_, rfl⟩, v, hG, by simpa [opt] using hS, hB, fun _ _ _ h _ _ => h⟩
  | false =>
    go_enter Try.func23, Try.ntmps23
    go_wp2
    refine start_ (n := 13) (S := fun w' => w'.cell? ⟨Bk, 0, none⟩ = some (.pointer (some ⟨G, 0, none⟩)) ∧ w'.cell? ⟨G, 8, none⟩ = some v ∧ w'.heap[G]? = some (.cells #[.string x.nm, .int .i64 x.kd, .int .i64 x.mt, .int .i64 x.sc, .int .i64 x.cp, .int .i64 x.fl, .slice x.A x.ns.length x.c, .slice x.B x.mx.length x.e, v] 51 (0, 0)) ∧ w'.heap[Bk]? = some (.cells #[.pointer (some ⟨G, 0, none⟩)] 49 (0, 0)) ∧ Below w0.heap.size w0 w') (ds := [12]) #[false, false, false, false, false, false, false, false, false, false, false, false, false] (by kernel_rfl) rfl rfl ⟨(blk_cell (blk_drew hBk) 0).trans rfl, (blk_cell (blk_drew hG) 8).trans rfl, blk_drew hG, blk_drew hBk, below_drew hB⟩ (fun hHeld => ?_)
    have hS0 := Kd.S_drew hS
    have hB0 := below_drew hB
    have hOld : ∀ (k : Nat) (cs : Array Value) (T : TypeId), W.heap[k]? = some (.cells cs T (0, 0)) → W.drew.heap[k]? = some (.cells cs T (0, 0)) := fun k cs T h => blk_drew h
    clear hS hB hG hBk
    generalize W.drew = wd at hS0 hB0 hOld hHeld ⊢
    refine pure_ (i := 5) (N := some 14) (v := ?_) (a' := ?_) #[false, false, false, false, false, true, false, false, false, false, false, false, false] rfl rfl (by kernel_rfl) (fun _ _ _ h => h) (Or.inl ⟨by rfl, ?_⟩) ?_ ?_
    rotate_left
    · intro w'
      go_simp
      with_reducible rfl
    rotate_left
    · simp only [Act.put, List.setIfInBounds_toArray, List.set_cons_zero, List.set_cons_succ, i64_w, i32_w]
      rfl
    refine pure_ (i := 6) (N := some 15) (v := ?_) (a' := ?_) #[false, false, false, false, false, true, true, false, false, false, false, false, false] rfl rfl (by kernel_rfl) (fun _ _ _ h => h) (Or.inl ⟨by rfl, ?_⟩) ?_ ?_
    rotate_left
    · intro w'
      go_simp
      with_reducible rfl
    rotate_left
    · simp only [Act.put, List.setIfInBounds_toArray, List.set_cons_zero, List.set_cons_succ, i64_w, i32_w]
      rfl
    refine pure_ (i := 7) (N := some 16) (v := ?_) (a' := ?_) #[false, false, false, false, false, true, true, true, false, false, false, false, false] rfl rfl (by kernel_rfl) (fun _ _ _ h => h) (Or.inl ⟨by rfl, ?_⟩) ?_ ?_
    rotate_left
    · intro w'
      go_simp
      with_reducible rfl
    rotate_left
    · simp only [Act.put, List.setIfInBounds_toArray, List.set_cons_zero, List.set_cons_succ, i64_w, i32_w]
      rfl
    refine take_ (i := 0) (N := some 9) (v := ?_) (a' := ?_) #[true, false, false, false, false, true, true, true, false, false, false, false, false] rfl rfl (by kernel_rfl) (fun _ _ _ h => h) (Or.inl ⟨by rfl, ?_⟩) hHeld ?_ ?_
    rotate_left
    · rintro w' ⟨s0, s1, s2, s3, s4⟩
      go_simp
      with_reducible rfl
    rotate_left
    · simp only [Act.put, List.setIfInBounds_toArray, List.set_cons_zero, List.set_cons_succ, i64_w, i32_w]
      rfl
    refine take_ (i := 1) (N := some 10) (v := ?_) (a' := ?_) #[true, true, false, false, false, true, true, true, false, false, false, false, false] rfl rfl (by kernel_rfl) (fun _ _ _ h => h) (Or.inl ⟨by rfl, ?_⟩) hHeld ?_ ?_
    rotate_left
    · rintro w' ⟨s0, s1, s2, s3, s4⟩
      go_simp
      with_reducible rfl
    rotate_left
    · simp only [Act.put, List.setIfInBounds_toArray, List.set_cons_zero, List.set_cons_succ, i64_w, i32_w]
      rfl
    refine pure_ (i := 2) (N := some 11) (v := ?_) (a' := ?_) #[true, true, true, false, false, true, true, true, false, false, false, false, false] rfl rfl (by kernel_rfl) (fun _ _ _ h => h) (Or.inl ⟨by rfl, ?_⟩) ?_ ?_
    rotate_left
    · intro w'
      go_simp
      with_reducible rfl
    rotate_left
    · simp only [Act.put, List.setIfInBounds_toArray, List.set_cons_zero, List.set_cons_succ, i64_w, i32_w]
      rfl
    refine pure_ (i := 3) (N := some 12) (v := ?_) (a' := ?_) #[true, true, true, true, false, true, true, true, false, false, false, false, false] rfl rfl (by kernel_rfl) (fun _ _ _ h => h) (Or.inl ⟨by rfl, ?_⟩) ?_ ?_
    rotate_left
    · intro w'
      go_simp
      with_reducible rfl
    rotate_left
    · simp only [Act.put, List.setIfInBounds_toArray, List.set_cons_zero, List.set_cons_succ, i64_w, i32_w]
      rfl
    refine take_ (i := 4) (N := some 13) (v := ?_) (a' := ?_) #[true, true, true, true, true, true, true, true, false, false, false, false, false] rfl rfl (by kernel_rfl) (fun _ _ _ h => h) (Or.inl ⟨by rfl, ?_⟩) hHeld ?_ ?_
    rotate_left
    · rintro w' ⟨s0, s1, s2, s3, s4⟩
      go_simp
      with_reducible rfl
    rotate_left
    · simp only [Act.put, List.setIfInBounds_toArray, List.set_cons_zero, List.set_cons_succ, i64_w, i32_w]
      rfl
    refine one_ (i := 8) (N := some 17) #[true, true, true, true, true, true, true, true, true, false, false, false, false] rfl rfl (by kernel_rfl) (by decide) (fun K hK => ?_)
    have HK1 := Aside0.mk hHeld.2.2.1
    have HBk1 := Aside0.mk hHeld.2.2.2.1
    have HB1 := Aside0.mk hHeld.2.2.2.2
    refine value_ (w1 := ?_) (v := ?_) (by rfl) rfl ?_ ?_
    rotate_left 2
    · go_simp
      constructor
      · rfl
      · rfl
    refine hK.out _ _ ⟨(blk_cell (blk_alloc hHeld.2.2.2.1 _) 0).trans rfl, (blk_cell (blk_alloc hHeld.2.2.1 _) 8).trans rfl, blk_alloc hHeld.2.2.1 _, blk_alloc hHeld.2.2.2.1 _, below_alloc hHeld.2.2.2.2 _⟩ (fun hHeld => ?_)
    clear hK K
    refine norm_ (a' := ?_) ?_ ?_
    rotate_left
    · show Act.put _ (some 17) _ = _
      simp only [Act.put, List.setIfInBounds_toArray, List.set_cons_zero, List.set_cons_succ, i64_w, i32_w]
      rfl
    refine one_ (i := 9) (N := some 18) #[true, true, true, true, true, true, true, true, true, true, false, false, false] rfl rfl (by kernel_rfl) (by decide) (fun K hK => ?_)
    refine Kd.S_append_step P.k43 (w0 := w0) w0.heap.size (by rfl) (.tmp 13) (.tmp 17) 28 43 (.agg #[(.int .i64 0), (.int .i64 0)]) 16 rfl Try.underlying28 info_fault rfl (by decide) (by omega) v xs (⟨fd, nd⟩ : P.S43) [.int .i64 fd, .int .i64 nd] (fun _ => True) (fun _ => False) rfl rfl ?aP (fun _ hk => hk.elim) ?aF ?aO ?aB ?aS ?aL ?_
    case aP => exact P.k43_mkM _ _ _ (⟨fd, nd⟩ : P.S43)
    case aF => exact (fun _ _ => trivial)
    case aO => exact Kd.S_mono (hS0) (fun _ _ => ⟨trivial, fun h => h⟩)
    case aB => exact HB1.out
    case aS => exact below_size HB1.out
    case aL => omega
    intro v1 w1 ho hb hg1 hat
    have HK2 := Aside0.mk (blk_grown HK1.out hg1 (Kd.S_ne (hS0) HK1.out (by decide)))
    have HBk2 := Aside0.mk (blk_grown HBk1.out hg1 (Kd.S_ne (hS0) HBk1.out (by decide)))
    have HB2 := Aside0.mk hb
    have HS2 := Aside0.mk ho
    have HG2 := Aside0.mk hg1
    clear ho hb hg1 hat
    obtain ⟨A1, c1, e1⟩ := Kd.S_slice HS2.out
    subst e1
    refine hK.out _ _ ⟨(blk_cell (HBk2.out) 0).trans rfl, (blk_cell (HK2.out) 8).trans rfl, HK2.out, HBk2.out, HB2.out⟩ (fun hHeld => ?_)
    clear hK K
    refine norm_ (a' := ?_) ?_ ?_
    rotate_left
    · show Act.put _ (some 18) _ = _
      simp only [Act.put, List.setIfInBounds_toArray, List.set_cons_zero, List.set_cons_succ, i64_w, i32_w]
      rfl
    refine pure_ (i := 10) (N := some 19) (v := ?_) (a' := ?_) #[true, true, true, true, true, true, true, true, true, true, true, false, false] rfl rfl (by kernel_rfl) (fun _ _ _ h => h) (Or.inl ⟨by rfl, ?_⟩) ?_ ?_
    rotate_left
    · intro w'
      go_simp
      with_reducible rfl
    rotate_left
    · simp only [Act.put, List.setIfInBounds_toArray, List.set_cons_zero, List.set_cons_succ, i64_w, i32_w]
      rfl
    refine pure_ (i := 11) (N := some 20) (v := ?_) (a' := ?_) #[true, true, true, true, true, true, true, true, true, true, true, true, false] rfl rfl (by kernel_rfl) (fun _ _ _ h => h) (Or.inl ⟨by rfl, ?_⟩) ?_ ?_
    rotate_left
    · intro w'
      go_simp
      with_reducible rfl
    rotate_left
    · simp only [Act.put, List.setIfInBounds_toArray, List.set_cons_zero, List.set_cons_succ, i64_w, i32_w]
      rfl
    refine last_ (i := 12) (N := none) #[true, true, true, true, true, true, true, true, true, true, true, true, true] rfl rfl (by kernel_rfl) (by decide) (fun K hK => ?_)
    have q1 : w1.cell? ⟨G, 8, none⟩ = some v := (blk_cell HK2.out 8).trans rfl
    have q2 := blk_frozen HK2.out 8
    refine skip_ (w1 := ?_) (by rfl) rfl ?_ ?_
    rotate_left
    · go_simp
      rfl
    refine hK.out _ _ ?_
    clear hK K
    refine done_ (by kernel_rfl) ?_

    go_wp2
    go_end0
    have HS3 : Kd.S k43 43 w1 w0.heap.size (fun k => True) (.slice A1 (xs.length + 1) c1) (xs ++ opt false ⟨fd, nd⟩) := by
      have h := HS2.out
      simp only [List.length_append, List.length_cons, List.length_nil] at h
      exact Kd.S_mono h (fun _ _ => trivial)
    refine ⟨⟨_, rfl⟩, _, blk_put (cs := #[.string x.nm, .int .i64 x.kd, .int .i64 x.mt, .int .i64 x.sc, .int .i64 x.cp, .int .i64 x.fl, .slice x.A x.ns.length x.c, .slice x.B x.mx.length x.e, v]) HK2.out 8 _ rfl, Kd.S_mono (Kd.S_far (p := ⟨G, 8, none⟩) (Kd.S_types HS3 HK2.out (by decide)) (fun _ hk => hk.2) _) (fun _ _ => trivial), below_set HB2.out hge, fun k cs T hk hne hT => ?_⟩
    exact blk_far (blk_grown (hOld k cs T hk) HG2.out (Kd.S_ne hS0 (hOld k cs T hk) hT.symm)) hne _
end CanonWalk
end Go.Proofs.Ytfnnngoandpgkaa
namespace Go.Proofs.Ytfnnngoandpgkaa
open Go.RowKit Go.Proofs.YtfnnngoandpgkaaW.PrintWords Go.Proofs.YtfnnngoandpgkaaW.PrintLast Go.Proofs.YtfnnngoandpgkaaW.PrintMore
set_option linter.unusedVariables false
set_option linter.unusedSimpArgs false
namespace CanonWalk
open P
def kindB (kd : Int) : Bool := decide (1 ≤ kd ∧ kd ≤ 4)
def knownB (m : Int) : Bool := decide (0 ≤ m ∧ m ≤ 6)
def scaleB (mt sc : Int) : Bool := decide (0 ≤ sc ∧ sc ≤ 6) && (decide (mt ≠ 0) || decide (sc = 0))
def limitB (kd n lo hi : Int) : Bool := if kd = 1 then decide (n = 0) else decide (lo ≤ n ∧ n ≤ hi)
def headOf (nm : ByteArray) (kd mt sc cp fl : Int) : List Fault :=
  [] ++ opt (nameB nm) ⟨1, 0⟩ ++ opt (kindB kd) ⟨2, 0⟩ ++ opt (knownB mt) ⟨3, 0⟩ ++ opt (scaleB mt sc) ⟨4, 0⟩ ++ opt (limitB kd cp 1 100000000) ⟨5, 0⟩ ++ opt (limitB kd fl 0 400) ⟨6, 0⟩
def nodeOf (kd mt : Int) (ns : List Node) (i : Nat) : List Fault :=
  opt (coordB mt (rd_T46 ns (i : Int))) ⟨9, i⟩ ++ opt (demandB kd i (rd_T46 ns (i : Int))) ⟨10, i⟩ ++ opt (windowB kd (rd_T46 ns (i : Int))) ⟨11, i⟩ ++ opt (serviceB kd (rd_T46 ns (i : Int))) ⟨12, i⟩ ++ opt (mateB kd ns i (rd_T46 ns (i : Int))) ⟨13, i⟩
def faultsOf (nm : ByteArray) (kd mt sc cp fl : Int) (ns : List Node) (mx : List Int) : List Fault :=
  if 1 ≤ ns.length ∧ ns.length ≤ 400 then headOf nm kd mt sc cp fl ++ opt (matrixB mt ns.length mx) ⟨8, 0⟩ ++ (List.range ns.length).flatMap (nodeOf kd mt ns) else headOf nm kd mt sc cp fl ++ [⟨7, 0⟩]
theorem opt_le (b : Bool) (f : Fault) : (opt b f).length ≤ 1 := by unfold opt; split <;> simp
def XB (x : Look) : Obj := .cells #[.string x.nm, .int .i64 x.kd, .int .i64 x.mt, .int .i64 x.sc, .int .i64 x.cp, .int .i64 x.fl, .slice x.A x.ns.length x.c, .slice x.B x.mx.length x.e] 25 (0, 0)
/-- Check's state: the looker, what it has found, and the blocks that lead to it. -/
def St (x : Look) (w0 : World) (n : Nat) (xs : List Fault) (W : World) : Prop :=
  xs.length ≤ n ∧ ∃ v, x.at W (w0.heap.size + 1) v ∧ Kd.S k43 43 W w0.heap.size (fun _ => True) v xs ∧ Below w0.heap.size w0 W ∧ W.heap[w0.heap.size]? = some (XB x) ∧ W.heap[w0.heap.size + 1 + 1]? = some (.cells #[.pointer (some ⟨w0.heap.size + 1, 0, none⟩)] 49 (0, 0))
theorem St.below {x : Look} {w0 W W' : World} {n : Nat} {xs : List Fault} (h : St x w0 n xs W) (hb : Below W.heap.size W W') : St x w0 n xs W' := by
  obtain ⟨hn, v, h1, h2, h3, h4, h5⟩ := h
  unfold Look.at at h1
  exact ⟨hn, v, blk_below h1 hb, Kd.S_below h2 hb, below_step h3 hb, blk_below h4 hb, blk_below h5 hb⟩
theorem St.alloc {x : Look} {w0 W : World} {n : Nat} {xs : List Fault} (h : St x w0 n xs W) (o : Obj) : St x w0 n xs (W.alloc o) := h.below (below_alloc (Below.refl _ _) o)
theorem St.drew {x : Look} {w0 W : World} {n : Nat} {xs : List Fault} (h : St x w0 n xs W) : St x w0 n xs W.drew := h.below (below_drew1 (Below.refl _ _))
theorem St.drewN {x : Look} {w0 W : World} {n : Nat} {xs : List Fault} (h : St x w0 n xs W) (m : Nat) : St x w0 n xs (W.drewN m) := h.below (pw_below_drewN (Below.refl _ _) m)
theorem St.cells {x : Look} {w0 W : World} {n : Nat} {xs : List Fault} (h : St x w0 n xs W) : Below w0.heap.size w0 W ∧ W.heap[w0.heap.size]? = some (XB x) ∧ W.cell? ⟨w0.heap.size + 1 + 1, 0, none⟩ = some (.pointer (some ⟨w0.heap.size + 1, 0, none⟩)) := by
  obtain ⟨_, _, _, _, h1, h2, h3⟩ := h
  exact ⟨h1, h2, (blk_cell h3 0).trans rfl⟩
theorem St.lt {x : Look} {w0 W : World} {n : Nat} {xs : List Fault} (h : St x w0 n xs W) : w0.heap.size + 1 + 1 < W.heap.size := by
  obtain ⟨_, _, _, _, _, _, h3⟩ := h
  exact blk_lt h3
theorem St.looker {x : Look} {w0 W : World} {n : Nat} {xs : List Fault} (h : St x w0 n xs W) : ∃ v, W.cell? ⟨w0.heap.size + 1, 8, none⟩ = some v ∧ Kd.S k43 43 W w0.heap.size (fun _ => True) v xs ∧ Below w0.heap.size w0 W := by
  obtain ⟨_, v, h0, h1, h2, _, _⟩ := h
  unfold Look.at at h0
  exact ⟨v, (blk_cell h0 8).trans rfl, h1, h2⟩
theorem St.start (x : Look) (w : World) : St x w 0 [] (((w.alloc (.cells #[.string x.nm, .int .i64 x.kd, .int .i64 x.mt, .int .i64 x.sc, .int .i64 x.cp, .int .i64 x.fl, .slice x.A x.ns.length x.c, .slice x.B x.mx.length x.e] 25)).alloc (.cells #[.string x.nm, .int .i64 x.kd, .int .i64 x.mt, .int .i64 x.sc, .int .i64 x.cp, .int .i64 x.fl, .slice x.A x.ns.length x.c, .slice x.B x.mx.length x.e, .slice none 0 0] 51)).alloc (.cells #[.pointer (some ⟨w.heap.size + 1, 0, none⟩)] 49)) := by
  have b0 := heap_alloc_new w (.cells #[.string x.nm, .int .i64 x.kd, .int .i64 x.mt, .int .i64 x.sc, .int .i64 x.cp, .int .i64 x.fl, .slice x.A x.ns.length x.c, .slice x.B x.mx.length x.e] 25)
  have b1 := heap_alloc_new (w.alloc (.cells #[.string x.nm, .int .i64 x.kd, .int .i64 x.mt, .int .i64 x.sc, .int .i64 x.cp, .int .i64 x.fl, .slice x.A x.ns.length x.c, .slice x.B x.mx.length x.e] 25)) (.cells #[.string x.nm, .int .i64 x.kd, .int .i64 x.mt, .int .i64 x.sc, .int .i64 x.cp, .int .i64 x.fl, .slice x.A x.ns.length x.c, .slice x.B x.mx.length x.e, .slice none 0 0] 51)
  have b2 := heap_alloc_new ((w.alloc (.cells #[.string x.nm, .int .i64 x.kd, .int .i64 x.mt, .int .i64 x.sc, .int .i64 x.cp, .int .i64 x.fl, .slice x.A x.ns.length x.c, .slice x.B x.mx.length x.e] 25)).alloc (.cells #[.string x.nm, .int .i64 x.kd, .int .i64 x.mt, .int .i64 x.sc, .int .i64 x.cp, .int .i64 x.fl, .slice x.A x.ns.length x.c, .slice x.B x.mx.length x.e, .slice none 0 0] 51)) (.cells #[.pointer (some ⟨w.heap.size + 1, 0, none⟩)] 49)
  rw [World.size_alloc] at b1 b2
  rw [World.size_alloc] at b2
  exact ⟨Nat.le_refl _, .slice none 0 0, blk_alloc b1 _, Kd.S_nil _ _ _ _ _, below_alloc (below_alloc (below_alloc (Below.refl _ _) _) _) _, blk_alloc (blk_alloc b0 _) _, b2⟩
theorem note_st (x : Look) (w0 : World) (n : Nat) (b : Bool) (fd nd : Int) (xs : List Fault) (W : World) (hlen : n ≤ 1000000) (h : St x w0 n xs W) :
    Calls Try.prog 23 #[.bool b, .int .i64 fd, .int .i64 nd, .pointer (some ⟨w0.heap.size + 1 + 1, 0, none⟩)] W fun e w' => (∃ u, e = .returned u) ∧ St x w0 (n + 1) (xs ++ opt b ⟨fd, nd⟩) w' ∧ ∀ (k : Nat) (cs : Array Value) (T : TypeId), W.heap[k]? = some (.cells cs T (0, 0)) → T ≠ 51 → T ≠ 43 → w'.heap[k]? = some (.cells cs T (0, 0)) := by
  obtain ⟨hn, v, h1, h2, h3, h4, h5⟩ := h
  have h1' := h1
  unfold Look.at at h1'
  refine (note_c x (w0.heap.size + 1) (w0.heap.size + 1 + 1) b fd nd v xs w0 W (by omega) h1 h5 h2 h3 (by omega)).mono ?_
  rintro e w' ⟨hu, v', g1, g2, g3, g4⟩
  unfold XB at h4
  have old : ∀ (k : Nat) (cs : Array Value) (T : TypeId), W.heap[k]? = some (.cells cs T (0, 0)) → T ≠ 51 → T ≠ 43 → w'.heap[k]? = some (.cells cs T (0, 0)) := fun k cs T hk n1 n2 => g4 k cs T hk (blk_ne hk h1' n1) n2
  exact ⟨hu, ⟨by rw [List.length_append]; have := opt_le b ⟨fd, nd⟩; omega, v', g1, g2, g3, old _ _ _ h4 (by decide) (by decide), old _ _ _ h5 (by decide) (by decide)⟩, old⟩
theorem known_f (m : Int) : P.metric_Known.f m = some (knownB m) := by
  unfold P.metric_Known.f knownB
  by_cases h : 0 ≤ m
  · rw [if_pos h]; congr 1; rw [decide_eq_decide]; omega
  · rw [if_neg h, decide_eq_false (by omega)]
theorem known_c (m : Int) (w : World) : Calls Try.prog 26 #[.int .i64 m] w fun e w' => e = .returned (.bool (knownB m)) ∧ Below w.heap.size w w' :=
  (P.metric_Known.calls m _ w (known_f m)).mono (fun _ _ ⟨h, n, e⟩ => ⟨h, by rw [e]; exact below_d n⟩)
theorem limit_c (x : Look) (K : Nat) (v : Value) (n lo hi : Int) (W : World) (hK : x.at W K v) :
    Calls Try.prog 27 #[.pointer (some ⟨K, 0, none⟩), .int .i64 n, .int .i64 lo, .int .i64 hi] W fun e w' => e = .returned (.bool (limitB x.kd n lo hi)) ∧ Below W.heap.size W w' := by
  unfold Look.at at hK
  obtain ⟨k0, k1, k2, k3, k4, k5, k6, k7, k8, f0, f1, f2, f3, f4, f5, f6, f7, f8⟩ := blk9_ hK
  clear k0 k2 k3 k4 k5 k6 k7 k8 f0 f1 f2 f3 f4 f5 f6 f7 f8
  clear hK
  by_cases h1 : x.kd = 1
  · have b1 : (x.kd == 1) = true := beq_iff_eq.2 h1
    have HN := Lib.hid (show limitB x.kd n lo hi = (n == 0) by unfold limitB; rw [if_pos h1]; rfl)
    clear h1
    go_enter Try.func27, Try.ntmps27
    go_wp2
    go_ret
    exact ⟨ret_bool HN.out.symm, Below.refl _ _⟩
  · have b1 : (x.kd == 1) = false := beq_eq_false_iff_ne.2 h1
    have HN := Lib.hid (show limitB x.kd n lo hi = decide (lo ≤ n ∧ n ≤ hi) by unfold limitB; rw [if_neg h1])
    have HC := Lib.hid (between_c n lo hi)
    clear h1
    go_enter Try.func27, Try.ntmps27
    go_wp2_with fail
    refine (HC.out _).mono ?_
    rintro e w2 ⟨rfl, hb⟩
    have HB := Aside0.mk hb
    clear hb
    go_wp2
    go_ret
    exact ⟨ret_bool (by rw [HN.out, Bool.decide_and]), HB.out⟩
theorem limit_st (x : Look) (w0 : World) (m : Nat) (xs : List Fault) (n lo hi : Int) (W : World) (h : St x w0 m xs W) :
    Calls Try.prog 27 #[.pointer (some ⟨w0.heap.size + 1, 0, none⟩), .int .i64 n, .int .i64 lo, .int .i64 hi] W fun e w' => e = .returned (.bool (limitB x.kd n lo hi)) ∧ Below W.heap.size W w' := by
  obtain ⟨_, v, h1, _⟩ := h
  exact limit_c x _ v n lo hi W h1
theorem matrix_st (x : Look) (w0 : World) (m : Nat) (xs : List Fault) (W : World) (hn : x.ns.length ≤ 400) (hm : Kd.C (Kd.int .i64) w0 x.B x.mx.length x.mx) (h : St x w0 m xs W) :
    Calls Try.prog 28 #[.pointer (some ⟨w0.heap.size + 1, 0, none⟩)] W fun e w' => e = .returned (.bool (matrixB x.mt x.ns.length x.mx)) ∧ Below W.heap.size W w' := by
  obtain ⟨_, v, h1, _, h3, _⟩ := h
  exact matrix_c x _ v W h1 hn (Kd.C_below hm h3)
theorem kind_c (kd : Int) (w : World) : Calls Try.prog 25 #[.int .i64 kd, .int .i64 1, .int .i64 4] w fun e w' => e = .returned (.bool (kindB kd)) ∧ Below w.heap.size w w' := between_c kd 1 4 w
def okScale (sc : Int) : Bool := decide (0 ≤ sc ∧ sc ≤ 6)
theorem scale_c (sc : Int) (w : World) : Calls Try.prog 25 #[.int .i64 sc, .int .i64 0, .int .i64 6] w fun e w' => e = .returned (.bool (okScale sc)) ∧ Below w.heap.size w w' := between_c sc 0 6 w
def okCount (n : Nat) : Bool := decide (1 ≤ (n : Int) ∧ (n : Int) ≤ 400)
theorem count_c (n : Nat) (w : World) : Calls Try.prog 25 #[.int .i64 (n : Int), .int .i64 1, .int .i64 400] w fun e w' => e = .returned (.bool (okCount n)) ∧ Below w.heap.size w w' := between_c n 1 400 w
theorem coord_st (x : Look) (w0 : World) (m : Nat) (xs : List Fault) (d : Node) (i : Int) (W : World) (h : St x w0 m xs W) :
    Calls Try.prog 29 #[oneV (w0.heap.size + 1) d i] W fun e w' => e = .returned (.bool (coordB x.mt d)) ∧ Below W.heap.size W w' := by
  obtain ⟨_, v, h1, _⟩ := h
  exact coord_c x _ v d i W h1
theorem demand_st (x : Look) (w0 : World) (m : Nat) (xs : List Fault) (d : Node) (i : Int) (W : World) (h : St x w0 m xs W) :
    Calls Try.prog 30 #[oneV (w0.heap.size + 1) d i] W fun e w' => e = .returned (.bool (demandB x.kd i d)) ∧ Below W.heap.size W w' := by
  obtain ⟨_, v, h1, _⟩ := h
  exact demand_c x _ v d i W h1
theorem window_st (x : Look) (w0 : World) (m : Nat) (xs : List Fault) (d : Node) (i : Int) (W : World) (h : St x w0 m xs W) :
    Calls Try.prog 31 #[oneV (w0.heap.size + 1) d i] W fun e w' => e = .returned (.bool (windowB x.kd d)) ∧ Below W.heap.size W w' := by
  obtain ⟨_, v, h1, _⟩ := h
  exact window_c x _ v d i W h1
theorem service_st (x : Look) (w0 : World) (m : Nat) (xs : List Fault) (d : Node) (i : Int) (W : World) (h : St x w0 m xs W) :
    Calls Try.prog 32 #[oneV (w0.heap.size + 1) d i] W fun e w' => e = .returned (.bool (serviceB x.kd d)) ∧ Below W.heap.size W w' := by
  obtain ⟨_, v, h1, _⟩ := h
  exact service_c x _ v d i W h1
theorem mate_st (x : Look) (w0 : World) (m : Nat) (xs : List Fault) (d : Node) (i : Int) (W : World) (hn : x.ns.length ≤ 65536) (hr : Kd.C k46 w0 x.A x.ns.length x.ns) (h : St x w0 m xs W) :
    Calls Try.prog 33 #[oneV (w0.heap.size + 1) d i] W fun e w' => e = .returned (.bool (mateB x.kd x.ns i d)) ∧ Below W.heap.size W w' := by
  obtain ⟨_, v, h1, _, h3, _⟩ := h
  exact mate_c x _ v d i W h1 hn (Kd.C_below hr h3)
set_option maxHeartbeats 4000000 in
set_option maxRecDepth 100000 in
theorem check_c (nm : ByteArray) (kd mt sc cp fl : Int) (A : Option Addr) (c : Nat) (ns : List Node) (B : Option Addr) (e0 : Nat) (mx : List Int) (w : World) (hs : nm.size ≤ 9223372036854775807)
    (hr : Kd.C k46 w A ns.length ns) (hm : Kd.C (Kd.int .i64) w B mx.length mx) :
    Calls Try.prog 11 #[.agg #[.string nm, .int .i64 kd, .int .i64 mt, .int .i64 sc, .int .i64 cp, .int .i64 fl, .slice A ns.length c, .slice B mx.length e0]] w fun e w' => ∃ v, e = .returned v ∧ Kd.R k43 43 w' w.heap.size (fun _ => True) v (faultsOf nm kd mt sc cp fl ns mx) ∧ Below w.heap.size w w' := by
  have HR := Lib.hid hr
  have HM := Lib.hid hm
  have HNm := Lib.hid (name_c nm)
  have HS := Lib.hid hs
  have H0 := Aside0.mk (St.start ⟨nm, kd, mt, sc, cp, fl, A, c, ns, B, e0, mx⟩ w)
  clear hr hm hs
  go_enter Try.func11, Try.ntmps11
  go_wp2_with fail
  refine (HNm.out _ HS.out).mono ?_
  rintro e w3 ⟨rfl, hb⟩
  have H1 := Aside0.mk (H0.out.below hb)
  clear hb H0 HNm HS
  go_wp2_with fail
  refine (note_st _ w 0 _ _ _ _ _ (by omega) H1.out).mono ?_
  rintro e w4 ⟨⟨u4, rfl⟩, h2, hold⟩
  have H2 := Aside0.mk h2
  clear h2 hold H1 
  have hx : w4.heap[w.heap.size]? = some (.cells #[.string nm, .int .i64 kd, .int .i64 mt, .int .i64 sc, .int .i64 cp, .int .i64 fl, .slice A ns.length c, .slice B mx.length e0] 25 (0, 0)) := H2.out.cells.2.1
  obtain ⟨x0, x1, x2, x3, x4, x5, x6, x7, f0, f1, f2, f3, f4, f5, f6, f7⟩ := blk8_ hx
  clear x0 x2 x3 x4 x5 x6 x7 f0 f1 f2 f3 f4 f5 f6 f7 hx
  have hp := H2.out.cells.2.2
  go_wp2_with fail
  refine (kind_c kd _).mono ?_
  rintro e w5 ⟨rfl, hb⟩
  have H3 := Aside0.mk (H2.out.below hb)
  clear hb H2 x1 hp
  go_wp2_with fail
  refine (note_st _ w 1 _ _ _ _ _ (by omega) H3.out).mono ?_
  rintro e w6 ⟨⟨u6, rfl⟩, h2, hold⟩
  have H4 := Aside0.mk h2
  clear h2 hold H3 
  have hx : w6.heap[w.heap.size]? = some (.cells #[.string nm, .int .i64 kd, .int .i64 mt, .int .i64 sc, .int .i64 cp, .int .i64 fl, .slice A ns.length c, .slice B mx.length e0] 25 (0, 0)) := H4.out.cells.2.1
  obtain ⟨x0, x1, x2, x3, x4, x5, x6, x7, f0, f1, f2, f3, f4, f5, f6, f7⟩ := blk8_ hx
  clear x0 x1 x3 x4 x5 x6 x7 f0 f1 f2 f3 f4 f5 f6 f7 hx
  have hp := H4.out.cells.2.2
  go_wp2_with fail
  refine (known_c mt _).mono ?_
  rintro e w7 ⟨rfl, hb⟩
  have H5 := Aside0.mk (H4.out.below hb)
  clear hb H4 x2 hp
  go_wp2_with fail
  refine (note_st _ w 2 _ _ _ _ _ (by omega) H5.out).mono ?_
  rintro e w8 ⟨⟨u8, rfl⟩, h2, hold⟩
  have H6 := Aside0.mk h2
  clear h2 hold H5 
  have hx : w8.heap[w.heap.size]? = some (.cells #[.string nm, .int .i64 kd, .int .i64 mt, .int .i64 sc, .int .i64 cp, .int .i64 fl, .slice A ns.length c, .slice B mx.length e0] 25 (0, 0)) := H6.out.cells.2.1
  obtain ⟨x0, x1, x2, x3, x4, x5, x6, x7, f0, f1, f2, f3, f4, f5, f6, f7⟩ := blk8_ hx
  clear x0 x1 x4 x5 x6 x7 f0 f1 f2 f3 f4 f5 f6 f7 hx
  have hp := H6.out.cells.2.2
  go_upto_region 6 with (fail)
  go_cut [] (fun wc => Aside0 (St ⟨nm, kd, mt, sc, cp, fl, A, c, ns, B, e0, mx⟩ w 4 ([] ++ opt (nameB nm) ⟨1, 0⟩ ++ opt (kindB kd) ⟨2, 0⟩ ++ opt (knownB mt) ⟨3, 0⟩ ++ opt (scaleB mt sc) ⟨4, 0⟩) wc))
  case first =>
    cases h1 : okScale sc with
    | true =>
      by_cases h2 : mt = 0
      · have b2 : (mt != 0) = false := bne_eq_false_iff_eq.2 h2
        have HN := Lib.hid (show scaleB mt sc = (sc == 0) by unfold scaleB; rw [show decide (0 ≤ sc ∧ sc ≤ 6) = true from h1, decide_eq_false (fun e => e h2)]; rfl)
        clear h2
        have HSC := Lib.hid (scale_c sc _ : Calls Try.prog 25 #[.int .i64 sc, .int .i64 0, .int .i64 6] w8 _)
        rw [h1] at HSC
        clear h1
        go_wp2_with fail
        refine HSC.out.mono ?_
        rintro e w9 ⟨rfl, hb⟩
        have H7 := Aside0.mk (H6.out.below hb)
        clear hb H6 x2 x3 hp HSC
        have hx : w9.heap[w.heap.size]? = some (.cells #[.string nm, .int .i64 kd, .int .i64 mt, .int .i64 sc, .int .i64 cp, .int .i64 fl, .slice A ns.length c, .slice B mx.length e0] 25 (0, 0)) := H7.out.cells.2.1
        obtain ⟨x0, x1, x2, x3, x4, x5, x6, x7, f0, f1, f2, f3, f4, f5, f6, f7⟩ := blk8_ hx
        clear x0 x1 x4 x5 x6 x7 f0 f1 f2 f3 f4 f5 f6 f7 hx
        have hp := H7.out.cells.2.2
        go_wp2_with fail
        refine (note_st _ w 3 _ _ _ _ _ (by omega) H7.out).mono ?_
        rintro e w10 ⟨⟨u10, rfl⟩, h2, -⟩
        go_wp2
        go_meet
        exact ⟨by rw [HN.out]; exact h2⟩
      · have b2 : (mt != 0) = true := bne_iff_ne.2 h2
        have HN := Lib.hid (show scaleB mt sc = true by unfold scaleB; rw [show decide (0 ≤ sc ∧ sc ≤ 6) = true from h1, decide_eq_true h2]; rfl)
        clear h2
        have HSC := Lib.hid (scale_c sc _ : Calls Try.prog 25 #[.int .i64 sc, .int .i64 0, .int .i64 6] w8 _)
        rw [h1] at HSC
        clear h1
        go_wp2_with fail
        refine HSC.out.mono ?_
        rintro e w9 ⟨rfl, hb⟩
        have H7 := Aside0.mk (H6.out.below hb)
        clear hb H6 x2 x3 hp HSC
        have hx : w9.heap[w.heap.size]? = some (.cells #[.string nm, .int .i64 kd, .int .i64 mt, .int .i64 sc, .int .i64 cp, .int .i64 fl, .slice A ns.length c, .slice B mx.length e0] 25 (0, 0)) := H7.out.cells.2.1
        obtain ⟨x0, x1, x2, x3, x4, x5, x6, x7, f0, f1, f2, f3, f4, f5, f6, f7⟩ := blk8_ hx
        clear x0 x1 x4 x5 x6 x7 f0 f1 f2 f3 f4 f5 f6 f7 hx
        have hp := H7.out.cells.2.2
        go_wp2_with fail
        refine (note_st _ w 3 _ _ _ _ _ (by omega) H7.out).mono ?_
        rintro e w10 ⟨⟨u10, rfl⟩, h2, -⟩
        go_wp2
        go_meet
        exact ⟨by rw [HN.out]; exact h2⟩
    | false =>
      have HN := Lib.hid (show scaleB mt sc = false by unfold scaleB; rw [show decide (0 ≤ sc ∧ sc ≤ 6) = false from h1]; rfl)
      have HSC := Lib.hid (scale_c sc _ : Calls Try.prog 25 #[.int .i64 sc, .int .i64 0, .int .i64 6] w8 _)
      rw [h1] at HSC
      clear h1
      go_wp2_with fail
      refine HSC.out.mono ?_
      rintro e w9 ⟨rfl, hb⟩
      have H7 := Aside0.mk (H6.out.below hb)
      clear hb H6 x2 x3 hp HSC
      have hx : w9.heap[w.heap.size]? = some (.cells #[.string nm, .int .i64 kd, .int .i64 mt, .int .i64 sc, .int .i64 cp, .int .i64 fl, .slice A ns.length c, .slice B mx.length e0] 25 (0, 0)) := H7.out.cells.2.1
      obtain ⟨x0, x1, x2, x3, x4, x5, x6, x7, f0, f1, f2, f3, f4, f5, f6, f7⟩ := blk8_ hx
      clear x0 x1 x4 x5 x6 x7 f0 f1 f2 f3 f4 f5 f6 f7 hx
      have hp := H7.out.cells.2.2
      go_wp2_with fail
      refine (note_st _ w 3 _ _ _ _ _ (by omega) H7.out).mono ?_
      rintro e w10 ⟨⟨u10, rfl⟩, h2, -⟩
      go_wp2
      go_meet
      exact ⟨by rw [HN.out]; exact h2⟩
  case rest =>
    rename_i wc
    have H8 := hcut
    clear hcut H6 x2 x3 hp
    have hx : wc.heap[w.heap.size]? = some (.cells #[.string nm, .int .i64 kd, .int .i64 mt, .int .i64 sc, .int .i64 cp, .int .i64 fl, .slice A ns.length c, .slice B mx.length e0] 25 (0, 0)) := H8.out.cells.2.1
    obtain ⟨x0, x1, x2, x3, x4, x5, x6, x7, f0, f1, f2, f3, f4, f5, f6, f7⟩ := blk8_ hx
    clear x0 x1 x2 x3 x5 x6 x7 f0 f1 f2 f3 f4 f5 f6 f7 hx
    have hp := H8.out.cells.2.2
    go_wp2_with fail
    refine (limit_st _ w _ _ cp 1 100000000 _ H8.out).mono ?_
    rintro e w11 ⟨rfl, hb⟩
    have H9 := Aside0.mk (H8.out.below hb)
    clear hb H8 x4 hp
    go_wp2_with fail
    refine (note_st _ w 4 _ _ _ _ _ (by omega) H9.out).mono ?_
    rintro e w12 ⟨⟨u12, rfl⟩, h2, hold⟩
    have H10 := Aside0.mk h2
    clear h2 hold H9 
    have hx : w12.heap[w.heap.size]? = some (.cells #[.string nm, .int .i64 kd, .int .i64 mt, .int .i64 sc, .int .i64 cp, .int .i64 fl, .slice A ns.length c, .slice B mx.length e0] 25 (0, 0)) := H10.out.cells.2.1
    obtain ⟨x0, x1, x2, x3, x4, x5, x6, x7, f0, f1, f2, f3, f4, f5, f6, f7⟩ := blk8_ hx
    clear x0 x1 x2 x3 x4 x6 x7 f0 f1 f2 f3 f4 f5 f6 f7 hx
    have hp := H10.out.cells.2.2
    go_wp2_with fail
    refine (limit_st _ w _ _ fl 0 400 _ H10.out).mono ?_
    rintro e w13 ⟨rfl, hb⟩
    have H11 := Aside0.mk (H10.out.below hb)
    clear hb H10 x5 hp
    go_wp2_with fail
    refine (note_st _ w 5 _ _ _ _ _ (by omega) H11.out).mono ?_
    rintro e w14 ⟨⟨u14, rfl⟩, h2, hold⟩
    have H12 := Aside0.mk h2
    clear h2 hold H11 
    have hx : w14.heap[w.heap.size]? = some (.cells #[.string nm, .int .i64 kd, .int .i64 mt, .int .i64 sc, .int .i64 cp, .int .i64 fl, .slice A ns.length c, .slice B mx.length e0] 25 (0, 0)) := H12.out.cells.2.1
    obtain ⟨x0, x1, x2, x3, x4, x5, x6, x7, f0, f1, f2, f3, f4, f5, f6, f7⟩ := blk8_ hx
    clear x0 x1 x2 x3 x4 x5 x7 f0 f1 f2 f3 f4 f5 f6 f7 hx
    have hp := H12.out.cells.2.2
    cases hcnt : okCount ns.length with
    | false =>
      have HCT := Lib.hid (count_c ns.length w14)
      rw [hcnt] at HCT
      have HF := Lib.hid (show faultsOf nm kd mt sc cp fl ns mx = headOf nm kd mt sc cp fl ++ opt false ⟨7, 0⟩ by unfold faultsOf; unfold okCount at hcnt; rw [if_neg (fun e => of_decide_eq_false hcnt (by omega))]; rfl)
      clear hcnt
      go_wp2_with fail
      refine (HCT.out).mono ?_
      rintro e w15 ⟨rfl, hb⟩
      have H13 := Aside0.mk (H12.out.below hb)
      clear hb H12 x6 hp HCT
      have hx : w15.heap[w.heap.size]? = some (.cells #[.string nm, .int .i64 kd, .int .i64 mt, .int .i64 sc, .int .i64 cp, .int .i64 fl, .slice A ns.length c, .slice B mx.length e0] 25 (0, 0)) := H13.out.cells.2.1
      obtain ⟨x0, x1, x2, x3, x4, x5, x6, x7, f0, f1, f2, f3, f4, f5, f6, f7⟩ := blk8_ hx
      clear x0 x1 x2 x3 x4 x5 x7 f0 f1 f2 f3 f4 f5 f6 f7 hx
      have hp := H13.out.cells.2.2
      go_wp2_with fail
      refine (note_st _ w 6 _ _ _ _ _ (by omega) H13.out).mono ?_
      rintro e w16 ⟨⟨u16, rfl⟩, h2, hold⟩
      have H14 := Aside0.mk h2
      clear h2 hold H13 
      have hp := H14.out.cells.2.2
      obtain ⟨v, hv, hS, hB⟩ := H14.out.looker
      clear H14
      have HO := Aside0.mk (And.intro (Kd.S_R hS) hB)
      clear hS hB
      go_wp2
      go_ret
      exact ⟨v, rfl, by rw [HF.out]; exact HO.out.1, HO.out.2⟩
    | true =>
      have HCT := Lib.hid (count_c ns.length w14)
      rw [hcnt] at HCT
      have hn : ns.length ≤ 400 := by unfold okCount at hcnt; have := of_decide_eq_true hcnt; omega
      have HF := Lib.hid (show faultsOf nm kd mt sc cp fl ns mx = headOf nm kd mt sc cp fl ++ opt (matrixB mt ns.length mx) ⟨8, 0⟩ ++ (List.range ns.length).flatMap (nodeOf kd mt ns) by unfold faultsOf; unfold okCount at hcnt; rw [if_pos (by have := of_decide_eq_true hcnt; omega)])
      clear hcnt
      go_wp2_with fail
      refine (HCT.out).mono ?_
      rintro e w15 ⟨rfl, hb⟩
      have H13 := Aside0.mk (H12.out.below hb)
      clear hb H12 x6 hp HCT
      have hp := H13.out.cells.2.2
      go_wp2_with fail
      refine (matrix_st _ w _ _ _ hn HM.out H13.out).mono ?_
      rintro e w16 ⟨rfl, hb⟩
      have H14 := Aside0.mk (H13.out.below hb)
      clear hb H13 hp
      go_wp2_with fail
      refine (note_st _ w 6 _ _ _ _ _ (by omega) H14.out).mono ?_
      rintro e w17 ⟨⟨u17, rfl⟩, h2, hold⟩
      have H15 := Aside0.mk h2
      clear h2 hold H14 
      have hx : w17.heap[w.heap.size]? = some (.cells #[.string nm, .int .i64 kd, .int .i64 mt, .int .i64 sc, .int .i64 cp, .int .i64 fl, .slice A ns.length c, .slice B mx.length e0] 25 (0, 0)) := H15.out.cells.2.1
      obtain ⟨x0, x1, x2, x3, x4, x5, x6, x7, f0, f1, f2, f3, f4, f5, f6, f7⟩ := blk8_ hx
      clear x0 x1 x2 x3 x4 x5 x7 f0 f1 f2 f3 f4 f5 f6 f7 hx
      have hp := H15.out.cells.2.2
      have H16 : Aside0 (St ⟨nm, kd, mt, sc, cp, fl, A, c, ns, B, e0, mx⟩ w (7 + 5 * 0) (headOf nm kd mt sc cp fl ++ opt (matrixB mt ns.length mx) ⟨8, 0⟩ ++ (List.range 0).flatMap (nodeOf kd mt ns)) w17) := ⟨by rw [List.range_zero, List.flatMap_nil, List.append_nil]; exact H15.out⟩
      clear H15
      generalize headOf nm kd mt sc cp fl ++ opt (matrixB mt ns.length mx) ⟨8, 0⟩ = base at *
      go_wp2_with fail
      go_loopw [72] (fun v wr => ∃ k : Nat, v = .int .i64 k ∧ k ≤ ns.length ∧ Aside0 (St ⟨nm, kd, mt, sc, cp, fl, A, c, ns, B, e0, mx⟩ w (7 + 5 * k) (base ++ (List.range k).flatMap (nodeOf kd mt ns)) wr)) (fun v wr => ns.length - (intOf v).toNat)
      case atStart => exact ⟨0, rfl, Nat.zero_le _, H16⟩
      case round =>
        obtain ⟨k, rfl, hk, HK⟩ := hrel
        by_cases hlt : k < ns.length
        · obtain ⟨ad, e, c0, c1, c2, c3, c4, c5, c6⟩ := at_T46 (Kd.C_below HR.out HK.out.cells.1) k (by omega) (by omega)
          cases e
          rw [Int.toNat_natCast] at c0 c1 c2 c3 c4 c5 c6
          have hp := HK.out.cells.2.2
          generalize hd : rd_T46 ns (k : Int) = d at *
          have HD := Lib.hid hd
          clear hd hk
          have hO := heap_alloc_new (wr.alloc (.cells #[.int .i64 d.f0, .int .i64 d.f1, .int .i64 d.f2, .int .i64 d.f3, .int .i64 d.f4, .int .i64 d.f5, .int .i64 d.f6] 46)) (.cells #[.pointer (some ⟨w.heap.size + 1, 0, none⟩), .int .i64 d.f0, .int .i64 d.f1, .int .i64 d.f2, .int .i64 d.f3, .int .i64 d.f4, .int .i64 d.f5, .int .i64 d.f6, .int .i64 (k : Int)] 57)
          rw [World.size_alloc] at hO
          have HO0 := Aside0.mk hO
          clear hO
          have HL0 := Aside0.mk ((HK.out.alloc (.cells #[.int .i64 d.f0, .int .i64 d.f1, .int .i64 d.f2, .int .i64 d.f3, .int .i64 d.f4, .int .i64 d.f5, .int .i64 d.f6] 46)).alloc (.cells #[.pointer (some ⟨w.heap.size + 1, 0, none⟩), .int .i64 d.f0, .int .i64 d.f1, .int .i64 d.f2, .int .i64 d.f3, .int .i64 d.f4, .int .i64 d.f5, .int .i64 d.f6, .int .i64 (k : Int)] 57))
          have hlt2 : w.heap.size + 1 + 1 < wr.heap.size := HK.out.lt
          go_wp2_with fail
          clear c0 c1 c2 c3 c4 c5 c6 HK
          refine (coord_st _ w _ _ d k _ HL0.out).mono ?_
          rintro e w100 ⟨rfl, hb⟩
          have HL1 := Aside0.mk (HL0.out.below hb)
          have HO1 := Aside0.mk (blk_below HO0.out hb)
          clear hb HL0 HO0
          go_wp2_with fail
          refine (note_st _ w _ _ _ _ _ _ (by omega) HL1.out).mono ?_
          rintro e w101 ⟨⟨u101, rfl⟩, h2, hold⟩
          have HL2 := Aside0.mk h2
          have HO2 := Aside0.mk (hold _ _ _ HO1.out (by decide) (by decide))
          clear h2 hold HL1 HO1
          have hp := HL2.out.cells.2.2
          obtain ⟨k0, k1, k2, k3, k4, k5, k6, k7, k8, g0, g1, g2, g3, g4, g5, g6, g7, g8⟩ := blk9_ HO2.out
          clear g0 g1 g2 g3 g4 g5 g6 g7 g8
          go_wp2_with fail
          clear k0 k1 k2 k3 k4 k5 k6 k7 k8 hp
          refine (demand_st _ w _ _ d k _ HL2.out).mono ?_
          rintro e w102 ⟨rfl, hb⟩
          have HL3 := Aside0.mk (HL2.out.below hb)
          have HO3 := Aside0.mk (blk_below HO2.out hb)
          clear hb HL2 HO2
          go_wp2_with fail
          refine (note_st _ w _ _ _ _ _ _ (by omega) HL3.out).mono ?_
          rintro e w103 ⟨⟨u103, rfl⟩, h2, hold⟩
          have HL4 := Aside0.mk h2
          have HO4 := Aside0.mk (hold _ _ _ HO3.out (by decide) (by decide))
          clear h2 hold HL3 HO3
          have hp := HL4.out.cells.2.2
          obtain ⟨k0, k1, k2, k3, k4, k5, k6, k7, k8, g0, g1, g2, g3, g4, g5, g6, g7, g8⟩ := blk9_ HO4.out
          clear g0 g1 g2 g3 g4 g5 g6 g7 g8
          go_wp2_with fail
          clear k0 k1 k2 k3 k4 k5 k6 k7 k8 hp
          refine (window_st _ w _ _ d k _ HL4.out).mono ?_
          rintro e w104 ⟨rfl, hb⟩
          have HL5 := Aside0.mk (HL4.out.below hb)
          have HO5 := Aside0.mk (blk_below HO4.out hb)
          clear hb HL4 HO4
          go_wp2_with fail
          refine (note_st _ w _ _ _ _ _ _ (by omega) HL5.out).mono ?_
          rintro e w105 ⟨⟨u105, rfl⟩, h2, hold⟩
          have HL6 := Aside0.mk h2
          have HO6 := Aside0.mk (hold _ _ _ HO5.out (by decide) (by decide))
          clear h2 hold HL5 HO5
          have hp := HL6.out.cells.2.2
          obtain ⟨k0, k1, k2, k3, k4, k5, k6, k7, k8, g0, g1, g2, g3, g4, g5, g6, g7, g8⟩ := blk9_ HO6.out
          clear g0 g1 g2 g3 g4 g5 g6 g7 g8
          go_wp2_with fail
          clear k0 k1 k2 k3 k4 k5 k6 k7 k8 hp
          refine (service_st _ w _ _ d k _ HL6.out).mono ?_
          rintro e w106 ⟨rfl, hb⟩
          have HL7 := Aside0.mk (HL6.out.below hb)
          have HO7 := Aside0.mk (blk_below HO6.out hb)
          clear hb HL6 HO6
          go_wp2_with fail
          refine (note_st _ w _ _ _ _ _ _ (by omega) HL7.out).mono ?_
          rintro e w107 ⟨⟨u107, rfl⟩, h2, hold⟩
          have HL8 := Aside0.mk h2
          have HO8 := Aside0.mk (hold _ _ _ HO7.out (by decide) (by decide))
          clear h2 hold HL7 HO7
          have hp := HL8.out.cells.2.2
          obtain ⟨k0, k1, k2, k3, k4, k5, k6, k7, k8, g0, g1, g2, g3, g4, g5, g6, g7, g8⟩ := blk9_ HO8.out
          clear g0 g1 g2 g3 g4 g5 g6 g7 g8
          go_wp2_with fail
          clear k0 k1 k2 k3 k4 k5 k6 k7 k8 hp
          refine (mate_st _ w _ _ d k _ (by show ns.length ≤ 65536; omega) HR.out HL8.out).mono ?_
          rintro e w108 ⟨rfl, hb⟩
          have HL9 := Aside0.mk (HL8.out.below hb)
          have HO9 := Aside0.mk (blk_below HO8.out hb)
          clear hb HL8 HO8
          go_wp2_with fail
          refine (note_st _ w _ _ _ _ _ _ (by omega) HL9.out).mono ?_
          rintro e w109 ⟨⟨u109, rfl⟩, h2, hold⟩
          have HL10 := Aside0.mk h2
          have HO10 := Aside0.mk (hold _ _ _ HO9.out (by decide) (by decide))
          clear h2 hold HL9 HO9
          go_wp2
          go_roundw
          case rel => exact ⟨k + 1, by go_num, by omega, ⟨by
            have h := HL10.out
            rw [show 7 + 5 * k + 1 + 1 + 1 + 1 + 1 = 7 + 5 * (k + 1) by omega] at h
            rw [List.range_succ, List.flatMap_append, List.flatMap_cons, List.flatMap_nil, List.append_nil, ← List.append_assoc]
            have hN : nodeOf kd mt ns k = opt (coordB mt d) ⟨9, k⟩ ++ opt (demandB kd k d) ⟨10, k⟩ ++ opt (windowB kd d) ⟨11, k⟩ ++ opt (serviceB kd d) ⟨12, k⟩ ++ opt (mateB kd ns k d) ⟨13, k⟩ := by unfold nodeOf; rw [HD.out]
            rw [hN]
            simpa only [List.append_assoc] using h⟩⟩
          case measure => simp [intOf]; omega
        · have hp := HK.out.cells.2.2
          obtain ⟨v, hv, hS, hB⟩ := HK.out.looker
          have HO := Aside0.mk (show faultsOf nm kd mt sc cp fl ns mx = base ++ (List.range k).flatMap (nodeOf kd mt ns) by rw [HF.out, show ns.length = k by omega])
          have HE := Aside0.mk (And.intro (Kd.S_R hS) hB)
          clear hS hB HK H16 x6
          go_wp2
          go_ret
          exact ⟨v, rfl, by rw [HO.out]; exact HE.out.1, HE.out.2⟩
end CanonWalk
open CanonWalk P Go.Proofs.YtfnnngoandpgkaaW.PrintWords
/-- What canon.Check computes. -/
def canon_Check.f (nm : ByteArray) (kd mt sc cp fl : Int) (ns : List CanonWalk.Node) (mx : List Int) : Option (List CanonWalk.Fault) := if nm.size ≤ 9223372036854775807 then some (faultsOf nm kd mt sc cp fl ns mx) else none
theorem canon_Check.calls (nm : ByteArray) (kd mt sc cp fl : Int) (A : Option Addr) (c : Nat) (ns : List CanonWalk.Node) (B : Option Addr) (e0 : Nat) (mx : List Int) (r : List CanonWalk.Fault) (w : World)
    (hr : Kd.C k46 w A ns.length ns) (_ : ns.length ≤ c) (hm : Kd.C (Kd.int .i64) w B mx.length mx) (_ : mx.length ≤ e0) (h : canon_Check.f nm kd mt sc cp fl ns mx = some r) :
    Calls Try.prog 11 #[.agg #[.string nm, .int .i64 kd, .int .i64 mt, .int .i64 sc, .int .i64 cp, .int .i64 fl, .slice A ns.length c, .slice B mx.length e0]] w fun e w' => ∃ v, e = .returned v ∧ Kd.R k43 43 w' w.heap.size (fun _ => True) v r ∧ Below w.heap.size w w' := by
  unfold canon_Check.f at h
  split at h
  · rename_i hs
    have h := Option.some.inj h
    subst h
    exact check_c nm kd mt sc cp fl A c ns B e0 mx w hs hr hm
  · cases h
attribute [irreducible] canon_Check.f
end Go.Proofs.Ytfnnngoandpgkaa
