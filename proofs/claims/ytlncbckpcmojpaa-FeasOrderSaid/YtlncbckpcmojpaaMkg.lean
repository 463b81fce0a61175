/- Texts of this session in one: feas: looks (a row of method values), and the library's Reverse of it.; feas: what a look tells of a route.; feas.Check, feas.Feasible.; feas: the contracts of Check, Feasible, Loads, Times, as printed laws call them. -/
import Derived.Test.YtlncbckpcmojpaaMkf
import Derived.Test.YtlncbckpcmojpaaMke
set_option linter.unusedVariables false
set_option linter.unusedSimpArgs false
namespace Go.Proofs.Ytlncbckpcmojpaa
open Go.RowKit Go.Proofs.YtlncbckpcmojpaaW.PrintWords Go.Proofs.YtlncbckpcmojpaaW.PrintLast Go.Proofs.YtlncbckpcmojpaaW.PrintMore
namespace FeasWalk
open P
/-- A method of the looker, as a value. -/
def fnV (G : Nat) (n : Nat) : Value := .func (.func n) #[.pointer (some ⟨G, 0, none⟩)] #[]
def fnK (G : Nat) : Kd Nat := Kd.scalar (fnV G) (fun _ => rfl)
theorem info_fn : (Try.prog.info? 67).map (fun i => (i.zero, i.size, i.bytes)) = some (some .nilFunc, 1, 8) := by kernel_rfl
/-- What the looks are. -/
def looksOf (kd : Int) : List Nat := if kd = 4 then [54, 53, 52] else if kd = 3 then [54, 53] else if kd = 2 then [54] else []
/- REVERSE -/
@[local go_sem] theorem run_store_func (Pr : Program) (w : World) (a : Addr) (m : Mode) (f : Fn) (xs ys : Array Value) : (store a (.func f xs ys) m).run Pr w = stored Pr w a (.func f xs ys) m := run_store Pr w a _ m rfl
theorem rev_step {ys : List Nat} (h3 : ys.length ≤ 3) (h2 : 2 ≤ ys.length) : (ys.set 0 (rdOf 0 ys ((ys.length : Int) - 1))).set (ys.length - 1) (rdOf 0 ys 0) = ys.reverse := by
  match ys, h3, h2 with
  | [a, b], _, _ => rfl
  | [a, b, c], _, _ => rfl
set_option maxHeartbeats 4000000 in
set_option maxRecDepth 100000 in
theorem rev_c (G base : Nat) (w0 W : World) (v : Value) (ys : List Nat) (h3 : ys.length ≤ 3) (hR : Kd.R (fnK G) 67 W base (fun _ => True) v ys) (hB : Below base w0 W) :
    Calls Try.prog 55 #[v] W fun e w' => (∃ u, e = .returned u) ∧ Kd.R (fnK G) 67 w' base (fun _ => True) v ys.reverse ∧ Below base w0 w' := by
  obtain ⟨A, c, rfl⟩ := Kd.R_slice hR
  obtain ⟨n, hn⟩ : ∃ n, ys.length = n := ⟨_, rfl⟩
  have H0 := Aside0.mk (show Kd.R (fnK G) 67 W base (fun _ => True) (.slice A n c) (if (0 : Nat) = 0 then ys else ys.reverse) ∧ Below base w0 W from ⟨by rw [if_pos rfl, ← hn]; exact hR, hB⟩)
  rw [hn] at h3 ⊢
  have HN := Lib.hid hn
  clear hR hB hn
  obtain ⟨m, hm⟩ : ∃ m : Int, wrap64 ((n : Int) - 1) = m := ⟨_, rfl⟩
  have hmw := wrap_i _ _ hm
  have hm2 : m = (n : Int) - 1 := by unfold wrap64 at hm; omega
  clear hm
  go_enter Try.func55, Try.ntmps55
  go_wp2
  go_loopw [2, 3] (fun v2 v3 wr => ∃ (k : Nat) (y : Int), v2 = .int .i64 k ∧ v3 = .int .i64 y ∧ k ≤ 1 ∧ Aside0 (y = m - k) ∧ Aside0 (Kd.R (fnK G) 67 wr base (fun _ => True) (.slice A n c) (if k = 0 then ys else ys.reverse) ∧ Below base w0 wr)) (fun v2 v3 wr => 3 - (intOf v2).toNat)
  case atStart => exact ⟨0, (n : Int) - 1, rfl, rfl, by omega, ⟨by rw [hm2]; simp⟩, H0⟩
  case round =>
    obtain ⟨k, y, rfl, rfl, hk, hy, HI⟩ := hrel
    clear H0
    by_cases hlt : (k : Int) < y
    · have bt : decide ((k : Int) < y) = true := decide_eq_true hlt
      have hy := hy.out
      have hk0 : k = 0 := by omega
      have hn2 : 2 ≤ n := by omega
      have hR := HI.out.1
      rw [if_pos hk0] at hR
      have hn := HN.out
      obtain ⟨g, cp, hv, hg, hgl, -⟩ := Kd.R_form hR (by omega)
      injection hv with e1 e2 e3
      subst e1
      have HREV := Lib.hid (rev_step (ys := ys) (by omega) (by omega))
      obtain ⟨j, hj⟩ : ∃ j : Nat, y = (j : Int) := ⟨y.toNat, by omega⟩
      have hjn : j = n - 1 := by omega
      rw [hn, show ((n : Int) - 1) = (j : Int) by omega, show n - 1 = j by omega, show (0 : Int) = ((k : Nat) : Int) by omega] at HREV
      subst hj
      obtain ⟨r1, r2⟩ := Kd.R_celln 0 hR (k : Int) (by omega) (by omega)
      obtain ⟨r3, r4⟩ := Kd.R_celln 0 hR (j : Int) (by omega) (by omega)
      rw [Int.toNat_natCast] at r1 r2 r3 r4
      generalize rdOf 0 ys ((k : Nat) : Int) = a at *
      generalize rdOf 0 ys ((j : Nat) : Int) = b at *
      have hR1 := Kd.R_putn hR (k : Int) b
      obtain ⟨r5, r6⟩ := Kd.R_celln 0 hR1 (j : Int) (by omega) (by omega)
      have hR2 := Kd.R_putn hR1 (j : Int) a
      simp only [Int.toNat_natCast] at r5 r6 hR1 hR2
      unfold fnV at r1 r3 r5 r6
      have HP1 := Lib.hid (And.intro r1 r2)
      have HP2 := Lib.hid (And.intro r5 r6)
      have HQ1 := Lib.hid (show wr.drew.cell? ⟨g, k, none⟩ = some (.func (.func a) #[.pointer (some ⟨G, 0, none⟩)] #[]) ∧ wr.drew.frozen? ⟨g, k, none⟩ = false from And.intro r1 r2)
      have HQ2 := Lib.hid (show (wr.drew.setCell ⟨g, k, none⟩ (.func (.func b) #[.pointer (some ⟨G, 0, none⟩)] #[])).cell? ⟨g, j, none⟩ = some (.func (.func (rdOf 0 (ys.set k b) ((j : Nat) : Int))) #[.pointer (some ⟨G, 0, none⟩)] #[]) ∧ (wr.drew.setCell ⟨g, k, none⟩ (.func (.func b) #[.pointer (some ⟨G, 0, none⟩)] #[])).frozen? ⟨g, j, none⟩ = false from And.intro r5 r6)
      generalize rdOf 0 (ys.set k b) ((j : Nat) : Int) = z at *
      have HS := Lib.hid (And.intro r1 r3)
      have HR2 := Lib.hid hR2
      have HB2 := Lib.hid ((HI.out.2.setCell (p := ⟨g, k, none⟩) hg (fnV G b)).setCell (p := ⟨g, j, none⟩) hg (fnV G a))
      have p1 : (0 : Int) ≤ (k : Int) ∧ (k : Int) < (n : Int) := by omega
      have p2 : (0 : Int) ≤ (j : Int) ∧ (j : Int) < (n : Int) := by omega
      obtain ⟨y2, hy2⟩ : ∃ y2, wrap64 ((j : Int) - 1) = y2 := ⟨_, rfl⟩
      have hy2w := wrap_i _ _ hy2
      have HY2 := Lib.hid (show y2 = (j : Int) - 1 by unfold wrap64 at hy2; omega)
      have HK0 := Lib.hid hk0
      have HM := Lib.hid (And.intro hm2 hy)
      have hk1 : 1 ≤ j := by omega
      have bt2 : k < j := by omega
      clear HI hR r1 r2 r3 r4 r5 r6 hR1 hR2 hy2 hy hn e2 e3 hk0 hjn hm2 hn2 hk hgl hlt hk1
      go_wp2_with fail
      -- REGION
      refine start_ (n := 16) (S := fun w' => w'.cell? ⟨g, k, none⟩ = some (.func (.func a) #[.pointer (some ⟨G, 0, none⟩)] #[]) ∧ w'.cell? ⟨g, j, none⟩ = some (.func (.func b) #[.pointer (some ⟨G, 0, none⟩)] #[])) (ds := [13, 15]) #[false, false, false, false, false, false, false, false, false, false, false, false, false, false, false, false] (by kernel_rfl) rfl rfl (HS.out) (fun hHeld => ?_)
      refine pure_ (i := 0) (N := some 14) (v := ?_) (a' := ?_) #[true, false, false, false, false, false, false, false, false, false, false, false, false, false, false, false] rfl rfl (by kernel_rfl) (fun _ _ _ h => h) (Or.inl ⟨by rfl, ?_⟩) ?_ ?_
      rotate_left
      · intro w'
        go_simp
        with_reducible rfl
      rotate_left
      · simp only [Act.put, List.setIfInBounds_toArray, List.set_cons_zero, List.set_cons_succ, i64_w, i32_w]
        rfl
      refine pure_ (i := 1) (N := some 15) (v := ?_) (a' := ?_) #[true, true, false, false, false, false, false, false, false, false, false, false, false, false, false, false] rfl rfl (by kernel_rfl) (fun _ _ _ h => h) (Or.inl ⟨by rfl, ?_⟩) ?_ ?_
      rotate_left
      · intro w'
        go_simp
        with_reducible rfl
      rotate_left
      · simp only [Act.put, List.setIfInBounds_toArray, List.set_cons_zero, List.set_cons_succ, i64_w, i32_w]
        rfl
      refine pure_ (i := 2) (N := some 16) (v := ?_) (a' := ?_) #[true, true, true, false, false, false, false, false, false, false, false, false, false, false, false, false] rfl rfl (by kernel_rfl) (fun _ _ _ h => h) (Or.inl ⟨by rfl, ?_⟩) ?_ ?_
      rotate_left
      · intro w'
        go_simp
        with_reducible rfl
      rotate_left
      · simp only [Act.put, List.setIfInBounds_toArray, List.set_cons_zero, List.set_cons_succ, i64_w, i32_w]
        rfl
      refine pure_ (i := 3) (N := some 17) (v := ?_) (a' := ?_) #[true, true, true, true, false, false, false, false, false, false, false, false, false, false, false, false] rfl rfl (by kernel_rfl) (fun _ _ _ h => h) (Or.inl ⟨by rfl, ?_⟩) ?_ ?_
      rotate_left
      · intro w'
        go_simp
        with_reducible rfl
      rotate_left
      · simp only [Act.put, List.setIfInBounds_toArray, List.set_cons_zero, List.set_cons_succ, i64_w, i32_w]
        rfl
      refine pure_ (i := 4) (N := some 18) (v := ?_) (a' := ?_) #[true, true, true, true, true, false, false, false, false, false, false, false, false, false, false, false] rfl rfl (by kernel_rfl) (fun _ _ _ h => h) (Or.inl ⟨by rfl, ?_⟩) ?_ ?_
      rotate_left
      · intro w'
        go_simp
        with_reducible rfl
      rotate_left
      · simp only [Act.put, List.setIfInBounds_toArray, List.set_cons_zero, List.set_cons_succ, i64_w, i32_w]
        rfl
      refine pure_ (i := 5) (N := some 19) (v := ?_) (a' := ?_) #[true, true, true, true, true, true, false, false, false, false, false, false, false, false, false, false] rfl rfl (by kernel_rfl) (fun _ _ _ h => h) (Or.inl ⟨by rfl, ?_⟩) ?_ ?_
      rotate_left
      · intro w'
        go_simp
        with_reducible rfl
      rotate_left
      · simp only [Act.put, List.setIfInBounds_toArray, List.set_cons_zero, List.set_cons_succ, i64_w, i32_w]
        rfl
      refine pure_ (i := 6) (N := some 20) (v := ?_) (a' := ?_) #[true, true, true, true, true, true, true, false, false, false, false, false, false, false, false, false] rfl rfl (by kernel_rfl) (fun _ _ _ h => h) (Or.inl ⟨by rfl, ?_⟩) ?_ ?_
      rotate_left
      · intro w'
        go_simp
        with_reducible rfl
      rotate_left
      · simp only [Act.put, List.setIfInBounds_toArray, List.set_cons_zero, List.set_cons_succ, i64_w, i32_w]
        rfl
      refine pure_ (i := 8) (N := some 22) (v := ?_) (a' := ?_) #[true, true, true, true, true, true, true, false, true, false, false, false, false, false, false, false] rfl rfl (by kernel_rfl) (fun _ _ _ h => h) (Or.inl ⟨by rfl, ?_⟩) ?_ ?_
      rotate_left
      · intro w'
        go_simp
        with_reducible rfl
      rotate_left
      · simp only [Act.put, List.setIfInBounds_toArray, List.set_cons_zero, List.set_cons_succ, i64_w, i32_w]
        rfl
      refine pure_ (i := 9) (N := some 23) (v := ?_) (a' := ?_) #[true, true, true, true, true, true, true, false, true, true, false, false, false, false, false, false] rfl rfl (by kernel_rfl) (fun _ _ _ h => h) (Or.inl ⟨by rfl, ?_⟩) ?_ ?_
      rotate_left
      · intro w'
        go_simp
        with_reducible rfl
      rotate_left
      · simp only [Act.put, List.setIfInBounds_toArray, List.set_cons_zero, List.set_cons_succ, i64_w, i32_w]
        rfl
      refine pure_ (i := 10) (N := some 24) (v := ?_) (a' := ?_) #[true, true, true, true, true, true, true, false, true, true, true, false, false, false, false, false] rfl rfl (by kernel_rfl) (fun _ _ _ h => h) (Or.inl ⟨by rfl, ?_⟩) ?_ ?_
      rotate_left
      · intro w'
        go_simp
        with_reducible rfl
      rotate_left
      · simp only [Act.put, List.setIfInBounds_toArray, List.set_cons_zero, List.set_cons_succ, i64_w, i32_w]
        rfl
      refine take_ (i := 7) (N := some 21) (v := ?_) (a' := ?_) #[true, true, true, true, true, true, true, true, true, true, true, false, false, false, false, false] rfl rfl (by kernel_rfl) (fun _ _ _ h => h) (Or.inl ⟨by rfl, ?_⟩) hHeld ?_ ?_
      rotate_left
      · rintro w' ⟨s0, s1⟩
        go_simp
        with_reducible rfl
      rotate_left
      · simp only [Act.put, List.setIfInBounds_toArray, List.set_cons_zero, List.set_cons_succ, i64_w, i32_w]
        rfl
      refine take_ (i := 11) (N := some 25) (v := ?_) (a' := ?_) #[true, true, true, true, true, true, true, true, true, true, true, true, false, false, false, false] rfl rfl (by kernel_rfl) (fun _ _ _ h => h) (Or.inl ⟨by rfl, ?_⟩) hHeld ?_ ?_
      rotate_left
      · rintro w' ⟨s0, s1⟩
        go_simp
        with_reducible rfl
      rotate_left
      · simp only [Act.put, List.setIfInBounds_toArray, List.set_cons_zero, List.set_cons_succ, i64_w, i32_w]
        rfl
      refine pure_ (i := 12) (N := some 26) (v := ?_) (a' := ?_) #[true, true, true, true, true, true, true, true, true, true, true, true, true, false, false, false] rfl rfl (by kernel_rfl) (fun _ _ _ h => h) (Or.inl ⟨by rfl, ?_⟩) ?_ ?_
      rotate_left
      · intro w'
        go_simp
        with_reducible rfl
      rotate_left
      · simp only [Act.put, List.setIfInBounds_toArray, List.set_cons_zero, List.set_cons_succ, i64_w, i32_w]
        rfl
      refine last_ (i := 13) (N := none) #[true, true, true, true, true, true, true, true, true, true, true, true, true, true, false, false] rfl rfl (by kernel_rfl) (by decide) (fun K hK => ?_)
      obtain ⟨q1, q2⟩ := HQ1.out
      obtain ⟨o1, o2⟩ := HP1.out
      refine skip_ (w1 := ?_) (by rfl) rfl ?_ ?_
      rotate_left
      · go_simp
        rfl
      clear q1 q2 o1 o2
      refine hK.out _ _ ?_
      clear hK K
      refine pure_ (i := 14) (N := some 27) (v := ?_) (a' := ?_) #[true, true, true, true, true, true, true, true, true, true, true, true, true, true, true, false] rfl rfl (by kernel_rfl) (fun _ _ _ h => h) (Or.inl ⟨by rfl, ?_⟩) ?_ ?_
      rotate_left
      · intro w'
        go_simp
        with_reducible rfl
      rotate_left
      · simp only [Act.put, List.setIfInBounds_toArray, List.set_cons_zero, List.set_cons_succ, i64_w, i32_w]
        rfl
      refine last_ (i := 15) (N := none) #[true, true, true, true, true, true, true, true, true, true, true, true, true, true, true, true] rfl rfl (by kernel_rfl) (by decide) (fun K hK => ?_)
      obtain ⟨q3, q4⟩ := HQ2.out
      obtain ⟨o3, o4⟩ := HP2.out
      refine skip_ (w1 := ?_) (by rfl) rfl ?_ ?_
      rotate_left
      · go_simp
        rfl
      clear q3 q4 o3 o4
      refine hK.out _ _ ?_
      clear hK K
      refine done_ (by kernel_rfl) ?_
      -- BEHIND
      clear HS HQ1 HQ2 HP1 HP2 bt bt2
      go_wp2
      go_roundw
      case rel =>
        have h1 := HM.out.1
        have h2 := HM.out.2
        have h3 := HK0.out
        have h4 := HY2.out
        refine ⟨k + 1, y2, by go_num, rfl, by omega, ⟨by omega⟩, ⟨?_, Below.drew HB2.out⟩⟩
        rw [if_neg (by omega), show ys.reverse = (ys.set k b).set j a by rw [← HREV.out, h3]]
        exact Kd.R_drew HR2.out
      case measure => have h3 := HK0.out; simp [intOf]; omega
    · have bt : decide ((k : Int) < y) = false := decide_eq_false hlt
      have HE := Lib.hid (show Kd.R (fnK G) 67 wr base (fun _ => True) (.slice A n c) ys.reverse ∧ Below base w0 wr from ⟨by
        have h := HI.out.1
        by_cases h0 : k = 0
        · rw [if_pos h0] at h
          have hn := HN.out
          have hy := hy.out
          have h1 : ys.reverse = ys := by
            match ys, hn with
            | [], _ => rfl
            | [a], _ => rfl
            | a :: b :: l, hn => simp at hn; omega
          rw [h1]; exact h
        · rw [if_neg h0] at h; exact h, HI.out.2⟩)
      clear HI hlt hy
      go_wp2
      go_end0
      exact ⟨⟨_, rfl⟩, HE.out⟩
/- LOOKS -/
set_option maxHeartbeats 4000000 in
set_option maxRecDepth 100000 in
theorem looks_c (x : Look) (G : Nat) (v : Value) (W : World) (hK : x.at W G v) :
    Calls Try.prog 32 #[.pointer (some ⟨G, 0, none⟩)] W fun e w' => ∃ v', e = .returned v' ∧ Kd.R (fnK G) 67 w' W.heap.size (fun _ => True) v' (looksOf x.kd) ∧ Below W.heap.size W w' := by
  unfold Look.at at hK
  obtain ⟨k0, k1, k2, k3, k4, k5, k6, k7, k8, f0, f1, f2, f3, f4, f5, f6, f7, f8⟩ := blk9_ hK
  clear k0 k2 k3 k4 k5 k6 k7 k8 f0 f1 f2 f3 f4 f5 f6 f7 f8 hK
  have HL := Lib.hid (show looksOf x.kd = if x.kd = 4 then [54, 53, 52] else if x.kd = 3 then [54, 53] else if x.kd = 2 then [54] else [] from rfl)
  generalize x.kd = kd at *
  have HR0 := Lib.hid (Kd.R_nil (fnK G) 67 W W.heap.size (fun _ => True))
  by_cases e4 : kd = 4
  · have b4 : (kd == 4) = true := beq_iff_eq.2 e4
    rw [if_pos e4] at HL
    clear e4
    go_enter Try.func32, Try.ntmps32
    go_wp2_with (first | ((with_reducible refine gate_builtin (b := .append) (xs := #[.tmp 14, .tmp 17]) rfl ?_); at_builtin; refine Kd.R_append (fnK G) (w0 := W) W.heap.size rfl (.tmp 14) (.tmp 17) 65 67 .nilFunc 8 rfl Try.underlying65 info_fn rfl Nat.one_pos (by omega) (.slice none 0 0) ([] : List Nat) 52 [.func (.func 52) #[.pointer (some ⟨G, 0, none⟩)] #[]] (fun _ => True) (fun _ => False) rfl rfl ?aP (fun _ hk => hk.elim) ?aF ?aO ?aB ?aS ?aL ?_; (case aP => exact rfl); (case aF => exact (fun _ _ => trivial)); (case aO => exact HR0.out); (case aB => exact (Below.refl _ _)); (case aS => exact (Nat.le_refl _)); (case aL => simp); intro v1 w1 ho hb hg hat; have ho' : Kd.R (fnK G) 67 w1 W.heap.size (fun _ => True) v1 ([52] : List Nat) := ho; obtain ⟨A1, c1, e1⟩ := Kd.R_slice ho'; change v1 = .slice A1 1 c1 at e1; subst e1; have HO1 := Lib.hid ho'; have HB1 := Lib.hid hb; clear ho ho' hb hg hat) | ((with_reducible refine gate_builtin (b := .append) (xs := #[.tmp 19, .tmp 22]) rfl ?_); at_builtin; refine Kd.R_append (fnK G) (w0 := W) W.heap.size rfl (.tmp 19) (.tmp 22) 65 67 .nilFunc 8 rfl Try.underlying65 info_fn rfl Nat.one_pos (by omega) (.slice A1 1 c1) ([52] : List Nat) 53 [.func (.func 53) #[.pointer (some ⟨G, 0, none⟩)] #[]] (fun _ => True) (fun _ => False) rfl rfl ?aP (fun _ hk => hk.elim) ?aF ?aO ?aB ?aS ?aL ?_; (case aP => exact rfl); (case aF => exact (fun _ _ => trivial)); (case aO => exact HO1.out); (case aB => exact HB1.out); (case aS => exact (HB1.out.size)); (case aL => simp); intro v2 w2 ho hb hg hat; have ho' : Kd.R (fnK G) 67 w2 W.heap.size (fun _ => True) v2 ([52, 53] : List Nat) := ho; obtain ⟨A2, c2, e2⟩ := Kd.R_slice ho'; change v2 = .slice A2 2 c2 at e2; subst e2; have HO2 := Lib.hid ho'; have HB2 := Lib.hid hb; clear ho ho' hb hg hat) | ((with_reducible refine gate_builtin (b := .append) (xs := #[.tmp 24, .tmp 27]) rfl ?_); at_builtin; refine Kd.R_append (fnK G) (w0 := W) W.heap.size rfl (.tmp 24) (.tmp 27) 65 67 .nilFunc 8 rfl Try.underlying65 info_fn rfl Nat.one_pos (by omega) (.slice A2 2 c2) ([52, 53] : List Nat) 54 [.func (.func 54) #[.pointer (some ⟨G, 0, none⟩)] #[]] (fun _ => True) (fun _ => False) rfl rfl ?aP (fun _ hk => hk.elim) ?aF ?aO ?aB ?aS ?aL ?_; (case aP => exact rfl); (case aF => exact (fun _ _ => trivial)); (case aO => exact HO2.out); (case aB => exact HB2.out); (case aS => exact (HB2.out.size)); (case aL => simp); intro v3 w3 ho hb hg hat; have ho' : Kd.R (fnK G) 67 w3 W.heap.size (fun _ => True) v3 ([52, 53, 54] : List Nat) := ho; obtain ⟨A3, c3, e3⟩ := Kd.R_slice ho'; change v3 = .slice A3 3 c3 at e3; subst e3; have HO3 := Lib.hid ho'; have HB3 := Lib.hid hb; clear ho ho' hb hg hat))
    have HRV := Lib.hid (rev_c G W.heap.size W _ (.slice A3 3 c3) [52, 53, 54] (by simp) HO3.out HB3.out)
    clear HO1 HB1 HO2 HB2 HO3 HB3
    refine HRV.out.mono ?_
    rintro e wz ⟨⟨u, rfl⟩, hr, hb⟩
    have HE := Lib.hid (And.intro hr hb)
    clear hr hb HRV
    go_wp2
    go_ret
    exact ⟨_, rfl, by rw [HL.out]; exact HE.out.1, HE.out.2⟩
  · have b4 : (kd == 4) = false := beq_eq_false_iff_ne.2 e4
    rw [if_neg e4] at HL
    by_cases e3 : kd = 3
    · have b3 : (kd == 3) = true := beq_iff_eq.2 e3
      rw [if_pos e3] at HL
      clear e3 e4
      go_enter Try.func32, Try.ntmps32
      go_wp2_with (first | ((with_reducible refine gate_builtin (b := .append) (xs := #[.tmp 19, .tmp 22]) rfl ?_); at_builtin; refine Kd.R_append (fnK G) (w0 := W) W.heap.size rfl (.tmp 19) (.tmp 22) 65 67 .nilFunc 8 rfl Try.underlying65 info_fn rfl Nat.one_pos (by omega) (.slice none 0 0) ([] : List Nat) 53 [.func (.func 53) #[.pointer (some ⟨G, 0, none⟩)] #[]] (fun _ => True) (fun _ => False) rfl rfl ?aP (fun _ hk => hk.elim) ?aF ?aO ?aB ?aS ?aL ?_; (case aP => exact rfl); (case aF => exact (fun _ _ => trivial)); (case aO => exact HR0.out); (case aB => exact (Below.refl _ _)); (case aS => exact (Nat.le_refl _)); (case aL => simp); intro v1 w1 ho hb hg hat; have ho' : Kd.R (fnK G) 67 w1 W.heap.size (fun _ => True) v1 ([53] : List Nat) := ho; obtain ⟨A1, c1, e1⟩ := Kd.R_slice ho'; change v1 = .slice A1 1 c1 at e1; subst e1; have HO1 := Lib.hid ho'; have HB1 := Lib.hid hb; clear ho ho' hb hg hat) | ((with_reducible refine gate_builtin (b := .append) (xs := #[.tmp 24, .tmp 27]) rfl ?_); at_builtin; refine Kd.R_append (fnK G) (w0 := W) W.heap.size rfl (.tmp 24) (.tmp 27) 65 67 .nilFunc 8 rfl Try.underlying65 info_fn rfl Nat.one_pos (by omega) (.slice A1 1 c1) ([53] : List Nat) 54 [.func (.func 54) #[.pointer (some ⟨G, 0, none⟩)] #[]] (fun _ => True) (fun _ => False) rfl rfl ?aP (fun _ hk => hk.elim) ?aF ?aO ?aB ?aS ?aL ?_; (case aP => exact rfl); (case aF => exact (fun _ _ => trivial)); (case aO => exact HO1.out); (case aB => exact HB1.out); (case aS => exact (HB1.out.size)); (case aL => simp); intro v2 w2 ho hb hg hat; have ho' : Kd.R (fnK G) 67 w2 W.heap.size (fun _ => True) v2 ([53, 54] : List Nat) := ho; obtain ⟨A2, c2, e2⟩ := Kd.R_slice ho'; change v2 = .slice A2 2 c2 at e2; subst e2; have HO2 := Lib.hid ho'; have HB2 := Lib.hid hb; clear ho ho' hb hg hat))
      have HRV := Lib.hid (rev_c G W.heap.size W _ (.slice A2 2 c2) [53, 54] (by simp) HO2.out HB2.out)
      clear HO1 HB1 HO2 HB2
      refine HRV.out.mono ?_
      rintro e wz ⟨⟨u, rfl⟩, hr, hb⟩
      have HE := Lib.hid (And.intro hr hb)
      clear hr hb HRV
      go_wp2
      go_ret
      exact ⟨_, rfl, by rw [HL.out]; exact HE.out.1, HE.out.2⟩
    · have b3 : (kd == 3) = false := beq_eq_false_iff_ne.2 e3
      rw [if_neg e3] at HL
      by_cases e2 : kd = 2
      · have b2 : (kd == 2) = true := beq_iff_eq.2 e2
        rw [if_pos e2] at HL
        clear e2 e3 e4
        go_enter Try.func32, Try.ntmps32
        go_wp2_with (first | ((with_reducible refine gate_builtin (b := .append) (xs := #[.tmp 24, .tmp 27]) rfl ?_); at_builtin; refine Kd.R_append (fnK G) (w0 := W) W.heap.size rfl (.tmp 24) (.tmp 27) 65 67 .nilFunc 8 rfl Try.underlying65 info_fn rfl Nat.one_pos (by omega) (.slice none 0 0) ([] : List Nat) 54 [.func (.func 54) #[.pointer (some ⟨G, 0, none⟩)] #[]] (fun _ => True) (fun _ => False) rfl rfl ?aP (fun _ hk => hk.elim) ?aF ?aO ?aB ?aS ?aL ?_; (case aP => exact rfl); (case aF => exact (fun _ _ => trivial)); (case aO => exact HR0.out); (case aB => exact (Below.refl _ _)); (case aS => exact (Nat.le_refl _)); (case aL => simp); intro v1 w1 ho hb hg hat; have ho' : Kd.R (fnK G) 67 w1 W.heap.size (fun _ => True) v1 ([54] : List Nat) := ho; obtain ⟨A1, c1, e1⟩ := Kd.R_slice ho'; change v1 = .slice A1 1 c1 at e1; subst e1; have HO1 := Lib.hid ho'; have HB1 := Lib.hid hb; clear ho ho' hb hg hat))
        have HRV := Lib.hid (rev_c G W.heap.size W _ (.slice A1 1 c1) [54] (by simp) HO1.out HB1.out)
        clear HO1 HB1
        refine HRV.out.mono ?_
        rintro e wz ⟨⟨u, rfl⟩, hr, hb⟩
        have HE := Lib.hid (And.intro hr hb)
        clear hr hb HRV
        go_wp2
        go_ret
        exact ⟨_, rfl, by rw [HL.out]; exact HE.out.1, HE.out.2⟩
      · have b2 : (kd == 2) = false := beq_eq_false_iff_ne.2 e2
        rw [if_neg e2] at HL
        clear e2 e3 e4
        go_enter Try.func32, Try.ntmps32
        have HRV := Lib.hid (rev_c G W.heap.size W W (.slice none 0 0) [] (by simp) HR0.out (Below.refl _ _))
        go_wp2_with fail
        refine HRV.out.mono ?_
        rintro e wz ⟨⟨u, rfl⟩, hr, hb⟩
        have HE := Lib.hid (And.intro hr hb)
        clear hr hb HRV
        go_wp2
        go_ret
        exact ⟨_, rfl, by rw [HL.out]; exact HE.out.1, HE.out.2⟩
end FeasWalk
end Go.Proofs.Ytlncbckpcmojpaa
set_option linter.unusedVariables false
set_option linter.unusedSimpArgs false
namespace Go.Proofs.Ytlncbckpcmojpaa
open Go.RowKit Go.Proofs.YtlncbckpcmojpaaW.PrintWords Go.Proofs.YtlncbckpcmojpaaW.PrintLast Go.Proofs.YtlncbckpcmojpaaW.PrintMore
namespace FeasWalk
open P
/-- An instance that can be looked at. -/
structure Fit (x : Look) (w0 : World) : Prop where
  rows : x.rows w0
  few : x.ns.length ≤ 400
  some : 0 < x.ns.length
  leg : ∀ i j, i < x.ns.length → j < x.ns.length → ∃ r2, legOf x i j = .some (legP x i j, r2)
/-- What a look tells of a route. -/
def lookB (x : Look) (i : Int) (l : List Int) (n : Nat) : List Wrong :=
  if n = 54 then loadB x i l else if n = 53 then lateB x i l else pairAll x i l l.length
theorem lookB_le (x : Look) (i : Int) (l : List Int) (n : Nat) : (lookB x i l n).length ≤ l.length + 1 := by
  unfold lookB
  split
  · have := loadB_le x i l; omega
  · split
    · have := lateB_le x i l; omega
    · have := pairAll_le x i l l.length; omega
theorem looksOf_in {kd : Int} {n : Nat} (h : n ∈ looksOf kd) : n = 54 ∨ n = 53 ∨ n = 52 := by
  unfold looksOf at h
  split at h
  · simpa using h
  · split at h
    · simp at h; omega
    · split at h
      · simp at h; omega
      · simp at h
theorem looksOf_le (kd : Int) : (looksOf kd).length ≤ 3 := by
  unfold looksOf
  repeat' split
  all_goals simp
theorem look_c (x : Look) (w0 V : World) (G : Nat) (xs : List Wrong) (i : Int) (A : Option Addr) (cap : Nat) (l : List Int) (n : Nat) (W : World) (h : SR x w0 G V xs W) (hxs : xs.length ≤ 500000) (hx : Fit x w0) (hl : Kd.C (Kd.int .i64) w0 A l.length l) (hcap : l.length ≤ cap) (hll : l.length ≤ 300)
    (hin : ∀ s ∈ l, 0 ≤ s ∧ s < (x.ns.length : Int)) (hn : n ∈ looksOf x.kd) :
    Calls Try.prog n #[.pointer (.some ⟨G, 0, none⟩), .int .i64 i, .slice A l.length cap] W fun e w' => (∃ u, e = .returned u) ∧ SR x w0 G V (xs ++ lookB x i l n) w' := by
  have hf : x.ns.length ≤ 65536 := Nat.le_trans hx.few (by decide)
  unfold lookB
  rcases looksOf_in hn with rfl | rfl | rfl
  · rw [if_pos rfl]
    exact load_c x w0 V G xs i A cap l W h (by omega) hx.rows hf hl (by omega)
  · rw [if_neg (by decide), if_pos rfl]
    exact late_c x w0 V G xs i A cap l W h (by omega) hx.rows hf hx.some hl (by omega) hin hx.leg
  · rw [if_neg (by decide), if_neg (by decide)]
    exact pairs_c x w0 V G xs i A cap l W h hxs hx.rows hf hl hcap (by omega) hin
end FeasWalk
end Go.Proofs.Ytlncbckpcmojpaa
set_option linter.unusedVariables false
set_option linter.unusedSimpArgs false
namespace Go.Proofs.Ytlncbckpcmojpaa
open Go.RowKit Go.Proofs.YtlncbckpcmojpaaW.PrintWords Go.Proofs.YtlncbckpcmojpaaW.PrintLast Go.Proofs.YtlncbckpcmojpaaW.PrintMore
namespace FeasWalk
open P StopsWalk
/-- What all looks tell of a route. -/
def routeB (x : Look) (i : Int) (l : List Int) (j : Nat) : List Wrong := ((looksOf x.kd).take j).flatMap (lookB x i l)
def routesB (x : Look) (rs : List (List Int)) (k : Nat) : List Wrong := (List.range k).flatMap fun (i : Nat) => routeB x (i : Int) (rd_L1 rs (i : Int)) (looksOf x.kd).length
/-- What feas.Check tells. -/
def wrongsOf (x : Look) (rs : List (List Int)) : List Wrong :=
  if badAll x rs rs.length = [] then covAll x (counts x.ns.length (stopsOf rs)) x.ns.length ++ fleetB x ((filled rs).length : Int) ++ routesB x rs rs.length else badAll x rs rs.length
theorem routesB_succ (x : Look) (rs : List (List Int)) (k : Nat) : routesB x rs (k + 1) = routesB x rs k ++ routeB x (k : Int) (rd_L1 rs (k : Int)) (looksOf x.kd).length := by unfold routesB; rw [List.range_succ, List.flatMap_append, List.flatMap_singleton]
theorem routeB_succ (x : Look) (i : Int) (l : List Int) {j : Nat} (h : j < (looksOf x.kd).length) : routeB x i l (j + 1) = routeB x i l j ++ lookB x i l (looksOf x.kd)[j] := by
  unfold routeB
  rw [List.take_succ_eq_append_getElem h, List.flatMap_append, List.flatMap_singleton]
theorem routeB_le (x : Look) (i : Int) (l : List Int) (hl : l.length ≤ 300) : ∀ j, j ≤ (looksOf x.kd).length → (routeB x i l j).length ≤ 301 * j
  | 0, _ => by simp [routeB]
  | j + 1, h => by
    rw [routeB_succ x i l (by omega), List.length_append]
    have h1 := routeB_le x i l hl j (by omega)
    have h2 := lookB_le x i l (looksOf x.kd)[j]
    omega
theorem routesB_le (x : Look) {rs : List (List Int)} (hf : Few rs) : ∀ k, k ≤ rs.length → (routesB x rs k).length ≤ 903 * k
  | 0, _ => by simp [routesB]
  | k + 1, h => by
    rw [routesB_succ, List.length_append]
    have h1 := routesB_le x hf k (by omega)
    have h2 := routeB_le x (k : Int) (rd_L1 rs (k : Int)) (hf.2 k (by omega)) _ (Nat.le_refl _)
    have h3 := looksOf_le x.kd
    omega
/-- No bad stop: all stops stand in range. -/
theorem not_bad {x : Look} {rs : List (List Int)} (h : badAll x rs rs.length = []) {k : Nat} (hk : k < rs.length) : ∀ s ∈ rd_L1 rs (k : Int), 0 ≤ s ∧ s < (x.ns.length : Int) := by
  intro s hs
  unfold badAll at h
  rw [List.flatMap_eq_nil_iff] at h
  have h1 := h k (List.mem_range.2 hk)
  unfold badTo at h1
  rw [List.map_eq_nil_iff, List.filter_eq_nil_iff] at h1
  have h2 := h1 s hs
  unfold badB oddB at h2
  simp only [Bool.or_eq_true, decide_eq_true_eq, not_or] at h2
  omega
/-- The row of looks lies as it lay. -/
theorem fn_rest {G base : Nat} {W w' : World} {v : Value} {ys : List Nat} {cells : Array Value} (hR : Kd.R (fnK G) 67 W base (fun _ => True) v ys) (hg : W.heap[G]? = some (.cells cells 63 (0, 0))) (h : Rest G W w') : Kd.R (fnK G) 67 w' base (fun _ => True) v ys :=
  Kd.R_mono (Kd.R_move (ok := fun k => v.ownBlock = some k) ⟨fun k hk => hk, hR.2⟩ (fun k hk => by
    obtain ⟨cs, hc⟩ := Kd.R_typed hR k hk
    rw [hc]
    exact h.2 k cs _ hc (fun e => Kd.R_ne hR hg (by decide) (by rw [← e]; exact hk.symm)) (by decide))) (fun _ _ => trivial)
theorem look_enters {kd : Int} {n : Nat} (hn : n ∈ looksOf kd) : ∀ args w, (callFunc n args).run Try.prog w = .ok (.enter n args) w := by
  rcases looksOf_in hn with rfl | rfl | rfl
  · exact enters_ Try.func54 (by kernel_rfl) rfl
  · exact enters_ Try.func53 (by kernel_rfl) rfl
  · exact enters_ Try.func52 (by kernel_rfl) rfl
/- CHECK -/
set_option maxHeartbeats 8000000 in
set_option maxRecDepth 100000 in
theorem check_c (x : Look) (A : Option Addr) (cap : Nat) (rs : List (List Int)) (W : World) (hx : Fit x W) (hC : Kd.C (Kd.slice 3 (Kd.int .i64)) W A rs.length rs) (hcap : rs.length ≤ cap) (hf : Few rs) :
    Calls Try.prog 14 #[x.val, .agg #[.slice A rs.length cap]] W fun e w' => ∃ v', e = .returned v' ∧ Kd.R k37 37 w' W.heap.size (fun _ => True) v' (wrongsOf x rs) ∧ Below W.heap.size W w' := by
  have hB : Below W.heap.size W (((W.alloc (.cells #[.string x.nm, .int .i64 x.kd, .int .i64 x.mt, .int .i64 x.sc, .int .i64 x.cp, .int .i64 x.fl, .slice x.A x.ns.length x.c, .slice x.B x.mx.length x.e] 25)).alloc (.cells #[.slice A rs.length cap] 30)).alloc (.cells #[.string x.nm, .int .i64 x.kd, .int .i64 x.mt, .int .i64 x.sc, .int .i64 x.cp, .int .i64 x.fl, .slice x.A x.ns.length x.c, .slice x.B x.mx.length x.e, .slice none 0 0] 63)) := (((Below.refl W.heap.size W).alloc (Nat.le_refl _) _).alloc (by simp) _).alloc (by simp; omega) _
  have hat : x.at (((W.alloc (.cells #[.string x.nm, .int .i64 x.kd, .int .i64 x.mt, .int .i64 x.sc, .int .i64 x.cp, .int .i64 x.fl, .slice x.A x.ns.length x.c, .slice x.B x.mx.length x.e] 25)).alloc (.cells #[.slice A rs.length cap] 30)).alloc (.cells #[.string x.nm, .int .i64 x.kd, .int .i64 x.mt, .int .i64 x.sc, .int .i64 x.cp, .int .i64 x.fl, .slice x.A x.ns.length x.c, .slice x.B x.mx.length x.e, .slice none 0 0] 63)) (W.heap.size + 1 + 1) (.slice none 0 0) := by
    have h := heap_alloc_new ((W.alloc (.cells #[.string x.nm, .int .i64 x.kd, .int .i64 x.mt, .int .i64 x.sc, .int .i64 x.cp, .int .i64 x.fl, .slice x.A x.ns.length x.c, .slice x.B x.mx.length x.e] 25)).alloc (.cells #[.slice A rs.length cap] 30)) (.cells #[.string x.nm, .int .i64 x.kd, .int .i64 x.mt, .int .i64 x.sc, .int .i64 x.cp, .int .i64 x.fl, .slice x.A x.ns.length x.c, .slice x.B x.mx.length x.e, .slice none 0 0] 63)
    simp only [World.size_alloc] at h
    exact h
  have hP := blk_alloc (heap_alloc_new (W.alloc (.cells #[.string x.nm, .int .i64 x.kd, .int .i64 x.mt, .int .i64 x.sc, .int .i64 x.cp, .int .i64 x.fl, .slice x.A x.ns.length x.c, .slice x.B x.mx.length x.e] 25)) (.cells #[.slice A rs.length cap] 30)) (.cells #[.string x.nm, .int .i64 x.kd, .int .i64 x.mt, .int .i64 x.sc, .int .i64 x.cp, .int .i64 x.fl, .slice x.A x.ns.length x.c, .slice x.B x.mx.length x.e, .slice none 0 0] 63)
  simp only [World.size_alloc] at hP
  generalize hW3 : ((W.alloc (.cells #[.string x.nm, .int .i64 x.kd, .int .i64 x.mt, .int .i64 x.sc, .int .i64 x.cp, .int .i64 x.fl, .slice x.A x.ns.length x.c, .slice x.B x.mx.length x.e] 25)).alloc (.cells #[.slice A rs.length cap] 30)).alloc (.cells #[.string x.nm, .int .i64 x.kd, .int .i64 x.mt, .int .i64 x.sc, .int .i64 x.cp, .int .i64 x.fl, .slice x.A x.ns.length x.c, .slice x.B x.mx.length x.e, .slice none 0 0] 63) = W3 at *
  obtain ⟨G, hG⟩ : ∃ G, W.heap.size + 1 + 1 = G := ⟨_, rfl⟩
  obtain ⟨Bp, hBp⟩ : ∃ Bp, W.heap.size + 1 = Bp := ⟨_, rfl⟩
  rw [hG] at hat
  rw [hBp] at hP
  have hSt : St x W G [] W3 := ⟨by omega, _, hat, Kd.R_nil .., hB⟩
  have HKn := Lib.hid (known_c x W G A cap rs W3 hSt (Nat.le_trans hx.few (by decide)) hC hf)
  have HW := Lib.hid hW3
  have HG := Lib.hid hG
  have HBp := Lib.hid hBp
  have HP := Lib.hid hP
  have HX := Lib.hid hx
  have HC := Lib.hid hC
  have HF := Lib.hid hf
  obtain ⟨p0, -⟩ := blk1_ hP
  unfold Look.val
  by_cases hb : badAll x rs rs.length = []
  · have HWr := Lib.hid (show wrongsOf x rs = covAll x (counts x.ns.length (stopsOf rs)) x.ns.length ++ fleetB x ((filled rs).length : Int) ++ routesB x rs rs.length from if_pos hb)
    have bb : decide (badAll x rs rs.length = []) = true := decide_eq_true hb
    have HIN := Lib.hid (show ∀ k, k < rs.length → _ from fun k hk => not_bad hb (k := k) hk)
    rw [bb, hb] at HKn
    clear hB hat hP hW3 hSt hx hC hb
    have hGB : Bp ≠ G := by omega
    clear hG hBp
    have HCo := Lib.hid (show ∀ w4, SR x W G W3 [] w4 → _ from fun w4 h => covered_c x W W3 G [] A cap rs w4 h (by simp) HX.out.some HX.out.few HC.out HF.out)
    have hcl : (covAll x (counts x.ns.length (stopsOf rs)) x.ns.length).length ≤ 400 := Nat.le_trans (covAll_le x _ _) HX.out.few
    generalize covAll x (counts x.ns.length (stopsOf rs)) x.ns.length = cs at *
    have HFl := Lib.hid (show ∀ w5, SR x W G W3 ([] ++ cs) w5 → _ from fun w5 h => fleet_c x W W3 G ([] ++ cs) A cap rs w5 h (by rw [List.nil_append]; omega) HC.out hcap HF.out)
    have hfl := fleetB_le x ((filled rs).length : Int)
    generalize fleetB x ((filled rs).length : Int) = fs at *
    go_enter Try.func14, Try.ntmps14
    go_upto_region 2 with (fail)
    rw [HW.out, HG.out, HBp.out]
    go_wp2_with fail
    refine HKn.out.mono ?_
    rintro e w4 ⟨rfl, hst⟩
    have HCo4 := Lib.hid (HCo.out w4 hst)
    have pB := (blk1_ (hst.2.2 _ _ _ HP.out hGB (by decide))).1
    clear hst HKn p0 HCo
    go_wp2_with fail
    refine HCo4.out.mono ?_
    rintro e w5 ⟨⟨u5, rfl⟩, hst⟩
    have HFl5 := Lib.hid (HFl.out w5 hst)
    have pB5 := (blk1_ (hst.2.2 _ _ _ HP.out hGB (by decide))).1
    clear hst HCo4 pB HFl
    go_wp2_with fail
    refine HFl5.out.mono ?_
    rintro e w6 ⟨⟨u6, rfl⟩, hst⟩
    have pB6 := (blk1_ (hst.2.2 _ _ _ HP.out hGB (by decide))).1
    have HS6 := Lib.hid hst
    have HI0 := Aside0.mk (show SR x W G W3 ([] ++ cs ++ fs ++ routesB x rs 0) w6 from by simpa [routesB] using hst)
    have HRt := Lib.hid (routesB_le x HF.out)
    clear hst HFl5 pB5
    go_wp2
    go_loopw [30] (fun v30 wr => ∃ k : Nat, v30 = .int .i64 k ∧ k ≤ rs.length ∧ Aside0 (SR x W G W3 ([] ++ cs ++ fs ++ routesB x rs k) wr)) (fun v30 wr => rs.length - (intOf v30).toNat)
    case atStart => exact ⟨0, rfl, Nat.zero_le _, HI0⟩
    case round =>
      obtain ⟨k, rfl, hk, HI⟩ := hrel
      have hrs := HF.out.1
      clear HI0 HS6
      by_cases hlt : k < rs.length
      · have bt : decide ((k : Int) < (rs.length : Int)) = true := decide_eq_true (by omega)
        obtain ⟨ad, A', c', e1, hx, hl, hCi⟩ := at_L1 HC.out (k : Int) (by omega) (by omega)
        have hx := old_cell HI.out.old hx
        cases e1
        rw [Int.toNat_natCast] at hx
        have hfk := HF.out.2 k hlt
        have hin := HIN.out k hlt
        have HE := Lib.hid (routesB_succ x rs k)
        have hrk := HRt.out k hk
        generalize rd_L1 rs (k : Int) = r at *
        obtain ⟨v, hv⟩ := HI.out.at
        have HLo := Lib.hid (looks_c x G v wr hv)
        have HLp := Lib.hid hl
        have HCi := Lib.hid hCi
        have HIr := Lib.hid hin
        clear hCi hl hin hv
        have p1 : (0 : Int) ≤ (k : Int) ∧ (k : Int) < (rs.length : Int) := by omega
        go_wp2_with fail
        refine HLo.out.mono ?_
        rintro e w7 ⟨v7, rfl, hR7, hb7⟩
        obtain ⟨A7, c7, e7⟩ := Kd.R_slice hR7
        subst e7
        obtain ⟨L, hL⟩ : ∃ L, looksOf x.kd = L := ⟨_, rfl⟩
        have HL := Lib.hid hL
        obtain ⟨m, hm⟩ : ∃ m, L.length = m := ⟨_, rfl⟩
        rw [hL, hm] at hR7 ⊢
        rw [hL, hm] at HE
        have HM := Lib.hid hm
        have HR7 := Lib.hid hR7
        have HJ0 := Aside0.mk (show SR x W G w7 ([] ++ cs ++ fs ++ routesB x rs k ++ routeB x (k : Int) r 0) w7 from ⟨by simpa [routeB] using (HI.out.below hb7).1, Rest.refl G w7⟩)
        have HI7 := Lib.hid (HI.out.below hb7)
        have hm3 : m ≤ 3 := by rw [← hm, ← hL]; exact looksOf_le x.kd
        clear hR7 hL hm hb7 HLo HI
        go_wp2
        go_loopw [38] (fun v38 wq => ∃ j : Nat, v38 = .int .i64 j ∧ j ≤ m ∧ Aside0 (SR x W G w7 ([] ++ cs ++ fs ++ routesB x rs k ++ routeB x (k : Int) r j) wq)) (fun v38 wq => m - (intOf v38).toNat)
        case atStart => exact ⟨0, rfl, Nat.zero_le _, HJ0⟩
        case round =>
          obtain ⟨j, rfl, hj, HJ⟩ := hrel
          clear HJ0
          by_cases hjl : j < m
          · have bt2 : decide ((j : Int) < (m : Int)) = true := decide_eq_true (by omega)
            have hvv := HI7.out.at
            obtain ⟨vv, hKv⟩ := hvv
            have hR := fn_rest HR7.out hKv HJ.out.2
            obtain ⟨g, cp, hv, hg, hgl, -⟩ := Kd.R_form hR (by rw [HM.out]; omega)
            injection hv with e1 e2 e3
            subst e1
            obtain ⟨r1, -⟩ := Kd.R_celln 0 hR (j : Int) (by omega) (by omega)
            rw [Int.toNat_natCast] at r1
            have hmem : rdOf 0 L (j : Int) ∈ looksOf x.kd := by
              rw [HL.out]; unfold rdOf; rw [Int.toNat_natCast, List.getD_eq_getElem?_getD, List.getElem?_eq_getElem (by rw [HM.out]; exact hjl)]; exact List.getElem_mem _
            have HE2 := Lib.hid (show routeB x (k : Int) r (j + 1) = routeB x (k : Int) r j ++ lookB x (k : Int) r (rdOf 0 L (j : Int)) from by
              rw [routeB_succ x (k : Int) r (by rw [HL.out, HM.out]; exact hjl)]
              have e0 : (looksOf x.kd)[j]? = some (rdOf 0 L (j : Int)) := by
                rw [HL.out]; unfold rdOf; rw [Int.toNat_natCast, List.getD_eq_getElem?_getD, List.getElem?_eq_getElem (by rw [HM.out]; exact hjl)]; rfl
              obtain ⟨_, e1⟩ := List.getElem?_eq_some_iff.1 e0; rw [e1])
            have hlen : ([] ++ cs ++ fs ++ routesB x rs k ++ routeB x (k : Int) r j).length ≤ 500000 := by
              have h1 := routeB_le x (k : Int) r hfk j (by rw [HL.out, HM.out]; omega)
              simp only [List.length_append, List.length_nil]
              omega
            have eg := look_enters hmem
            have HN := Lib.hid (look_c x W w7 G _ (k : Int) A' c' r _ wr HJ.out hlen HX.out HCi.out HLp.out hfk HIr.out hmem)
            generalize rdOf 0 L (j : Int) = n at *
            have p2 : (0 : Int) ≤ (j : Int) ∧ (j : Int) < (m : Int) := by omega
            unfold fnV at r1
            clear hR hKv HJ hmem hlen hg hgl e2 e3
            go_wp2_with fail
            refine HN.out.mono ?_
            rintro e w8 ⟨⟨u, rfl⟩, hst⟩
            have HS8 := Lib.hid (show SR x W G w7 ([] ++ cs ++ fs ++ routesB x rs k ++ routeB x (k : Int) r (j + 1)) w8 from by rw [HE2.out, ← List.append_assoc]; exact hst)
            clear hst HN r1
            go_wp2
            go_roundw
            case rel => exact ⟨j + 1, by go_num, by omega, ⟨HS8.out⟩⟩
            case measure => simp [intOf]; omega
          · have bt2 : decide ((j : Int) < (m : Int)) = false := decide_eq_false (by omega)
            obtain rfl : j = m := by omega
            have HR3 := Lib.hid (show SR x W G W3 ([] ++ cs ++ fs ++ routesB x rs (k + 1)) wr from by rw [HE.out, ← List.append_assoc]; exact ⟨HJ.out.1, HI7.out.2.trans HJ.out.2⟩)
            clear HJ
            go_wp2
            go_roundw
            case rel => exact ⟨k + 1, by go_num, by omega, ⟨HR3.out⟩⟩
            case measure => simp [intOf]; omega
      · have bt : decide ((k : Int) < (rs.length : Int)) = false := decide_eq_false (by omega)
        obtain rfl : k = rs.length := by omega
        obtain ⟨hg, v, hK, hR, hB⟩ := HI.out.1
        unfold Look.at at hK
        obtain ⟨k0, k1, k2, k3, k4, k5, k6, k7, k8, f0, f1, f2, f3, f4, f5, f6, f7, f8⟩ := blk9_ hK
        have HE := Lib.hid (And.intro hR hB)
        clear k0 k1 k2 k3 k4 k5 k6 k7 f0 f1 f2 f3 f4 f5 f6 f7 f8 hK hR hB hg HI pB6
        go_wp2
        go_ret
        exact ⟨_, rfl, by rw [HWr.out]; simpa using HE.out.1, HE.out.2⟩
  · have HWr := Lib.hid (show wrongsOf x rs = badAll x rs rs.length from if_neg hb)
    have bb : decide (badAll x rs rs.length = []) = false := decide_eq_false hb
    rw [bb] at HKn
    generalize badAll x rs rs.length = bs at *
    clear hB hat hP hW3 hG hBp hSt hx hC hf hb
    go_enter Try.func14, Try.ntmps14
    go_upto_region 2 with (fail)
    rw [HW.out, HG.out, HBp.out]
    go_wp2_with fail
    refine HKn.out.mono ?_
    rintro e w4 ⟨rfl, hst⟩
    obtain ⟨hg, v, hK, hR, hB⟩ := hst.1
    unfold Look.at at hK
    obtain ⟨k0, k1, k2, k3, k4, k5, k6, k7, k8, f0, f1, f2, f3, f4, f5, f6, f7, f8⟩ := blk9_ hK
    have HE := Lib.hid (And.intro hR hB)
    clear k0 k1 k2 k3 k4 k5 k6 k7 f0 f1 f2 f3 f4 f5 f6 f7 f8 hK hR hB hg hst HKn p0
    go_wp2
    go_ret
    exact ⟨_, rfl, by rw [HWr.out]; exact HE.out.1, HE.out.2⟩
end FeasWalk
end Go.Proofs.Ytlncbckpcmojpaa
set_option linter.unusedVariables false
set_option linter.unusedSimpArgs false
namespace Go.Proofs.Ytlncbckpcmojpaa
open Go.RowKit Go.Proofs.YtlncbckpcmojpaaW.PrintWords Go.Proofs.YtlncbckpcmojpaaW.PrintLast Go.Proofs.YtlncbckpcmojpaaW.PrintMore
namespace FeasWalk
open P
/-- FEASIBLE -/
theorem wrongs_eq (l : List Wrong) : ((l.length : Int) == 0) = l.isEmpty := by
  cases l with
  | nil => rfl
  | cons a l => simp; omega
set_option maxHeartbeats 8000000 in
set_option maxRecDepth 100000 in
theorem feasible_c (x : Look) (A : Option Addr) (cap : Nat) (rs : List (List Int)) (W : World) (hx : Fit x W) (hC : Kd.C (Kd.slice 3 (Kd.int .i64)) W A rs.length rs) (hcap : rs.length ≤ cap) (hf : Few rs) :
    Calls Try.prog 13 #[x.val, .agg #[.slice A rs.length cap]] W fun e w' => e = .returned (.bool (wrongsOf x rs).isEmpty) ∧ Below W.heap.size W w' := by
  have hB : Below W.heap.size W ((W.alloc (.cells #[.string x.nm, .int .i64 x.kd, .int .i64 x.mt, .int .i64 x.sc, .int .i64 x.cp, .int .i64 x.fl, .slice x.A x.ns.length x.c, .slice x.B x.mx.length x.e] 25)).alloc (.cells #[.slice A rs.length cap] 30)) := ((Below.refl W.heap.size W).alloc (Nat.le_refl _) _).alloc (by simp) _
  have hbx := blk_alloc (heap_alloc_new W (.cells #[.string x.nm, .int .i64 x.kd, .int .i64 x.mt, .int .i64 x.sc, .int .i64 x.cp, .int .i64 x.fl, .slice x.A x.ns.length x.c, .slice x.B x.mx.length x.e] 25)) (.cells #[.slice A rs.length cap] 30)
  have hbp := heap_alloc_new (W.alloc (.cells #[.string x.nm, .int .i64 x.kd, .int .i64 x.mt, .int .i64 x.sc, .int .i64 x.cp, .int .i64 x.fl, .slice x.A x.ns.length x.c, .slice x.B x.mx.length x.e] 25)) (.cells #[.slice A rs.length cap] 30)
  simp only [World.size_alloc] at hbp
  generalize hW2 : (W.alloc (.cells #[.string x.nm, .int .i64 x.kd, .int .i64 x.mt, .int .i64 x.sc, .int .i64 x.cp, .int .i64 x.fl, .slice x.A x.ns.length x.c, .slice x.B x.mx.length x.e] 25)).alloc (.cells #[.slice A rs.length cap] 30) = W2 at *
  have HCk := Lib.hid (check_c x A cap rs W2 ⟨x.rows_below hx.rows hB, hx.few, hx.some, hx.leg⟩ (Kd.C_below hC hB) hcap hf)
  have HB := Lib.hid hB
  have HW := Lib.hid hW2
  have HE := Lib.hid (wrongs_eq (wrongsOf x rs))
  unfold Look.val at *
  generalize wrongsOf x rs = ws at *
  obtain ⟨k0, k1, k2, k3, k4, k5, k6, k7, f0, f1, f2, f3, f4, f5, f6, f7⟩ := blk8_ hbx
  obtain ⟨q0, -⟩ := blk1_ hbp
  clear hB hW2 hx hC hf hbx hbp f0 f1 f2 f3 f4 f5 f6 f7
  go_enter Try.func13, Try.ntmps13
  go_upto_region 1 with (fail)
  rw [HW.out]
  go_wp2_with fail
  refine HCk.out.mono ?_
  rintro e w3 ⟨v, rfl, hR, hb⟩
  obtain ⟨A1, c1, rfl⟩ := Kd.R_slice hR
  have HB3 := Lib.hid hb
  clear hR hb HCk
  go_wp2
  go_ret
  exact ⟨ret_bool HE.out, below_step HB.out HB3.out⟩
/-- CONTRACTS -/
def okF (mt : Int) (n m : Nat) : Bool := decide (n ≤ 400 ∧ 0 < n ∧ (mt = 0 → n * n ≤ m))
def fewF (rs : List (List Int)) : Bool := decide (rs.length ≤ 300) && rs.all fun r => decide (r.length ≤ 300)
theorem few_of {rs : List (List Int)} (h : fewF rs = true) : Few rs := by
  unfold fewF at h
  simp only [Bool.and_eq_true, decide_eq_true_eq, List.all_eq_true] at h
  refine ⟨h.1, fun k hk => ?_⟩
  rw [rdL1_at hk]
  exact h.2 _ (List.getElem_mem _)
theorem dist_some (m s x y : Int) : ∃ r1 r2, metric_Dist.f m s x y = some (r1, r2) := by
  unfold metric_Dist.f
  split
  · exact ⟨_, _, rfl⟩
  · split <;> exact ⟨_, _, rfl⟩
theorem leg_some {x : Look} (h : okF x.mt x.ns.length x.mx.length = true) {i j : Nat} (hi : i < x.ns.length) (hj : j < x.ns.length) : ∃ r2, legOf x i j = some (legP x i j, r2) := by
  have h := of_decide_eq_true h
  unfold legP
  cases hl : legOf x i j with
  | some p => exact ⟨p.2, rfl⟩
  | none =>
    unfold legOf at hl
    split at hl
    · rename_i h0
      have h1 := h.2.2 h0
      have h2 : i * x.ns.length + j < x.ns.length * x.ns.length := by
        have : (i + 1) * x.ns.length ≤ x.ns.length * x.ns.length := Nat.mul_le_mul_right _ hi
        rw [Nat.succ_mul] at this
        omega
      rw [if_pos (by omega)] at hl
      cases hl
    · obtain ⟨a, b, e⟩ := dist_some x.mt x.sc (wrap64 ((rd_T32 x.ns (j : Int)).f0 - (rd_T32 x.ns (i : Int)).f0)) (wrap64 ((rd_T32 x.ns (j : Int)).f1 - (rd_T32 x.ns (i : Int)).f1))
      rw [e] at hl
      cases hl
theorem fit_of {x : Look} {W : World} (h : okF x.mt x.ns.length x.mx.length = true) (hr : x.rows W) : Fit x W :=
  ⟨hr, (of_decide_eq_true h).1, (of_decide_eq_true h).2.1, fun _ _ hi hj => leg_some h hi hj⟩
/-- An instance by its fields alone. -/
def lk (nm : ByteArray) (kd mt sc cp fl : Int) (ns : List Node) (mx : List Int) : Look := ⟨nm, kd, mt, sc, cp, fl, none, 0, ns, none, 0, mx⟩
theorem sumsFrom_lk (nm : ByteArray) (kd mt sc cp fl : Int) (A : Option Addr) (c : Nat) (ns : List Node) (B : Option Addr) (e : Nat) (mx : List Int) : ∀ (l : List Int) (s : Int), sumsFrom ⟨nm, kd, mt, sc, cp, fl, A, c, ns, B, e, mx⟩ s l = sumsFrom (lk nm kd mt sc cp fl ns mx) s l
  | [], _ => rfl
  | a :: l, s => by unfold sumsFrom; rw [sumsFrom_lk nm kd mt sc cp fl A c ns B e mx l]; rfl
theorem loads_lk (nm : ByteArray) (kd mt sc cp fl : Int) (A : Option Addr) (c : Nat) (ns : List Node) (B : Option Addr) (e : Nat) (mx : List Int) (l : List Int) : loadsOf ⟨nm, kd, mt, sc, cp, fl, A, c, ns, B, e, mx⟩ l = loadsOf (lk nm kd mt sc cp fl ns mx) l := by
  unfold loadsOf; rw [sumsFrom_lk]; rfl
theorem loadB_lk (nm : ByteArray) (kd mt sc cp fl : Int) (A : Option Addr) (c : Nat) (ns : List Node) (B : Option Addr) (e : Nat) (mx : List Int) (i : Int) (l : List Int) : loadB ⟨nm, kd, mt, sc, cp, fl, A, c, ns, B, e, mx⟩ i l = loadB (lk nm kd mt sc cp fl ns mx) i l := by
  unfold loadB; rw [loads_lk]; rfl
theorem look_lk (nm : ByteArray) (kd mt sc cp fl : Int) (A : Option Addr) (c : Nat) (ns : List Node) (B : Option Addr) (e : Nat) (mx : List Int) (i : Int) (l : List Int) (n : Nat) : lookB ⟨nm, kd, mt, sc, cp, fl, A, c, ns, B, e, mx⟩ i l n = lookB (lk nm kd mt sc cp fl ns mx) i l n := by
  unfold lookB; rw [loadB_lk]; rfl
theorem route_lk (nm : ByteArray) (kd mt sc cp fl : Int) (A : Option Addr) (c : Nat) (ns : List Node) (B : Option Addr) (e : Nat) (mx : List Int) (i : Int) (l : List Int) (j : Nat) : routeB ⟨nm, kd, mt, sc, cp, fl, A, c, ns, B, e, mx⟩ i l j = routeB (lk nm kd mt sc cp fl ns mx) i l j := by
  unfold routeB
  rw [show lookB ⟨nm, kd, mt, sc, cp, fl, A, c, ns, B, e, mx⟩ i l = lookB (lk nm kd mt sc cp fl ns mx) i l from funext fun n => look_lk nm kd mt sc cp fl A c ns B e mx i l n]
  rfl
theorem wrongs_lk (nm : ByteArray) (kd mt sc cp fl : Int) (A : Option Addr) (c : Nat) (ns : List Node) (B : Option Addr) (e : Nat) (mx : List Int) (rs : List (List Int)) : wrongsOf ⟨nm, kd, mt, sc, cp, fl, A, c, ns, B, e, mx⟩ rs = wrongsOf (lk nm kd mt sc cp fl ns mx) rs := by
  unfold wrongsOf
  rw [show routesB ⟨nm, kd, mt, sc, cp, fl, A, c, ns, B, e, mx⟩ rs rs.length = routesB (lk nm kd mt sc cp fl ns mx) rs rs.length from by
    unfold routesB
    rw [show (fun (i : Nat) => routeB ⟨nm, kd, mt, sc, cp, fl, A, c, ns, B, e, mx⟩ (i : Int) (rd_L1 rs (i : Int)) (looksOf kd).length) = fun (i : Nat) => routeB (lk nm kd mt sc cp fl ns mx) (i : Int) (rd_L1 rs (i : Int)) (looksOf kd).length from funext fun i => route_lk nm kd mt sc cp fl A c ns B e mx _ _ _]
    rfl]
  rfl
end FeasWalk
open FeasWalk P
/-- What feas.Check computes. -/
def feas_Check.f (nm : ByteArray) (kd mt sc cp fl : Int) (ns : List FeasWalk.Node) (mx : List Int) (rs : List (List Int)) : Option (List Wrong) := if okF mt ns.length mx.length = true ∧ fewF rs = true then some (wrongsOf (lk nm kd mt sc cp fl ns mx) rs) else none
theorem feas_Check.calls (nm : ByteArray) (kd mt sc cp fl : Int) (A : Option Addr) (c : Nat) (ns : List FeasWalk.Node) (B : Option Addr) (e : Nat) (mx : List Int) (R : Option Addr) (d : Nat) (rs : List (List Int)) (r : List Wrong) (w : World)
    (h1 : Kd.C k32 w A ns.length ns) (_ : ns.length ≤ c) (h2 : Kd.C (Kd.int .i64) w B mx.length mx) (_ : mx.length ≤ e) (h3 : Kd.C (Kd.slice 3 (Kd.int .i64)) w R rs.length rs) (hd : rs.length ≤ d) (h : feas_Check.f nm kd mt sc cp fl ns mx rs = some r) :
    Calls Try.prog 14 #[.agg #[.string nm, .int .i64 kd, .int .i64 mt, .int .i64 sc, .int .i64 cp, .int .i64 fl, .slice A ns.length c, .slice B mx.length e], .agg #[.slice R rs.length d]] w fun e w' => ∃ v0_ : Value, e = .returned v0_ ∧ Kd.R k37 37 w' w.heap.size (fun _ => True) v0_ r ∧ Below w.heap.size w w' := by
  unfold feas_Check.f at h
  split at h
  · rename_i hs
    have h := Option.some.inj h
    subst h
    rw [← wrongs_lk nm kd mt sc cp fl A c ns B e mx rs]
    exact check_c ⟨nm, kd, mt, sc, cp, fl, A, c, ns, B, e, mx⟩ R d rs w (fit_of hs.1 ⟨h1, h2⟩) h3 hd (few_of hs.2)
  · cases h
/-- What feas.Feasible computes. -/
def feas_Feasible.f (nm : ByteArray) (kd mt sc cp fl : Int) (ns : List FeasWalk.Node) (mx : List Int) (rs : List (List Int)) : Option Bool := if okF mt ns.length mx.length = true ∧ fewF rs = true then some (wrongsOf (lk nm kd mt sc cp fl ns mx) rs).isEmpty else none
theorem feas_Feasible.calls (nm : ByteArray) (kd mt sc cp fl : Int) (A : Option Addr) (c : Nat) (ns : List FeasWalk.Node) (B : Option Addr) (e : Nat) (mx : List Int) (R : Option Addr) (d : Nat) (rs : List (List Int)) (r : Bool) (w : World)
    (h1 : Kd.C k32 w A ns.length ns) (_ : ns.length ≤ c) (h2 : Kd.C (Kd.int .i64) w B mx.length mx) (_ : mx.length ≤ e) (h3 : Kd.C (Kd.slice 3 (Kd.int .i64)) w R rs.length rs) (hd : rs.length ≤ d) (h : feas_Feasible.f nm kd mt sc cp fl ns mx rs = some r) :
    Calls Try.prog 13 #[.agg #[.string nm, .int .i64 kd, .int .i64 mt, .int .i64 sc, .int .i64 cp, .int .i64 fl, .slice A ns.length c, .slice B mx.length e], .agg #[.slice R rs.length d]] w fun e w' => e = .returned (.bool r) ∧ Below w.heap.size w w' := by
  unfold feas_Feasible.f at h
  split at h
  · rename_i hs
    have h := Option.some.inj h
    subst h
    rw [← wrongs_lk nm kd mt sc cp fl A c ns B e mx rs]
    exact feasible_c ⟨nm, kd, mt, sc, cp, fl, A, c, ns, B, e, mx⟩ R d rs w (fit_of hs.1 ⟨h1, h2⟩) h3 hd (few_of hs.2)
  · cases h
/-- What feas.Loads computes. -/
def feas_Loads.f (nm : ByteArray) (kd mt sc cp fl : Int) (ns : List FeasWalk.Node) (mx : List Int) (l : List Int) : Option (List Int) := if okF mt ns.length mx.length = true ∧ l.length ≤ 300 then some (loadsOf (lk nm kd mt sc cp fl ns mx) l) else none
theorem feas_Loads.calls (nm : ByteArray) (kd mt sc cp fl : Int) (A : Option Addr) (c : Nat) (ns : List FeasWalk.Node) (B : Option Addr) (e : Nat) (mx : List Int) (R : Option Addr) (d : Nat) (l : List Int) (r : List Int) (w : World)
    (h1 : Kd.C k32 w A ns.length ns) (_ : ns.length ≤ c) (h2 : Kd.C (Kd.int .i64) w B mx.length mx) (_ : mx.length ≤ e) (h3 : Kd.C (Kd.int .i64) w R l.length l) (_ : l.length ≤ d) (h : feas_Loads.f nm kd mt sc cp fl ns mx l = some r) :
    Calls Try.prog 24 #[.agg #[.string nm, .int .i64 kd, .int .i64 mt, .int .i64 sc, .int .i64 cp, .int .i64 fl, .slice A ns.length c, .slice B mx.length e], .slice R l.length d] w fun e w' => ∃ v0_ : Value, e = .returned v0_ ∧ Kd.R (Kd.int .i64) 3 w' w.heap.size (fun _ => True) v0_ r ∧ Below w.heap.size w w' := by
  unfold feas_Loads.f at h
  split at h
  · rename_i hs
    have h := Option.some.inj h
    subst h
    rw [← loads_lk nm kd mt sc cp fl A c ns B e mx l]
    have hok := of_decide_eq_true hs.1
    exact floads_c ⟨nm, kd, mt, sc, cp, fl, A, c, ns, B, e, mx⟩ R d l w ⟨h1, h2⟩ (Nat.le_trans hok.1 (by decide)) h3 (Nat.le_trans hs.2 (by decide))
  · cases h
/-- What feas.Times computes. -/
def feas_Times.f (nm : ByteArray) (kd mt sc cp fl : Int) (ns : List FeasWalk.Node) (mx : List Int) (l : List Int) : Option (List Int × Bool) := if okF mt ns.length mx.length = true ∧ l.length ≤ 300 then some (ftimesOf (lk nm kd mt sc cp fl ns mx) l) else none
theorem feas_Times.calls (nm : ByteArray) (kd mt sc cp fl : Int) (A : Option Addr) (c : Nat) (ns : List FeasWalk.Node) (B : Option Addr) (e : Nat) (mx : List Int) (R : Option Addr) (d : Nat) (l : List Int) (r1 : List Int) (r2 : Bool) (w : World)
    (h1 : Kd.C k32 w A ns.length ns) (_ : ns.length ≤ c) (h2 : Kd.C (Kd.int .i64) w B mx.length mx) (_ : mx.length ≤ e) (h3 : Kd.C (Kd.int .i64) w R l.length l) (_ : l.length ≤ d) (h : feas_Times.f nm kd mt sc cp fl ns mx l = some (r1, r2)) :
    Calls Try.prog 21 #[.agg #[.string nm, .int .i64 kd, .int .i64 mt, .int .i64 sc, .int .i64 cp, .int .i64 fl, .slice A ns.length c, .slice B mx.length e], .slice R l.length d] w fun e w' => ∃ v0_ : Value, e = .returned (.tuple #[v0_, .bool r2]) ∧ Kd.R (Kd.int .i64) 3 w' w.heap.size (fun _ => True) v0_ r1 ∧ Below w.heap.size w w' := by
  unfold feas_Times.f at h
  split at h
  · rename_i hs
    have h := Option.some.inj h
    have hok := of_decide_eq_true hs.1
    have e0 : ftimesOf ⟨nm, kd, mt, sc, cp, fl, A, c, ns, B, e, mx⟩ l = (r1, r2) := h
    have hc := ftimes_c ⟨nm, kd, mt, sc, cp, fl, A, c, ns, B, e, mx⟩ R d l w ⟨h1, h2⟩ (Nat.le_trans hok.1 (by decide)) hok.2.1 h3 (Nat.le_trans hs.2 (by decide)) (fun _ _ hi hj => leg_some (x := ⟨nm, kd, mt, sc, cp, fl, A, c, ns, B, e, mx⟩) hs.1 hi hj)
    rw [e0] at hc
    exact hc
  · cases h
attribute [irreducible] feas_Check.f feas_Feasible.f feas_Loads.f feas_Times.f
end Go.Proofs.Ytlncbckpcmojpaa
