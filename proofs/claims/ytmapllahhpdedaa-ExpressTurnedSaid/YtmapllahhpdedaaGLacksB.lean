/- express.Lacks tells the fields that a format can't express: the walk of the function, over the contracts of its closures. -/
import Derived.Test.YtmapllahhpdedaaGLacksA
import Derived.Test.YtmapllahhpdedaaPxExpresslacking
import Derived.Test.YtmapllahhpdedaaPxMetricKnown
namespace Go.Proofs.Ytmapllahhpdedaa
open Go.RowKit Go.Proofs.YtmapllahhpdedaaW.PrintWords Go.Proofs.YtmapllahhpdedaaW.PrintLast Go.Proofs.YtmapllahhpdedaaW.PrintMore
set_option linter.unusedVariables false
set_option linter.unusedSimpArgs false
namespace LacksWalk
abbrev Look := P.S46

def pos (l : List Node) : Bool := !(l.any fun d => decide (d.f2 < 0))
def single (l : List Node) : Bool := !(l.any fun d => d.f6 != 0)
def unwindowed (l : List Node) : Bool := !(l.any fun d => d.f3 != 0 || d.f4 != 0)
def unserved (l : List Node) : Bool := !(l.any fun d => d.f5 != 0)
def isLilim (s : ByteArray) : Bool := s.toList == [108, 105, 108, 105, 109]
def known (metric : Int) : Bool := decide (0 ≤ metric) && decide (metric ≤ 6)

def upto (n : Nat) : List Int := (List.range n).map fun i : Nat => (i : Int) + 1
theorem upto_succ (n : Nat) : upto (n + 1) = upto n ++ [(n : Int) + 1] := by unfold upto; rw [List.range_succ, List.map_append]; rfl
theorem upto_len (n : Nat) : (upto n).length = n := by simp [upto]

def looks1 (kind metric fleet : Int) (l : List Node) : List Look := [⟨2, kind == 1 || kind == 2⟩, ⟨3, known metric && !(metric == 6)⟩, ⟨6, fleet == 0⟩, ⟨10, pos l⟩, ⟨11, unwindowed l⟩, ⟨12, unserved l⟩, ⟨13, single l⟩]
def looks2 (kind metric fleet : Int) (l : List Node) : List Look := [⟨2, kind == 3⟩, ⟨3, metric == 6⟩, ⟨6, decide (1 ≤ fleet)⟩, ⟨10, pos l⟩, ⟨13, single l⟩]
def looks3 (name : ByteArray) (kind metric scale fleet : Int) : List Look := [⟨1, isLilim name⟩, ⟨2, kind == 4⟩, ⟨3, metric == 6⟩, ⟨4, scale == 0⟩, ⟨6, decide (1 ≤ fleet)⟩]

theorem known_tells (metric : Int) : P.metric_Known.f metric = some (known metric) := by
  unfold P.metric_Known.f known
  by_cases h : 0 ≤ metric
  · rw [if_pos h, decide_eq_true h, Bool.true_and]
  · rw [if_neg h, decide_eq_false h, Bool.false_and]

theorem goesC_ {P : Program} {ops : Array Oper} {Q : Exit → Act → World → Prop} {oi : Oper} {N : Option Tmp} {a : Act} {w : World} {K : Act → World → Prop} {f : FuncId} {fn : Func} {co : Operand} {ars : Array Operand} {ts : Array TypeId} {lb : Array Value} (hf : P.funcs[f]? = some fn) (hname : (fn.name == "runtime.NumGoroutine") = false) (hb : fn.body.isSome = true) (args : Array Value)
    (hw : Region.wanted oi (yielded ops a.tmps) = true) (hN : oi.dst = N) (hop : oi.op = .call { callee := .value co, args := ars, argTypes := ts }) (hco : a.eval co = .func (.func f) #[] lb) (hargs : ars.map a.eval ++ lb = args)
    (h : Calls P f args w fun e w' => ∃ v, e = .returned v ∧ K (a.put N v) w') : if Region.wanted oi (yielded ops a.tmps) = true then Oper.wp P oi a w K Q else K (a.put N undef) w := by
  refine call_ f args hw hN ?_ h
  have he := enters_ hf hname hb args w
  unfold execOp
  subst hargs
  simp [hop, resolve, hco, Deferred.ofValue, invoke, he]

set_option maxRecDepth 100000 in
set_option maxHeartbeats 4000000 in
theorem lacks1_tt (name : ByteArray) (fmt kind metric scale cap fleet : Int) (A : Option Addr) (c : Nat) (l : List Node) (A' : Option Addr) (c' : Nat) (m : List Int) (r : List Int) (k : Nat) (w : World) (hr : Kd.C P.k40 w A l.length l) (hkn : P.metric_Known.f metric = some true) (b1 : (kind == 1) = true) (h : P.express_lacking.f k (looks1 kind metric fleet l) = some r) :
    Calls Try.prog 9 #[.int .i64 1, .agg #[.string name, .int .i64 kind, .int .i64 metric, .int .i64 scale, .int .i64 cap, .int .i64 fleet, .slice A l.length c, .slice A' m.length c']] w fun e w' =>
      ∃ v0_ : Value, e = .returned v0_ ∧ Kd.R (Kd.int .i64) 3 w' w.heap.size (fun _ => True) v0_ r ∧ Below w.heap.size w w' := by
  have hu := Try.underlying25
  have hul := Try.underlying46
  have HR := Aside0.mk hr
  clear hr
  have hk : known metric = true := Option.some.inj ((known_tells metric).symm.trans hkn)
  have Hkn := Aside0.mk hkn
  clear hkn
  have H2 : Aside0 (P.express_lacking.f k [⟨2, true⟩, ⟨3, (!(metric == 6))⟩, ⟨6, fleet == 0⟩, ⟨10, pos l⟩, ⟨11, !(l.any fun d => d.f3 != 0 || d.f4 != 0)⟩, ⟨12, !(l.any fun d => d.f5 != 0)⟩, ⟨13, single l⟩] = some r) := ⟨by
    unfold looks1 unwindowed unserved at h
    rw [b1, hk] at h
    exact h⟩
  clear h hk
  go_enter Try.func9, Try.ntmps9
  go_upto_region 1 with (((with_reducible refine gate_dst (N := 3) rfl ?_); refine box_event ?hg (N := 3) ?hd (cs := #[.string name, .int .i64 kind, .int .i64 metric, .int .i64 scale, .int .i64 cap, .int .i64 fleet, .slice A l.length c, .slice A' m.length c']) (t := 25) ?hr ?_; (case hd => rfl); (case hg => rfl); (case hr => first | (go_simp; done) | (go_simp; rfl)); intro gb hgb w1 hbox hb; have hge : Aside0 (w.heap.size ≤ gb) := ⟨by rw [hgb]; exact Nat.le_refl _⟩; have HB := Aside0.mk hb; have BK := Aside0.mk hbox; clear hgb hb hbox))
  go_wp2_with (fail)
  refine (none_such 18 (enters_ Try.func18 (by kernel_rfl) rfl) _ demand_neg A c gb l _ (Kd.C_below HR.out HB.out) ((blk_cell BK.out 6).trans rfl)).mono ?_
  rintro e w2 ⟨rfl, hb2⟩
  have BK2 := Aside0.mk (blk_below BK.out hb2)
  have HB2 := Aside0.mk (below_step HB.out hb2)
  clear hb2 HB BK
  go_wp2_with (fail)
  refine (none_such 19 (enters_ Try.func19 (by kernel_rfl) rfl) _ mate_not A c gb l _ (Kd.C_below HR.out HB2.out) ((blk_cell BK2.out 6).trans rfl)).mono ?_
  rintro e w3 ⟨rfl, hb3⟩
  have BK := Aside0.mk (blk_below BK2.out hb3)
  have HB := Aside0.mk (below_step HB2.out hb3)
  clear hb3 HB2 BK2
  obtain ⟨pl, hpl⟩ : ∃ b, b = pos l := ⟨_, rfl⟩
  obtain ⟨sg, hsg⟩ : ∃ b, b = single l := ⟨_, rfl⟩
  rw [show (!l.any fun d => decide (d.f2 < 0)) = pl from hpl.symm, show (!l.any fun d => d.f6 != 0) = sg from hsg.symm]
  rw [← hpl, ← hsg] at H2
  have Hpl := Aside0.mk hpl
  have Hsg := Aside0.mk hsg
  clear hpl hsg
  have q2 := (blk_cell BK.out 2).trans rfl
  have q5 := (blk_cell BK.out 5).trans rfl
  go_wp2_with (fail)
  go_quiet (fail)
  have HB := Aside0.mk (pw_below_drewN HB.out nq)
  have BK := Aside0.mk (blk_drewN BK.out nq)
  generalize w3.drewN nq = w4 at *
  clear q2 q5
  go_wp2_with fail
  refine start_ (n := 34) (S := fun w' => w'.cell? ⟨gb, 1, none⟩ = some (.int .i64 kind) ∧ w'.cell? ⟨gb, 2, none⟩ = some (.int .i64 metric) ∧ w'.cell? ⟨gb, 5, none⟩ = some (.int .i64 fleet) ∧ w'.heap[gb]? = some (.cells #[.string name, .int .i64 kind, .int .i64 metric, .int .i64 scale, .int .i64 cap, .int .i64 fleet, .slice A l.length c, .slice A' m.length c'] 25 (0, 0)) ∧ Below w.heap.size w w') (ds := []) #[false, false, false, false, false, false, false, false, false, false, false, false, false, false, false, false, false, false, false, false, false, false, false, false, false, false, false, false, false, false, false, false, false, false] (by kernel_rfl) rfl rfl ⟨(blk_cell (blk_drew BK.out) 1).trans rfl, (blk_cell (blk_drew BK.out) 2).trans rfl, (blk_cell (blk_drew BK.out) 5).trans rfl, blk_drew BK.out, below_drew HB.out⟩ (fun hHeld => ?_)
  refine pure_ (i := 0) (N := some 25) (v := ?_) (a' := ?_) #[true, false, false, false, false, false, false, false, false, false, false, false, false, false, false, false, false, false, false, false, false, false, false, false, false, false, false, false, false, false, false, false, false, false] rfl rfl (by kernel_rfl) (fun _ _ _ h => h) (Or.inl ⟨by rfl, ?_⟩) ?_ ?_
  rotate_left
  · intro w'
    go_simp
    with_reducible rfl
  rotate_left
  · simp only [Act.put, List.setIfInBounds_toArray, List.set_cons_zero, List.set_cons_succ, i64_w, i32_w]
    rfl
  refine pure_ (i := 9) (N := some 34) (v := ?_) (a' := ?_) #[true, false, false, false, false, false, false, false, false, true, false, false, false, false, false, false, false, false, false, false, false, false, false, false, false, false, false, false, false, false, false, false, false, false] rfl rfl (by kernel_rfl) (fun _ _ _ h => h) (Or.inl ⟨by rfl, ?_⟩) ?_ ?_
  rotate_left
  · intro w'
    go_simp
    with_reducible rfl
  rotate_left
  · simp only [Act.put, List.setIfInBounds_toArray, List.set_cons_zero, List.set_cons_succ, i64_w, i32_w]
    rfl
  refine pure_ (i := 17) (N := some 42) (v := ?_) (a' := ?_) #[true, false, false, false, false, false, false, false, false, true, false, false, false, false, false, false, false, true, false, false, false, false, false, false, false, false, false, false, false, false, false, false, false, false] rfl rfl (by kernel_rfl) (fun _ _ _ h => h) (Or.inl ⟨by rfl, ?_⟩) ?_ ?_
  rotate_left
  · intro w'
    go_simp
    with_reducible rfl
  rotate_left
  · simp only [Act.put, List.setIfInBounds_toArray, List.set_cons_zero, List.set_cons_succ, i64_w, i32_w]
    rfl
  refine pure_ (i := 21) (N := some 46) (v := ?_) (a' := ?_) #[true, false, false, false, false, false, false, false, false, true, false, false, false, false, false, false, false, true, false, false, false, true, false, false, false, false, false, false, false, false, false, false, false, false] rfl rfl (by kernel_rfl) (fun _ _ _ h => h) (Or.inl ⟨by rfl, ?_⟩) ?_ ?_
  rotate_left
  · intro w'
    go_simp
    with_reducible rfl
  rotate_left
  · simp only [Act.put, List.setIfInBounds_toArray, List.set_cons_zero, List.set_cons_succ, i64_w, i32_w]
    rfl
  refine pure_ (i := 22) (N := some 47) (v := ?_) (a' := ?_) #[true, false, false, false, false, false, false, false, false, true, false, false, false, false, false, false, false, true, false, false, false, true, true, false, false, false, false, false, false, false, false, false, false, false] rfl rfl (by kernel_rfl) (fun _ _ _ h => h) (Or.inl ⟨by rfl, ?_⟩) ?_ ?_
  rotate_left
  · intro w'
    go_simp
    with_reducible rfl
  rotate_left
  · simp only [Act.put, List.setIfInBounds_toArray, List.set_cons_zero, List.set_cons_succ, i64_w, i32_w]
    rfl
  refine pure_ (i := 23) (N := some 48) (v := ?_) (a' := ?_) #[true, false, false, false, false, false, false, false, false, true, false, false, false, false, false, false, false, true, false, false, false, true, true, true, false, false, false, false, false, false, false, false, false, false] rfl rfl (by kernel_rfl) (fun _ _ _ h => h) (Or.inl ⟨by rfl, ?_⟩) ?_ ?_
  rotate_left
  · intro w'
    go_simp
    with_reducible rfl
  rotate_left
  · simp only [Act.put, List.setIfInBounds_toArray, List.set_cons_zero, List.set_cons_succ, i64_w, i32_w]
    rfl
  refine pure_ (i := 26) (N := some 51) (v := ?_) (a' := ?_) #[true, false, false, false, false, false, false, false, false, true, false, false, false, false, false, false, false, true, false, false, false, true, true, true, false, false, true, false, false, false, false, false, false, false] rfl rfl (by kernel_rfl) (fun _ _ _ h => h) (Or.inl ⟨by rfl, ?_⟩) ?_ ?_
  rotate_left
  · intro w'
    go_simp
    with_reducible rfl
  rotate_left
  · simp only [Act.put, List.setIfInBounds_toArray, List.set_cons_zero, List.set_cons_succ, i64_w, i32_w]
    rfl
  refine pure_ (i := 29) (N := some 54) (v := ?_) (a' := ?_) #[true, false, false, false, false, false, false, false, false, true, false, false, false, false, false, false, false, true, false, false, false, true, true, true, false, false, true, false, false, true, false, false, false, false] rfl rfl (by kernel_rfl) (fun _ _ _ h => h) (Or.inl ⟨by rfl, ?_⟩) ?_ ?_
  rotate_left
  · intro w'
    go_simp
    with_reducible rfl
  rotate_left
  · simp only [Act.put, List.setIfInBounds_toArray, List.set_cons_zero, List.set_cons_succ, i64_w, i32_w]
    rfl
  refine pure_ (i := 30) (N := some 55) (v := ?_) (a' := ?_) #[true, false, false, false, false, false, false, false, false, true, false, false, false, false, false, false, false, true, false, false, false, true, true, true, false, false, true, false, false, true, true, false, false, false] rfl rfl (by kernel_rfl) (fun _ _ _ h => h) (Or.inl ⟨by rfl, ?_⟩) ?_ ?_
  rotate_left
  · intro w'
    go_simp
    with_reducible rfl
  rotate_left
  · simp only [Act.put, List.setIfInBounds_toArray, List.set_cons_zero, List.set_cons_succ, i64_w, i32_w]
    rfl
  refine take_ (i := 1) (N := some 26) (v := ?_) (a' := ?_) #[true, true, false, false, false, false, false, false, false, true, false, false, false, false, false, false, false, true, false, false, false, true, true, true, false, false, true, false, false, true, true, false, false, false] rfl rfl (by kernel_rfl) (fun _ _ _ h => h) (Or.inl ⟨by rfl, ?_⟩) hHeld ?_ ?_
  rotate_left
  · rintro w' ⟨s0, s1, s2, s3, s4⟩
    go_simp
    with_reducible rfl
  rotate_left
  · simp only [Act.put, List.setIfInBounds_toArray, List.set_cons_zero, List.set_cons_succ, i64_w, i32_w]
    rfl
  refine pure_ (i := 2) (N := some 27) (v := ?_) (a' := ?_) #[true, true, true, false, false, false, false, false, false, true, false, false, false, false, false, false, false, true, false, false, false, true, true, true, false, false, true, false, false, true, true, false, false, false] rfl rfl (by kernel_rfl) (fun _ _ _ h => h) (Or.inl ⟨by rfl, ?_⟩) ?_ ?_
  rotate_left
  · intro w'
    go_simp
    with_reducible rfl
  rotate_left
  · simp only [Act.put, List.setIfInBounds_toArray, List.set_cons_zero, List.set_cons_succ, i64_w, i32_w]
    rfl
  refine pure_ (i := 3) (N := some 28) (v := ?_) (a' := ?_) #[true, true, true, true, false, false, false, false, false, true, false, false, false, false, false, false, false, true, false, false, false, true, true, true, false, false, true, false, false, true, true, false, false, false] rfl rfl (by kernel_rfl) (fun _ _ _ h => h) (Or.inl ⟨by rfl, ?_⟩) ?_ ?_
  rotate_left
  · intro w'
    go_simp
    with_reducible rfl
  rotate_left
  · simp only [Act.put, List.setIfInBounds_toArray, List.set_cons_zero, List.set_cons_succ, i64_w, i32_w]
    rfl
  refine pure_ (i := 4) (N := some 29) (v := undef) (a' := ?_) #[true, true, true, true, true, false, false, false, false, true, false, false, false, false, false, false, false, true, false, false, false, true, true, true, false, false, true, false, false, true, true, false, false, false] rfl rfl (by kernel_rfl) (fun _ _ _ h => h) (Or.inr ⟨by rfl, rfl⟩) ?_ ?_
  rotate_left
  · simp only [Act.put, List.setIfInBounds_toArray, List.set_cons_zero, List.set_cons_succ, i64_w, i32_w]
    rfl
  refine pure_ (i := 5) (N := some 30) (v := undef) (a' := ?_) #[true, true, true, true, true, true, false, false, false, true, false, false, false, false, false, false, false, true, false, false, false, true, true, true, false, false, true, false, false, true, true, false, false, false] rfl rfl (by kernel_rfl) (fun _ _ _ h => h) (Or.inr ⟨by rfl, rfl⟩) ?_ ?_
  rotate_left
  · simp only [Act.put, List.setIfInBounds_toArray, List.set_cons_zero, List.set_cons_succ, i64_w, i32_w]
    rfl
  refine pure_ (i := 6) (N := some 31) (v := undef) (a' := ?_) #[true, true, true, true, true, true, true, false, false, true, false, false, false, false, false, false, false, true, false, false, false, true, true, true, false, false, true, false, false, true, true, false, false, false] rfl rfl (by kernel_rfl) (fun _ _ _ h => h) (Or.inr ⟨by rfl, rfl⟩) ?_ ?_
  rotate_left
  · simp only [Act.put, List.setIfInBounds_toArray, List.set_cons_zero, List.set_cons_succ, i64_w, i32_w]
    rfl
  refine pure_ (i := 7) (N := some 32) (v := ?_) (a' := ?_) #[true, true, true, true, true, true, true, true, false, true, false, false, false, false, false, false, false, true, false, false, false, true, true, true, false, false, true, false, false, true, true, false, false, false] rfl rfl (by kernel_rfl) (fun _ _ _ h => h) (Or.inl ⟨by rfl, ?_⟩) ?_ ?_
  rotate_left
  · intro w'
    go_simp
    with_reducible rfl
  rotate_left
  · simp only [Act.put, List.setIfInBounds_toArray, List.set_cons_zero, List.set_cons_succ, i64_w, i32_w]
    rfl
  refine pure_ (i := 8) (N := some 33) (v := ?_) (a' := ?_) #[true, true, true, true, true, true, true, true, true, true, false, false, false, false, false, false, false, true, false, false, false, true, true, true, false, false, true, false, false, true, true, false, false, false] rfl rfl (by kernel_rfl) (fun _ _ _ h => h) (Or.inl ⟨by rfl, ?_⟩) ?_ ?_
  rotate_left
  · intro w'
    go_simp
    with_reducible rfl
  rotate_left
  · simp only [Act.put, List.setIfInBounds_toArray, List.set_cons_zero, List.set_cons_succ, i64_w, i32_w]
    rfl
  refine take_ (i := 10) (N := some 35) (v := ?_) (a' := ?_) #[true, true, true, true, true, true, true, true, true, true, true, false, false, false, false, false, false, true, false, false, false, true, true, true, false, false, true, false, false, true, true, false, false, false] rfl rfl (by kernel_rfl) (fun _ _ _ h => h) (Or.inl ⟨by rfl, ?_⟩) hHeld ?_ ?_
  rotate_left
  · rintro w' ⟨s0, s1, s2, s3, s4⟩
    go_simp
    with_reducible rfl
  rotate_left
  · simp only [Act.put, List.setIfInBounds_toArray, List.set_cons_zero, List.set_cons_succ, i64_w, i32_w]
    rfl
  refine take_ (i := 18) (N := some 43) (v := ?_) (a' := ?_) #[true, true, true, true, true, true, true, true, true, true, true, false, false, false, false, false, false, true, true, false, false, true, true, true, false, false, true, false, false, true, true, false, false, false] rfl rfl (by kernel_rfl) (fun _ _ _ h => h) (Or.inl ⟨by rfl, ?_⟩) hHeld ?_ ?_
  rotate_left
  · rintro w' ⟨s0, s1, s2, s3, s4⟩
    go_simp
    with_reducible rfl
  rotate_left
  · simp only [Act.put, List.setIfInBounds_toArray, List.set_cons_zero, List.set_cons_succ, i64_w, i32_w]
    rfl
  refine pure_ (i := 19) (N := some 44) (v := ?_) (a' := ?_) #[true, true, true, true, true, true, true, true, true, true, true, false, false, false, false, false, false, true, true, true, false, true, true, true, false, false, true, false, false, true, true, false, false, false] rfl rfl (by kernel_rfl) (fun _ _ _ h => h) (Or.inl ⟨by rfl, ?_⟩) ?_ ?_
  rotate_left
  · intro w'
    go_simp
    with_reducible rfl
  rotate_left
  · simp only [Act.put, List.setIfInBounds_toArray, List.set_cons_zero, List.set_cons_succ, i64_w, i32_w]
    rfl
  refine pure_ (i := 20) (N := some 45) (v := ?_) (a' := ?_) #[true, true, true, true, true, true, true, true, true, true, true, false, false, false, false, false, false, true, true, true, true, true, true, true, false, false, true, false, false, true, true, false, false, false] rfl rfl (by kernel_rfl) (fun _ _ _ h => h) (Or.inl ⟨by rfl, ?_⟩) ?_ ?_
  rotate_left
  · intro w'
    go_simp
    with_reducible rfl
  rotate_left
  · simp only [Act.put, List.setIfInBounds_toArray, List.set_cons_zero, List.set_cons_succ, i64_w, i32_w]
    rfl
  refine one_ (i := 11) (N := some 36) #[true, true, true, true, true, true, true, true, true, true, true, true, false, false, false, false, false, true, true, true, true, true, true, true, false, false, true, false, false, true, true, false, false, false] rfl rfl (by kernel_rfl) (by decide) (fun K hK => ?_)
  refine goes_ Try.func21 (by kernel_rfl) rfl #[.int .i64 metric] (by rfl) rfl rfl (by simp only [List.map_toArray, List.map_cons, List.map_nil]; rfl) ?_
  with_reducible refine (P.metric_Known.calls metric true _ Hkn.out).mono ?_
  rintro e w11 ⟨rfl, ⟨nd, rfl⟩⟩
  refine ⟨_, rfl, ?_⟩
  refine hK.out _ _ ⟨(blk_cell (blk_drewN hHeld.2.2.2.1 nd) 1).trans rfl, (blk_cell (blk_drewN hHeld.2.2.2.1 nd) 2).trans rfl, (blk_cell (blk_drewN hHeld.2.2.2.1 nd) 5).trans rfl, blk_drewN hHeld.2.2.2.1 nd, pw_below_drewN hHeld.2.2.2.2 nd⟩ (fun hHeld => ?_)
  clear hK K
  refine norm_ (a' := ?_) ?_ ?_
  rotate_left
  · show Act.put _ (some 36) _ = _
    simp only [Act.put, List.setIfInBounds_toArray, List.set_cons_zero, List.set_cons_succ, i64_w, i32_w]
    rfl
  refine pure_ (i := 12) (N := some 37) (v := ?_) (a' := ?_) #[true, true, true, true, true, true, true, true, true, true, true, true, true, false, false, false, false, true, true, true, true, true, true, true, false, false, true, false, false, true, true, false, false, false] rfl rfl (by kernel_rfl) (fun _ _ _ h => h) (Or.inl ⟨by rfl, ?_⟩) ?_ ?_
  rotate_left
  · intro w'
    go_simp
    with_reducible rfl
  rotate_left
  · simp only [Act.put, List.setIfInBounds_toArray, List.set_cons_zero, List.set_cons_succ, i64_w, i32_w]
    rfl
  refine pure_ (i := 13) (N := some 38) (v := ?_) (a' := ?_) #[true, true, true, true, true, true, true, true, true, true, true, true, true, true, false, false, false, true, true, true, true, true, true, true, false, false, true, false, false, true, true, false, false, false] rfl rfl (by kernel_rfl) (fun _ _ _ h => h) (Or.inl ⟨by rfl, ?_⟩) ?_ ?_
  rotate_left
  · intro w'
    go_simp
    with_reducible rfl
  rotate_left
  · simp only [Act.put, List.setIfInBounds_toArray, List.set_cons_zero, List.set_cons_succ, i64_w, i32_w]
    rfl
  refine pure_ (i := 14) (N := some 39) (v := ?_) (a' := ?_) #[true, true, true, true, true, true, true, true, true, true, true, true, true, true, true, false, false, true, true, true, true, true, true, true, false, false, true, false, false, true, true, false, false, false] rfl rfl (by kernel_rfl) (fun _ _ _ h => h) (Or.inl ⟨by rfl, ?_⟩) ?_ ?_
  rotate_left
  · intro w'
    go_simp
    with_reducible rfl
  rotate_left
  · simp only [Act.put, List.setIfInBounds_toArray, List.set_cons_zero, List.set_cons_succ, i64_w, i32_w]
    rfl
  refine pure_ (i := 15) (N := some 40) (v := ?_) (a' := ?_) #[true, true, true, true, true, true, true, true, true, true, true, true, true, true, true, true, false, true, true, true, true, true, true, true, false, false, true, false, false, true, true, false, false, false] rfl rfl (by kernel_rfl) (fun _ _ _ h => h) (Or.inl ⟨by rfl, ?_⟩) ?_ ?_
  rotate_left
  · intro w'
    go_simp
    with_reducible rfl
  rotate_left
  · simp only [Act.put, List.setIfInBounds_toArray, List.set_cons_zero, List.set_cons_succ, i64_w, i32_w]
    rfl
  refine pure_ (i := 16) (N := some 41) (v := ?_) (a' := ?_) #[true, true, true, true, true, true, true, true, true, true, true, true, true, true, true, true, true, true, true, true, true, true, true, true, false, false, true, false, false, true, true, false, false, false] rfl rfl (by kernel_rfl) (fun _ _ _ h => h) (Or.inl ⟨by rfl, ?_⟩) ?_ ?_
  rotate_left
  · intro w'
    go_simp
    with_reducible rfl
  rotate_left
  · simp only [Act.put, List.setIfInBounds_toArray, List.set_cons_zero, List.set_cons_succ, i64_w, i32_w]
    rfl
  refine one_ (i := 24) (N := some 49) #[true, true, true, true, true, true, true, true, true, true, true, true, true, true, true, true, true, true, true, true, true, true, true, true, true, false, true, false, false, true, true, false, false, false] rfl rfl (by kernel_rfl) (by decide) (fun K hK => ?_)
  refine goesC_ Try.func16 (by kernel_rfl) rfl #[.func (.func 22) #[] #[], .pointer (some ⟨gb, 0, none⟩)] (by rfl) rfl rfl rfl (by simp only [List.map_toArray, List.map_cons, List.map_nil]; rfl) ?_
  with_reducible refine (none_such 22 (enters_ Try.func22 (by kernel_rfl) rfl) _ window_not A c gb l _ (Kd.C_below HR.out hHeld.2.2.2.2) ((blk_cell hHeld.2.2.2.1 6).trans rfl)).mono ?_
  rintro e w24 ⟨rfl, hb24⟩
  refine ⟨_, rfl, ?_⟩
  refine hK.out _ _ ⟨(blk_cell (blk_below hHeld.2.2.2.1 hb24) 1).trans rfl, (blk_cell (blk_below hHeld.2.2.2.1 hb24) 2).trans rfl, (blk_cell (blk_below hHeld.2.2.2.1 hb24) 5).trans rfl, blk_below hHeld.2.2.2.1 hb24, below_step hHeld.2.2.2.2 hb24⟩ (fun hHeld => ?_)
  clear hK K
  refine norm_ (a' := ?_) ?_ ?_
  rotate_left
  · show Act.put _ (some 49) _ = _
    simp only [Act.put, List.setIfInBounds_toArray, List.set_cons_zero, List.set_cons_succ, i64_w, i32_w]
    rfl
  refine pure_ (i := 25) (N := some 50) (v := ?_) (a' := ?_) #[true, true, true, true, true, true, true, true, true, true, true, true, true, true, true, true, true, true, true, true, true, true, true, true, true, true, true, false, false, true, true, false, false, false] rfl rfl (by kernel_rfl) (fun _ _ _ h => h) (Or.inl ⟨by rfl, ?_⟩) ?_ ?_
  rotate_left
  · intro w'
    go_simp
    with_reducible rfl
  rotate_left
  · simp only [Act.put, List.setIfInBounds_toArray, List.set_cons_zero, List.set_cons_succ, i64_w, i32_w]
    rfl
  refine one_ (i := 27) (N := some 52) #[true, true, true, true, true, true, true, true, true, true, true, true, true, true, true, true, true, true, true, true, true, true, true, true, true, true, true, true, false, true, true, false, false, false] rfl rfl (by kernel_rfl) (by decide) (fun K hK => ?_)
  refine goesC_ Try.func16 (by kernel_rfl) rfl #[.func (.func 23) #[] #[], .pointer (some ⟨gb, 0, none⟩)] (by rfl) rfl rfl rfl (by simp only [List.map_toArray, List.map_cons, List.map_nil]; rfl) ?_
  with_reducible refine (none_such 23 (enters_ Try.func23 (by kernel_rfl) rfl) _ service_not A c gb l _ (Kd.C_below HR.out hHeld.2.2.2.2) ((blk_cell hHeld.2.2.2.1 6).trans rfl)).mono ?_
  rintro e w24 ⟨rfl, hb24⟩
  refine ⟨_, rfl, ?_⟩
  refine hK.out _ _ ⟨(blk_cell (blk_below hHeld.2.2.2.1 hb24) 1).trans rfl, (blk_cell (blk_below hHeld.2.2.2.1 hb24) 2).trans rfl, (blk_cell (blk_below hHeld.2.2.2.1 hb24) 5).trans rfl, blk_below hHeld.2.2.2.1 hb24, below_step hHeld.2.2.2.2 hb24⟩ (fun hHeld => ?_)
  clear hK K
  refine norm_ (a' := ?_) ?_ ?_
  rotate_left
  · show Act.put _ (some 52) _ = _
    simp only [Act.put, List.setIfInBounds_toArray, List.set_cons_zero, List.set_cons_succ, i64_w, i32_w]
    rfl
  refine pure_ (i := 28) (N := some 53) (v := ?_) (a' := ?_) #[true, true, true, true, true, true, true, true, true, true, true, true, true, true, true, true, true, true, true, true, true, true, true, true, true, true, true, true, true, true, true, false, false, false] rfl rfl (by kernel_rfl) (fun _ _ _ h => h) (Or.inl ⟨by rfl, ?_⟩) ?_ ?_
  rotate_left
  · intro w'
    go_simp
    with_reducible rfl
  rotate_left
  · simp only [Act.put, List.setIfInBounds_toArray, List.set_cons_zero, List.set_cons_succ, i64_w, i32_w]
    rfl
  refine one_ (i := 31) (N := some 56) #[true, true, true, true, true, true, true, true, true, true, true, true, true, true, true, true, true, true, true, true, true, true, true, true, true, true, true, true, true, true, true, true, false, false] rfl rfl (by kernel_rfl) (by decide) (fun K hK => ?_)
  refine Kd.R_lit_step P.k46 _ 46 (by rfl) (N := 56) rfl (xs := ([⟨2, true⟩, ⟨3, (!(metric == 6))⟩, ⟨6, fleet == 0⟩, ⟨10, pl⟩, ⟨11, !(l.any fun d => d.f3 != 0 || d.f4 != 0)⟩, ⟨12, !(l.any fun d => d.f5 != 0)⟩, ⟨13, sg⟩] : List Look)) (inner := [.int .i64 2, .bool true, .int .i64 3, .bool (!(metric == 6)), .int .i64 6, .bool (fleet == 0), .int .i64 10, .bool pl, .int .i64 11, .bool (!(l.any fun d => d.f3 != 0 || d.f4 != 0)), .int .i64 12, .bool (!(l.any fun d => d.f5 != 0)), .int .i64 13, .bool sg]) (ok := fun _ => True) (okp := fun _ => True) ?hr (Reps.c2 (P.k46_mkM _ _ _ _) (Reps.c2 (P.k46_mkM _ _ _ _) (Reps.c2 (P.k46_mkM _ _ _ _) (Reps.c2 (P.k46_mkM _ _ _ _) (Reps.c2 (P.k46_mkM _ _ _ _) (Reps.c2 (P.k46_mkM _ _ _ _) (Reps.c2 (P.k46_mkM _ _ _ _) (Reps.none _ _)))))))) (fun _ hk => hk) trivial (Below.refl _ _) (Nat.le_refl _) (by simp) ?_
  case hr => first | (go_simp; done) | (go_simp; rfl)
  intro v1 w31 hR hb31 _ _
  have HR31 := Aside0.mk hR
  clear hR
  obtain ⟨A31, c31, e31⟩ := Kd.R_slice HR31.out
  subst e31
  refine hK.out _ _ ⟨(blk_cell (blk_below hHeld.2.2.2.1 hb31) 1).trans rfl, (blk_cell (blk_below hHeld.2.2.2.1 hb31) 2).trans rfl, (blk_cell (blk_below hHeld.2.2.2.1 hb31) 5).trans rfl, blk_below hHeld.2.2.2.1 hb31, below_step hHeld.2.2.2.2 hb31⟩ (fun hHeld => ?_)
  clear hK K
  refine norm_ (a' := ?_) ?_ ?_
  rotate_left
  · show Act.put _ (some 56) _ = _
    simp only [Act.put, List.setIfInBounds_toArray, List.set_cons_zero, List.set_cons_succ, i64_w, i32_w]
    rfl
  refine one_ (i := 32) (N := some 57) #[true, true, true, true, true, true, true, true, true, true, true, true, true, true, true, true, true, true, true, true, true, true, true, true, true, true, true, true, true, true, true, true, true, false] rfl rfl (by kernel_rfl) (by decide) (fun K hK => ?_)
  refine goes_ Try.func20 (by kernel_rfl) rfl #[.slice A31 7 c31] (by rfl) rfl rfl (by simp only [List.map_toArray, List.map_cons, List.map_nil]; rfl) ?_
  refine (P.express_lacking.calls k A31 c31 [⟨2, true⟩, ⟨3, (!(metric == 6))⟩, ⟨6, fleet == 0⟩, ⟨10, pl⟩, ⟨11, !(l.any fun d => d.f3 != 0 || d.f4 != 0)⟩, ⟨12, !(l.any fun d => d.f5 != 0)⟩, ⟨13, sg⟩] r _ (Kd.R_reads' HR31.out).2.2 (Kd.R_reads' HR31.out).2.1 H2.out).mono ?_
  rintro e w32 ⟨v32, rfl, ho32, hb32⟩
  have HO32 := Aside0.mk (Kd.R_lower ho32 (below_size hHeld.2.2.2.2))
  have HB32 := Aside0.mk (below_step hHeld.2.2.2.2 hb32)
  have BK32 := Aside0.mk (blk_below hHeld.2.2.2.1 hb32)
  clear ho32 hb32
  obtain ⟨A32, c32, e32⟩ := Kd.R_slice HO32.out
  subst e32
  refine ⟨_, rfl, ?_⟩
  refine hK.out _ _ ⟨(blk_cell (BK32.out) 1).trans rfl, (blk_cell (BK32.out) 2).trans rfl, (blk_cell (BK32.out) 5).trans rfl, BK32.out, HB32.out⟩ (fun hHeld => ?_)
  clear hK K
  refine norm_ (a' := ?_) ?_ ?_
  rotate_left
  · show Act.put _ (some 57) _ = _
    simp only [Act.put, List.setIfInBounds_toArray, List.set_cons_zero, List.set_cons_succ, i64_w, i32_w]
    rfl
  refine pure_ (i := 33) (N := some 4) (v := ?_) (a' := ?_) #[true, true, true, true, true, true, true, true, true, true, true, true, true, true, true, true, true, true, true, true, true, true, true, true, true, true, true, true, true, true, true, true, true, true] rfl rfl (by kernel_rfl) (fun _ _ _ h => h) (Or.inl ⟨by rfl, ?_⟩) ?_ ?_
  rotate_left
  · intro w'
    go_simp
    with_reducible rfl
  rotate_left
  · simp only [Act.put, List.setIfInBounds_toArray, List.set_cons_zero, List.set_cons_succ, i64_w, i32_w]
    rfl
  refine done_ (by kernel_rfl) ?_

  clear H2
  go_wp2
  go_ret
  exact ⟨_, rfl, HO32.out, HB32.out⟩

set_option maxRecDepth 100000 in
set_option maxHeartbeats 4000000 in
theorem lacks1_tf (name : ByteArray) (fmt kind metric scale cap fleet : Int) (A : Option Addr) (c : Nat) (l : List Node) (A' : Option Addr) (c' : Nat) (m : List Int) (r : List Int) (k : Nat) (w : World) (hr : Kd.C P.k40 w A l.length l) (hkn : P.metric_Known.f metric = some false) (b1 : (kind == 1) = true) (h : P.express_lacking.f k (looks1 kind metric fleet l) = some r) :
    Calls Try.prog 9 #[.int .i64 1, .agg #[.string name, .int .i64 kind, .int .i64 metric, .int .i64 scale, .int .i64 cap, .int .i64 fleet, .slice A l.length c, .slice A' m.length c']] w fun e w' =>
      ∃ v0_ : Value, e = .returned v0_ ∧ Kd.R (Kd.int .i64) 3 w' w.heap.size (fun _ => True) v0_ r ∧ Below w.heap.size w w' := by
  have hu := Try.underlying25
  have hul := Try.underlying46
  have HR := Aside0.mk hr
  clear hr
  have hk : known metric = false := Option.some.inj ((known_tells metric).symm.trans hkn)
  have Hkn := Aside0.mk hkn
  clear hkn
  have H2 : Aside0 (P.express_lacking.f k [⟨2, true⟩, ⟨3, false⟩, ⟨6, fleet == 0⟩, ⟨10, pos l⟩, ⟨11, !(l.any fun d => d.f3 != 0 || d.f4 != 0)⟩, ⟨12, !(l.any fun d => d.f5 != 0)⟩, ⟨13, single l⟩] = some r) := ⟨by
    unfold looks1 unwindowed unserved at h
    rw [b1, hk] at h
    exact h⟩
  clear h hk
  go_enter Try.func9, Try.ntmps9
  go_upto_region 1 with (((with_reducible refine gate_dst (N := 3) rfl ?_); refine box_event ?hg (N := 3) ?hd (cs := #[.string name, .int .i64 kind, .int .i64 metric, .int .i64 scale, .int .i64 cap, .int .i64 fleet, .slice A l.length c, .slice A' m.length c']) (t := 25) ?hr ?_; (case hd => rfl); (case hg => rfl); (case hr => first | (go_simp; done) | (go_simp; rfl)); intro gb hgb w1 hbox hb; have hge : Aside0 (w.heap.size ≤ gb) := ⟨by rw [hgb]; exact Nat.le_refl _⟩; have HB := Aside0.mk hb; have BK := Aside0.mk hbox; clear hgb hb hbox))
  go_wp2_with (fail)
  refine (none_such 18 (enters_ Try.func18 (by kernel_rfl) rfl) _ demand_neg A c gb l _ (Kd.C_below HR.out HB.out) ((blk_cell BK.out 6).trans rfl)).mono ?_
  rintro e w2 ⟨rfl, hb2⟩
  have BK2 := Aside0.mk (blk_below BK.out hb2)
  have HB2 := Aside0.mk (below_step HB.out hb2)
  clear hb2 HB BK
  go_wp2_with (fail)
  refine (none_such 19 (enters_ Try.func19 (by kernel_rfl) rfl) _ mate_not A c gb l _ (Kd.C_below HR.out HB2.out) ((blk_cell BK2.out 6).trans rfl)).mono ?_
  rintro e w3 ⟨rfl, hb3⟩
  have BK := Aside0.mk (blk_below BK2.out hb3)
  have HB := Aside0.mk (below_step HB2.out hb3)
  clear hb3 HB2 BK2
  obtain ⟨pl, hpl⟩ : ∃ b, b = pos l := ⟨_, rfl⟩
  obtain ⟨sg, hsg⟩ : ∃ b, b = single l := ⟨_, rfl⟩
  rw [show (!l.any fun d => decide (d.f2 < 0)) = pl from hpl.symm, show (!l.any fun d => d.f6 != 0) = sg from hsg.symm]
  rw [← hpl, ← hsg] at H2
  have Hpl := Aside0.mk hpl
  have Hsg := Aside0.mk hsg
  clear hpl hsg
  have q2 := (blk_cell BK.out 2).trans rfl
  have q5 := (blk_cell BK.out 5).trans rfl
  go_wp2_with (fail)
  go_quiet (fail)
  have HB := Aside0.mk (pw_below_drewN HB.out nq)
  have BK := Aside0.mk (blk_drewN BK.out nq)
  generalize w3.drewN nq = w4 at *
  clear q2 q5
  go_wp2_with fail
  refine start_ (n := 34) (S := fun w' => w'.cell? ⟨gb, 1, none⟩ = some (.int .i64 kind) ∧ w'.cell? ⟨gb, 2, none⟩ = some (.int .i64 metric) ∧ w'.cell? ⟨gb, 5, none⟩ = some (.int .i64 fleet) ∧ w'.heap[gb]? = some (.cells #[.string name, .int .i64 kind, .int .i64 metric, .int .i64 scale, .int .i64 cap, .int .i64 fleet, .slice A l.length c, .slice A' m.length c'] 25 (0, 0)) ∧ Below w.heap.size w w') (ds := []) #[false, false, false, false, false, false, false, false, false, false, false, false, false, false, false, false, false, false, false, false, false, false, false, false, false, false, false, false, false, false, false, false, false, false] (by kernel_rfl) rfl rfl ⟨(blk_cell (blk_drew BK.out) 1).trans rfl, (blk_cell (blk_drew BK.out) 2).trans rfl, (blk_cell (blk_drew BK.out) 5).trans rfl, blk_drew BK.out, below_drew HB.out⟩ (fun hHeld => ?_)
  refine pure_ (i := 0) (N := some 25) (v := ?_) (a' := ?_) #[true, false, false, false, false, false, false, false, false, false, false, false, false, false, false, false, false, false, false, false, false, false, false, false, false, false, false, false, false, false, false, false, false, false] rfl rfl (by kernel_rfl) (fun _ _ _ h => h) (Or.inl ⟨by rfl, ?_⟩) ?_ ?_
  rotate_left
  · intro w'
    go_simp
    with_reducible rfl
  rotate_left
  · simp only [Act.put, List.setIfInBounds_toArray, List.set_cons_zero, List.set_cons_succ, i64_w, i32_w]
    rfl
  refine pure_ (i := 9) (N := some 34) (v := ?_) (a' := ?_) #[true, false, false, false, false, false, false, false, false, true, false, false, false, false, false, false, false, false, false, false, false, false, false, false, false, false, false, false, false, false, false, false, false, false] rfl rfl (by kernel_rfl) (fun _ _ _ h => h) (Or.inl ⟨by rfl, ?_⟩) ?_ ?_
  rotate_left
  · intro w'
    go_simp
    with_reducible rfl
  rotate_left
  · simp only [Act.put, List.setIfInBounds_toArray, List.set_cons_zero, List.set_cons_succ, i64_w, i32_w]
    rfl
  refine pure_ (i := 17) (N := some 42) (v := ?_) (a' := ?_) #[true, false, false, false, false, false, false, false, false, true, false, false, false, false, false, false, false, true, false, false, false, false, false, false, false, false, false, false, false, false, false, false, false, false] rfl rfl (by kernel_rfl) (fun _ _ _ h => h) (Or.inl ⟨by rfl, ?_⟩) ?_ ?_
  rotate_left
  · intro w'
    go_simp
    with_reducible rfl
  rotate_left
  · simp only [Act.put, List.setIfInBounds_toArray, List.set_cons_zero, List.set_cons_succ, i64_w, i32_w]
    rfl
  refine pure_ (i := 21) (N := some 46) (v := ?_) (a' := ?_) #[true, false, false, false, false, false, false, false, false, true, false, false, false, false, false, false, false, true, false, false, false, true, false, false, false, false, false, false, false, false, false, false, false, false] rfl rfl (by kernel_rfl) (fun _ _ _ h => h) (Or.inl ⟨by rfl, ?_⟩) ?_ ?_
  rotate_left
  · intro w'
    go_simp
    with_reducible rfl
  rotate_left
  · simp only [Act.put, List.setIfInBounds_toArray, List.set_cons_zero, List.set_cons_succ, i64_w, i32_w]
    rfl
  refine pure_ (i := 22) (N := some 47) (v := ?_) (a' := ?_) #[true, false, false, false, false, false, false, false, false, true, false, false, false, false, false, false, false, true, false, false, false, true, true, false, false, false, false, false, false, false, false, false, false, false] rfl rfl (by kernel_rfl) (fun _ _ _ h => h) (Or.inl ⟨by rfl, ?_⟩) ?_ ?_
  rotate_left
  · intro w'
    go_simp
    with_reducible rfl
  rotate_left
  · simp only [Act.put, List.setIfInBounds_toArray, List.set_cons_zero, List.set_cons_succ, i64_w, i32_w]
    rfl
  refine pure_ (i := 23) (N := some 48) (v := ?_) (a' := ?_) #[true, false, false, false, false, false, false, false, false, true, false, false, false, false, false, false, false, true, false, false, false, true, true, true, false, false, false, false, false, false, false, false, false, false] rfl rfl (by kernel_rfl) (fun _ _ _ h => h) (Or.inl ⟨by rfl, ?_⟩) ?_ ?_
  rotate_left
  · intro w'
    go_simp
    with_reducible rfl
  rotate_left
  · simp only [Act.put, List.setIfInBounds_toArray, List.set_cons_zero, List.set_cons_succ, i64_w, i32_w]
    rfl
  refine pure_ (i := 26) (N := some 51) (v := ?_) (a' := ?_) #[true, false, false, false, false, false, false, false, false, true, false, false, false, false, false, false, false, true, false, false, false, true, true, true, false, false, true, false, false, false, false, false, false, false] rfl rfl (by kernel_rfl) (fun _ _ _ h => h) (Or.inl ⟨by rfl, ?_⟩) ?_ ?_
  rotate_left
  · intro w'
    go_simp
    with_reducible rfl
  rotate_left
  · simp only [Act.put, List.setIfInBounds_toArray, List.set_cons_zero, List.set_cons_succ, i64_w, i32_w]
    rfl
  refine pure_ (i := 29) (N := some 54) (v := ?_) (a' := ?_) #[true, false, false, false, false, false, false, false, false, true, false, false, false, false, false, false, false, true, false, false, false, true, true, true, false, false, true, false, false, true, false, false, false, false] rfl rfl (by kernel_rfl) (fun _ _ _ h => h) (Or.inl ⟨by rfl, ?_⟩) ?_ ?_
  rotate_left
  · intro w'
    go_simp
    with_reducible rfl
  rotate_left
  · simp only [Act.put, List.setIfInBounds_toArray, List.set_cons_zero, List.set_cons_succ, i64_w, i32_w]
    rfl
  refine pure_ (i := 30) (N := some 55) (v := ?_) (a' := ?_) #[true, false, false, false, false, false, false, false, false, true, false, false, false, false, false, false, false, true, false, false, false, true, true, true, false, false, true, false, false, true, true, false, false, false] rfl rfl (by kernel_rfl) (fun _ _ _ h => h) (Or.inl ⟨by rfl, ?_⟩) ?_ ?_
  rotate_left
  · intro w'
    go_simp
    with_reducible rfl
  rotate_left
  · simp only [Act.put, List.setIfInBounds_toArray, List.set_cons_zero, List.set_cons_succ, i64_w, i32_w]
    rfl
  refine take_ (i := 1) (N := some 26) (v := ?_) (a' := ?_) #[true, true, false, false, false, false, false, false, false, true, false, false, false, false, false, false, false, true, false, false, false, true, true, true, false, false, true, false, false, true, true, false, false, false] rfl rfl (by kernel_rfl) (fun _ _ _ h => h) (Or.inl ⟨by rfl, ?_⟩) hHeld ?_ ?_
  rotate_left
  · rintro w' ⟨s0, s1, s2, s3, s4⟩
    go_simp
    with_reducible rfl
  rotate_left
  · simp only [Act.put, List.setIfInBounds_toArray, List.set_cons_zero, List.set_cons_succ, i64_w, i32_w]
    rfl
  refine pure_ (i := 2) (N := some 27) (v := ?_) (a' := ?_) #[true, true, true, false, false, false, false, false, false, true, false, false, false, false, false, false, false, true, false, false, false, true, true, true, false, false, true, false, false, true, true, false, false, false] rfl rfl (by kernel_rfl) (fun _ _ _ h => h) (Or.inl ⟨by rfl, ?_⟩) ?_ ?_
  rotate_left
  · intro w'
    go_simp
    with_reducible rfl
  rotate_left
  · simp only [Act.put, List.setIfInBounds_toArray, List.set_cons_zero, List.set_cons_succ, i64_w, i32_w]
    rfl
  refine pure_ (i := 3) (N := some 28) (v := ?_) (a' := ?_) #[true, true, true, true, false, false, false, false, false, true, false, false, false, false, false, false, false, true, false, false, false, true, true, true, false, false, true, false, false, true, true, false, false, false] rfl rfl (by kernel_rfl) (fun _ _ _ h => h) (Or.inl ⟨by rfl, ?_⟩) ?_ ?_
  rotate_left
  · intro w'
    go_simp
    with_reducible rfl
  rotate_left
  · simp only [Act.put, List.setIfInBounds_toArray, List.set_cons_zero, List.set_cons_succ, i64_w, i32_w]
    rfl
  refine pure_ (i := 4) (N := some 29) (v := undef) (a' := ?_) #[true, true, true, true, true, false, false, false, false, true, false, false, false, false, false, false, false, true, false, false, false, true, true, true, false, false, true, false, false, true, true, false, false, false] rfl rfl (by kernel_rfl) (fun _ _ _ h => h) (Or.inr ⟨by rfl, rfl⟩) ?_ ?_
  rotate_left
  · simp only [Act.put, List.setIfInBounds_toArray, List.set_cons_zero, List.set_cons_succ, i64_w, i32_w]
    rfl
  refine pure_ (i := 5) (N := some 30) (v := undef) (a' := ?_) #[true, true, true, true, true, true, false, false, false, true, false, false, false, false, false, false, false, true, false, false, false, true, true, true, false, false, true, false, false, true, true, false, false, false] rfl rfl (by kernel_rfl) (fun _ _ _ h => h) (Or.inr ⟨by rfl, rfl⟩) ?_ ?_
  rotate_left
  · simp only [Act.put, List.setIfInBounds_toArray, List.set_cons_zero, List.set_cons_succ, i64_w, i32_w]
    rfl
  refine pure_ (i := 6) (N := some 31) (v := undef) (a' := ?_) #[true, true, true, true, true, true, true, false, false, true, false, false, false, false, false, false, false, true, false, false, false, true, true, true, false, false, true, false, false, true, true, false, false, false] rfl rfl (by kernel_rfl) (fun _ _ _ h => h) (Or.inr ⟨by rfl, rfl⟩) ?_ ?_
  rotate_left
  · simp only [Act.put, List.setIfInBounds_toArray, List.set_cons_zero, List.set_cons_succ, i64_w, i32_w]
    rfl
  refine pure_ (i := 7) (N := some 32) (v := ?_) (a' := ?_) #[true, true, true, true, true, true, true, true, false, true, false, false, false, false, false, false, false, true, false, false, false, true, true, true, false, false, true, false, false, true, true, false, false, false] rfl rfl (by kernel_rfl) (fun _ _ _ h => h) (Or.inl ⟨by rfl, ?_⟩) ?_ ?_
  rotate_left
  · intro w'
    go_simp
    with_reducible rfl
  rotate_left
  · simp only [Act.put, List.setIfInBounds_toArray, List.set_cons_zero, List.set_cons_succ, i64_w, i32_w]
    rfl
  refine pure_ (i := 8) (N := some 33) (v := ?_) (a' := ?_) #[true, true, true, true, true, true, true, true, true, true, false, false, false, false, false, false, false, true, false, false, false, true, true, true, false, false, true, false, false, true, true, false, false, false] rfl rfl (by kernel_rfl) (fun _ _ _ h => h) (Or.inl ⟨by rfl, ?_⟩) ?_ ?_
  rotate_left
  · intro w'
    go_simp
    with_reducible rfl
  rotate_left
  · simp only [Act.put, List.setIfInBounds_toArray, List.set_cons_zero, List.set_cons_succ, i64_w, i32_w]
    rfl
  refine take_ (i := 10) (N := some 35) (v := ?_) (a' := ?_) #[true, true, true, true, true, true, true, true, true, true, true, false, false, false, false, false, false, true, false, false, false, true, true, true, false, false, true, false, false, true, true, false, false, false] rfl rfl (by kernel_rfl) (fun _ _ _ h => h) (Or.inl ⟨by rfl, ?_⟩) hHeld ?_ ?_
  rotate_left
  · rintro w' ⟨s0, s1, s2, s3, s4⟩
    go_simp
    with_reducible rfl
  rotate_left
  · simp only [Act.put, List.setIfInBounds_toArray, List.set_cons_zero, List.set_cons_succ, i64_w, i32_w]
    rfl
  refine take_ (i := 18) (N := some 43) (v := ?_) (a' := ?_) #[true, true, true, true, true, true, true, true, true, true, true, false, false, false, false, false, false, true, true, false, false, true, true, true, false, false, true, false, false, true, true, false, false, false] rfl rfl (by kernel_rfl) (fun _ _ _ h => h) (Or.inl ⟨by rfl, ?_⟩) hHeld ?_ ?_
  rotate_left
  · rintro w' ⟨s0, s1, s2, s3, s4⟩
    go_simp
    with_reducible rfl
  rotate_left
  · simp only [Act.put, List.setIfInBounds_toArray, List.set_cons_zero, List.set_cons_succ, i64_w, i32_w]
    rfl
  refine pure_ (i := 19) (N := some 44) (v := ?_) (a' := ?_) #[true, true, true, true, true, true, true, true, true, true, true, false, false, false, false, false, false, true, true, true, false, true, true, true, false, false, true, false, false, true, true, false, false, false] rfl rfl (by kernel_rfl) (fun _ _ _ h => h) (Or.inl ⟨by rfl, ?_⟩) ?_ ?_
  rotate_left
  · intro w'
    go_simp
    with_reducible rfl
  rotate_left
  · simp only [Act.put, List.setIfInBounds_toArray, List.set_cons_zero, List.set_cons_succ, i64_w, i32_w]
    rfl
  refine pure_ (i := 20) (N := some 45) (v := ?_) (a' := ?_) #[true, true, true, true, true, true, true, true, true, true, true, false, false, false, false, false, false, true, true, true, true, true, true, true, false, false, true, false, false, true, true, false, false, false] rfl rfl (by kernel_rfl) (fun _ _ _ h => h) (Or.inl ⟨by rfl, ?_⟩) ?_ ?_
  rotate_left
  · intro w'
    go_simp
    with_reducible rfl
  rotate_left
  · simp only [Act.put, List.setIfInBounds_toArray, List.set_cons_zero, List.set_cons_succ, i64_w, i32_w]
    rfl
  refine one_ (i := 11) (N := some 36) #[true, true, true, true, true, true, true, true, true, true, true, true, false, false, false, false, false, true, true, true, true, true, true, true, false, false, true, false, false, true, true, false, false, false] rfl rfl (by kernel_rfl) (by decide) (fun K hK => ?_)
  refine goes_ Try.func21 (by kernel_rfl) rfl #[.int .i64 metric] (by rfl) rfl rfl (by simp only [List.map_toArray, List.map_cons, List.map_nil]; rfl) ?_
  with_reducible refine (P.metric_Known.calls metric false _ Hkn.out).mono ?_
  rintro e w11 ⟨rfl, ⟨nd, rfl⟩⟩
  refine ⟨_, rfl, ?_⟩
  refine hK.out _ _ ⟨(blk_cell (blk_drewN hHeld.2.2.2.1 nd) 1).trans rfl, (blk_cell (blk_drewN hHeld.2.2.2.1 nd) 2).trans rfl, (blk_cell (blk_drewN hHeld.2.2.2.1 nd) 5).trans rfl, blk_drewN hHeld.2.2.2.1 nd, pw_below_drewN hHeld.2.2.2.2 nd⟩ (fun hHeld => ?_)
  clear hK K
  refine norm_ (a' := ?_) ?_ ?_
  rotate_left
  · show Act.put _ (some 36) _ = _
    simp only [Act.put, List.setIfInBounds_toArray, List.set_cons_zero, List.set_cons_succ, i64_w, i32_w]
    rfl
  refine pure_ (i := 12) (N := some 37) (v := ?_) (a' := ?_) #[true, true, true, true, true, true, true, true, true, true, true, true, true, false, false, false, false, true, true, true, true, true, true, true, false, false, true, false, false, true, true, false, false, false] rfl rfl (by kernel_rfl) (fun _ _ _ h => h) (Or.inl ⟨by rfl, ?_⟩) ?_ ?_
  rotate_left
  · intro w'
    go_simp
    with_reducible rfl
  rotate_left
  · simp only [Act.put, List.setIfInBounds_toArray, List.set_cons_zero, List.set_cons_succ, i64_w, i32_w]
    rfl
  refine pure_ (i := 13) (N := some 38) (v := undef) (a' := ?_) #[true, true, true, true, true, true, true, true, true, true, true, true, true, true, false, false, false, true, true, true, true, true, true, true, false, false, true, false, false, true, true, false, false, false] rfl rfl (by kernel_rfl) (fun _ _ _ h => h) (Or.inr ⟨by rfl, rfl⟩) ?_ ?_
  rotate_left
  · simp only [Act.put, List.setIfInBounds_toArray, List.set_cons_zero, List.set_cons_succ, i64_w, i32_w]
    rfl
  refine pure_ (i := 14) (N := some 39) (v := undef) (a' := ?_) #[true, true, true, true, true, true, true, true, true, true, true, true, true, true, true, false, false, true, true, true, true, true, true, true, false, false, true, false, false, true, true, false, false, false] rfl rfl (by kernel_rfl) (fun _ _ _ h => h) (Or.inr ⟨by rfl, rfl⟩) ?_ ?_
  rotate_left
  · simp only [Act.put, List.setIfInBounds_toArray, List.set_cons_zero, List.set_cons_succ, i64_w, i32_w]
    rfl
  refine pure_ (i := 15) (N := some 40) (v := ?_) (a' := ?_) #[true, true, true, true, true, true, true, true, true, true, true, true, true, true, true, true, false, true, true, true, true, true, true, true, false, false, true, false, false, true, true, false, false, false] rfl rfl (by kernel_rfl) (fun _ _ _ h => h) (Or.inl ⟨by rfl, ?_⟩) ?_ ?_
  rotate_left
  · intro w'
    go_simp
    with_reducible rfl
  rotate_left
  · simp only [Act.put, List.setIfInBounds_toArray, List.set_cons_zero, List.set_cons_succ, i64_w, i32_w]
    rfl
  refine pure_ (i := 16) (N := some 41) (v := ?_) (a' := ?_) #[true, true, true, true, true, true, true, true, true, true, true, true, true, true, true, true, true, true, true, true, true, true, true, true, false, false, true, false, false, true, true, false, false, false] rfl rfl (by kernel_rfl) (fun _ _ _ h => h) (Or.inl ⟨by rfl, ?_⟩) ?_ ?_
  rotate_left
  · intro w'
    go_simp
    with_reducible rfl
  rotate_left
  · simp only [Act.put, List.setIfInBounds_toArray, List.set_cons_zero, List.set_cons_succ, i64_w, i32_w]
    rfl
  refine one_ (i := 24) (N := some 49) #[true, true, true, true, true, true, true, true, true, true, true, true, true, true, true, true, true, true, true, true, true, true, true, true, true, false, true, false, false, true, true, false, false, false] rfl rfl (by kernel_rfl) (by decide) (fun K hK => ?_)
  refine goesC_ Try.func16 (by kernel_rfl) rfl #[.func (.func 22) #[] #[], .pointer (some ⟨gb, 0, none⟩)] (by rfl) rfl rfl rfl (by simp only [List.map_toArray, List.map_cons, List.map_nil]; rfl) ?_
  with_reducible refine (none_such 22 (enters_ Try.func22 (by kernel_rfl) rfl) _ window_not A c gb l _ (Kd.C_below HR.out hHeld.2.2.2.2) ((blk_cell hHeld.2.2.2.1 6).trans rfl)).mono ?_
  rintro e w24 ⟨rfl, hb24⟩
  refine ⟨_, rfl, ?_⟩
  refine hK.out _ _ ⟨(blk_cell (blk_below hHeld.2.2.2.1 hb24) 1).trans rfl, (blk_cell (blk_below hHeld.2.2.2.1 hb24) 2).trans rfl, (blk_cell (blk_below hHeld.2.2.2.1 hb24) 5).trans rfl, blk_below hHeld.2.2.2.1 hb24, below_step hHeld.2.2.2.2 hb24⟩ (fun hHeld => ?_)
  clear hK K
  refine norm_ (a' := ?_) ?_ ?_
  rotate_left
  · show Act.put _ (some 49) _ = _
    simp only [Act.put, List.setIfInBounds_toArray, List.set_cons_zero, List.set_cons_succ, i64_w, i32_w]
    rfl
  refine pure_ (i := 25) (N := some 50) (v := ?_) (a' := ?_) #[true, true, true, true, true, true, true, true, true, true, true, true, true, true, true, true, true, true, true, true, true, true, true, true, true, true, true, false, false, true, true, false, false, false] rfl rfl (by kernel_rfl) (fun _ _ _ h => h) (Or.inl ⟨by rfl, ?_⟩) ?_ ?_
  rotate_left
  · intro w'
    go_simp
    with_reducible rfl
  rotate_left
  · simp only [Act.put, List.setIfInBounds_toArray, List.set_cons_zero, List.set_cons_succ, i64_w, i32_w]
    rfl
  refine one_ (i := 27) (N := some 52) #[true, true, true, true, true, true, true, true, true, true, true, true, true, true, true, true, true, true, true, true, true, true, true, true, true, true, true, true, false, true, true, false, false, false] rfl rfl (by kernel_rfl) (by decide) (fun K hK => ?_)
  refine goesC_ Try.func16 (by kernel_rfl) rfl #[.func (.func 23) #[] #[], .pointer (some ⟨gb, 0, none⟩)] (by rfl) rfl rfl rfl (by simp only [List.map_toArray, List.map_cons, List.map_nil]; rfl) ?_
  with_reducible refine (none_such 23 (enters_ Try.func23 (by kernel_rfl) rfl) _ service_not A c gb l _ (Kd.C_below HR.out hHeld.2.2.2.2) ((blk_cell hHeld.2.2.2.1 6).trans rfl)).mono ?_
  rintro e w24 ⟨rfl, hb24⟩
  refine ⟨_, rfl, ?_⟩
  refine hK.out _ _ ⟨(blk_cell (blk_below hHeld.2.2.2.1 hb24) 1).trans rfl, (blk_cell (blk_below hHeld.2.2.2.1 hb24) 2).trans rfl, (blk_cell (blk_below hHeld.2.2.2.1 hb24) 5).trans rfl, blk_below hHeld.2.2.2.1 hb24, below_step hHeld.2.2.2.2 hb24⟩ (fun hHeld => ?_)
  clear hK K
  refine norm_ (a' := ?_) ?_ ?_
  rotate_left
  · show Act.put _ (some 52) _ = _
    simp only [Act.put, List.setIfInBounds_toArray, List.set_cons_zero, List.set_cons_succ, i64_w, i32_w]
    rfl
  refine pure_ (i := 28) (N := some 53) (v := ?_) (a' := ?_) #[true, true, true, true, true, true, true, true, true, true, true, true, true, true, true, true, true, true, true, true, true, true, true, true, true, true, true, true, true, true, true, false, false, false] rfl rfl (by kernel_rfl) (fun _ _ _ h => h) (Or.inl ⟨by rfl, ?_⟩) ?_ ?_
  rotate_left
  · intro w'
    go_simp
    with_reducible rfl
  rotate_left
  · simp only [Act.put, List.setIfInBounds_toArray, List.set_cons_zero, List.set_cons_succ, i64_w, i32_w]
    rfl
  refine one_ (i := 31) (N := some 56) #[true, true, true, true, true, true, true, true, true, true, true, true, true, true, true, true, true, true, true, true, true, true, true, true, true, true, true, true, true, true, true, true, false, false] rfl rfl (by kernel_rfl) (by decide) (fun K hK => ?_)
  refine Kd.R_lit_step P.k46 _ 46 (by rfl) (N := 56) rfl (xs := ([⟨2, true⟩, ⟨3, false⟩, ⟨6, fleet == 0⟩, ⟨10, pl⟩, ⟨11, !(l.any fun d => d.f3 != 0 || d.f4 != 0)⟩, ⟨12, !(l.any fun d => d.f5 != 0)⟩, ⟨13, sg⟩] : List Look)) (inner := [.int .i64 2, .bool true, .int .i64 3, .bool false, .int .i64 6, .bool (fleet == 0), .int .i64 10, .bool pl, .int .i64 11, .bool (!(l.any fun d => d.f3 != 0 || d.f4 != 0)), .int .i64 12, .bool (!(l.any fun d => d.f5 != 0)), .int .i64 13, .bool sg]) (ok := fun _ => True) (okp := fun _ => True) ?hr (Reps.c2 (P.k46_mkM _ _ _ _) (Reps.c2 (P.k46_mkM _ _ _ _) (Reps.c2 (P.k46_mkM _ _ _ _) (Reps.c2 (P.k46_mkM _ _ _ _) (Reps.c2 (P.k46_mkM _ _ _ _) (Reps.c2 (P.k46_mkM _ _ _ _) (Reps.c2 (P.k46_mkM _ _ _ _) (Reps.none _ _)))))))) (fun _ hk => hk) trivial (Below.refl _ _) (Nat.le_refl _) (by simp) ?_
  case hr => first | (go_simp; done) | (go_simp; rfl)
  intro v1 w31 hR hb31 _ _
  have HR31 := Aside0.mk hR
  clear hR
  obtain ⟨A31, c31, e31⟩ := Kd.R_slice HR31.out
  subst e31
  refine hK.out _ _ ⟨(blk_cell (blk_below hHeld.2.2.2.1 hb31) 1).trans rfl, (blk_cell (blk_below hHeld.2.2.2.1 hb31) 2).trans rfl, (blk_cell (blk_below hHeld.2.2.2.1 hb31) 5).trans rfl, blk_below hHeld.2.2.2.1 hb31, below_step hHeld.2.2.2.2 hb31⟩ (fun hHeld => ?_)
  clear hK K
  refine norm_ (a' := ?_) ?_ ?_
  rotate_left
  · show Act.put _ (some 56) _ = _
    simp only [Act.put, List.setIfInBounds_toArray, List.set_cons_zero, List.set_cons_succ, i64_w, i32_w]
    rfl
  refine one_ (i := 32) (N := some 57) #[true, true, true, true, true, true, true, true, true, true, true, true, true, true, true, true, true, true, true, true, true, true, true, true, true, true, true, true, true, true, true, true, true, false] rfl rfl (by kernel_rfl) (by decide) (fun K hK => ?_)
  refine goes_ Try.func20 (by kernel_rfl) rfl #[.slice A31 7 c31] (by rfl) rfl rfl (by simp only [List.map_toArray, List.map_cons, List.map_nil]; rfl) ?_
  refine (P.express_lacking.calls k A31 c31 [⟨2, true⟩, ⟨3, false⟩, ⟨6, fleet == 0⟩, ⟨10, pl⟩, ⟨11, !(l.any fun d => d.f3 != 0 || d.f4 != 0)⟩, ⟨12, !(l.any fun d => d.f5 != 0)⟩, ⟨13, sg⟩] r _ (Kd.R_reads' HR31.out).2.2 (Kd.R_reads' HR31.out).2.1 H2.out).mono ?_
  rintro e w32 ⟨v32, rfl, ho32, hb32⟩
  have HO32 := Aside0.mk (Kd.R_lower ho32 (below_size hHeld.2.2.2.2))
  have HB32 := Aside0.mk (below_step hHeld.2.2.2.2 hb32)
  have BK32 := Aside0.mk (blk_below hHeld.2.2.2.1 hb32)
  clear ho32 hb32
  obtain ⟨A32, c32, e32⟩ := Kd.R_slice HO32.out
  subst e32
  refine ⟨_, rfl, ?_⟩
  refine hK.out _ _ ⟨(blk_cell (BK32.out) 1).trans rfl, (blk_cell (BK32.out) 2).trans rfl, (blk_cell (BK32.out) 5).trans rfl, BK32.out, HB32.out⟩ (fun hHeld => ?_)
  clear hK K
  refine norm_ (a' := ?_) ?_ ?_
  rotate_left
  · show Act.put _ (some 57) _ = _
    simp only [Act.put, List.setIfInBounds_toArray, List.set_cons_zero, List.set_cons_succ, i64_w, i32_w]
    rfl
  refine pure_ (i := 33) (N := some 4) (v := ?_) (a' := ?_) #[true, true, true, true, true, true, true, true, true, true, true, true, true, true, true, true, true, true, true, true, true, true, true, true, true, true, true, true, true, true, true, true, true, true] rfl rfl (by kernel_rfl) (fun _ _ _ h => h) (Or.inl ⟨by rfl, ?_⟩) ?_ ?_
  rotate_left
  · intro w'
    go_simp
    with_reducible rfl
  rotate_left
  · simp only [Act.put, List.setIfInBounds_toArray, List.set_cons_zero, List.set_cons_succ, i64_w, i32_w]
    rfl
  refine done_ (by kernel_rfl) ?_

  clear H2
  go_wp2
  go_ret
  exact ⟨_, rfl, HO32.out, HB32.out⟩

set_option maxRecDepth 100000 in
set_option maxHeartbeats 4000000 in
theorem lacks1_ft (name : ByteArray) (fmt kind metric scale cap fleet : Int) (A : Option Addr) (c : Nat) (l : List Node) (A' : Option Addr) (c' : Nat) (m : List Int) (r : List Int) (k : Nat) (w : World) (hr : Kd.C P.k40 w A l.length l) (hkn : P.metric_Known.f metric = some true) (b1 : (kind == 1) = false) (h : P.express_lacking.f k (looks1 kind metric fleet l) = some r) :
    Calls Try.prog 9 #[.int .i64 1, .agg #[.string name, .int .i64 kind, .int .i64 metric, .int .i64 scale, .int .i64 cap, .int .i64 fleet, .slice A l.length c, .slice A' m.length c']] w fun e w' =>
      ∃ v0_ : Value, e = .returned v0_ ∧ Kd.R (Kd.int .i64) 3 w' w.heap.size (fun _ => True) v0_ r ∧ Below w.heap.size w w' := by
  have hu := Try.underlying25
  have hul := Try.underlying46
  have HR := Aside0.mk hr
  clear hr
  have hk : known metric = true := Option.some.inj ((known_tells metric).symm.trans hkn)
  have Hkn := Aside0.mk hkn
  clear hkn
  have H2 : Aside0 (P.express_lacking.f k [⟨2, (kind == 2)⟩, ⟨3, (!(metric == 6))⟩, ⟨6, fleet == 0⟩, ⟨10, pos l⟩, ⟨11, !(l.any fun d => d.f3 != 0 || d.f4 != 0)⟩, ⟨12, !(l.any fun d => d.f5 != 0)⟩, ⟨13, single l⟩] = some r) := ⟨by
    unfold looks1 unwindowed unserved at h
    rw [b1, hk] at h
    exact h⟩
  clear h hk
  go_enter Try.func9, Try.ntmps9
  go_upto_region 1 with (((with_reducible refine gate_dst (N := 3) rfl ?_); refine box_event ?hg (N := 3) ?hd (cs := #[.string name, .int .i64 kind, .int .i64 metric, .int .i64 scale, .int .i64 cap, .int .i64 fleet, .slice A l.length c, .slice A' m.length c']) (t := 25) ?hr ?_; (case hd => rfl); (case hg => rfl); (case hr => first | (go_simp; done) | (go_simp; rfl)); intro gb hgb w1 hbox hb; have hge : Aside0 (w.heap.size ≤ gb) := ⟨by rw [hgb]; exact Nat.le_refl _⟩; have HB := Aside0.mk hb; have BK := Aside0.mk hbox; clear hgb hb hbox))
  go_wp2_with (fail)
  refine (none_such 18 (enters_ Try.func18 (by kernel_rfl) rfl) _ demand_neg A c gb l _ (Kd.C_below HR.out HB.out) ((blk_cell BK.out 6).trans rfl)).mono ?_
  rintro e w2 ⟨rfl, hb2⟩
  have BK2 := Aside0.mk (blk_below BK.out hb2)
  have HB2 := Aside0.mk (below_step HB.out hb2)
  clear hb2 HB BK
  go_wp2_with (fail)
  refine (none_such 19 (enters_ Try.func19 (by kernel_rfl) rfl) _ mate_not A c gb l _ (Kd.C_below HR.out HB2.out) ((blk_cell BK2.out 6).trans rfl)).mono ?_
  rintro e w3 ⟨rfl, hb3⟩
  have BK := Aside0.mk (blk_below BK2.out hb3)
  have HB := Aside0.mk (below_step HB2.out hb3)
  clear hb3 HB2 BK2
  obtain ⟨pl, hpl⟩ : ∃ b, b = pos l := ⟨_, rfl⟩
  obtain ⟨sg, hsg⟩ : ∃ b, b = single l := ⟨_, rfl⟩
  rw [show (!l.any fun d => decide (d.f2 < 0)) = pl from hpl.symm, show (!l.any fun d => d.f6 != 0) = sg from hsg.symm]
  rw [← hpl, ← hsg] at H2
  have Hpl := Aside0.mk hpl
  have Hsg := Aside0.mk hsg
  clear hpl hsg
  have q2 := (blk_cell BK.out 2).trans rfl
  have q5 := (blk_cell BK.out 5).trans rfl
  go_wp2_with (fail)
  go_quiet (fail)
  have HB := Aside0.mk (pw_below_drewN HB.out nq)
  have BK := Aside0.mk (blk_drewN BK.out nq)
  generalize w3.drewN nq = w4 at *
  clear q2 q5
  go_wp2_with fail
  refine start_ (n := 34) (S := fun w' => w'.cell? ⟨gb, 1, none⟩ = some (.int .i64 kind) ∧ w'.cell? ⟨gb, 2, none⟩ = some (.int .i64 metric) ∧ w'.cell? ⟨gb, 5, none⟩ = some (.int .i64 fleet) ∧ w'.heap[gb]? = some (.cells #[.string name, .int .i64 kind, .int .i64 metric, .int .i64 scale, .int .i64 cap, .int .i64 fleet, .slice A l.length c, .slice A' m.length c'] 25 (0, 0)) ∧ Below w.heap.size w w') (ds := []) #[false, false, false, false, false, false, false, false, false, false, false, false, false, false, false, false, false, false, false, false, false, false, false, false, false, false, false, false, false, false, false, false, false, false] (by kernel_rfl) rfl rfl ⟨(blk_cell (blk_drew BK.out) 1).trans rfl, (blk_cell (blk_drew BK.out) 2).trans rfl, (blk_cell (blk_drew BK.out) 5).trans rfl, blk_drew BK.out, below_drew HB.out⟩ (fun hHeld => ?_)
  refine pure_ (i := 0) (N := some 25) (v := ?_) (a' := ?_) #[true, false, false, false, false, false, false, false, false, false, false, false, false, false, false, false, false, false, false, false, false, false, false, false, false, false, false, false, false, false, false, false, false, false] rfl rfl (by kernel_rfl) (fun _ _ _ h => h) (Or.inl ⟨by rfl, ?_⟩) ?_ ?_
  rotate_left
  · intro w'
    go_simp
    with_reducible rfl
  rotate_left
  · simp only [Act.put, List.setIfInBounds_toArray, List.set_cons_zero, List.set_cons_succ, i64_w, i32_w]
    rfl
  refine pure_ (i := 9) (N := some 34) (v := ?_) (a' := ?_) #[true, false, false, false, false, false, false, false, false, true, false, false, false, false, false, false, false, false, false, false, false, false, false, false, false, false, false, false, false, false, false, false, false, false] rfl rfl (by kernel_rfl) (fun _ _ _ h => h) (Or.inl ⟨by rfl, ?_⟩) ?_ ?_
  rotate_left
  · intro w'
    go_simp
    with_reducible rfl
  rotate_left
  · simp only [Act.put, List.setIfInBounds_toArray, List.set_cons_zero, List.set_cons_succ, i64_w, i32_w]
    rfl
  refine pure_ (i := 17) (N := some 42) (v := ?_) (a' := ?_) #[true, false, false, false, false, false, false, false, false, true, false, false, false, false, false, false, false, true, false, false, false, false, false, false, false, false, false, false, false, false, false, false, false, false] rfl rfl (by kernel_rfl) (fun _ _ _ h => h) (Or.inl ⟨by rfl, ?_⟩) ?_ ?_
  rotate_left
  · intro w'
    go_simp
    with_reducible rfl
  rotate_left
  · simp only [Act.put, List.setIfInBounds_toArray, List.set_cons_zero, List.set_cons_succ, i64_w, i32_w]
    rfl
  refine pure_ (i := 21) (N := some 46) (v := ?_) (a' := ?_) #[true, false, false, false, false, false, false, false, false, true, false, false, false, false, false, false, false, true, false, false, false, true, false, false, false, false, false, false, false, false, false, false, false, false] rfl rfl (by kernel_rfl) (fun _ _ _ h => h) (Or.inl ⟨by rfl, ?_⟩) ?_ ?_
  rotate_left
  · intro w'
    go_simp
    with_reducible rfl
  rotate_left
  · simp only [Act.put, List.setIfInBounds_toArray, List.set_cons_zero, List.set_cons_succ, i64_w, i32_w]
    rfl
  refine pure_ (i := 22) (N := some 47) (v := ?_) (a' := ?_) #[true, false, false, false, false, false, false, false, false, true, false, false, false, false, false, false, false, true, false, false, false, true, true, false, false, false, false, false, false, false, false, false, false, false] rfl rfl (by kernel_rfl) (fun _ _ _ h => h) (Or.inl ⟨by rfl, ?_⟩) ?_ ?_
  rotate_left
  · intro w'
    go_simp
    with_reducible rfl
  rotate_left
  · simp only [Act.put, List.setIfInBounds_toArray, List.set_cons_zero, List.set_cons_succ, i64_w, i32_w]
    rfl
  refine pure_ (i := 23) (N := some 48) (v := ?_) (a' := ?_) #[true, false, false, false, false, false, false, false, false, true, false, false, false, false, false, false, false, true, false, false, false, true, true, true, false, false, false, false, false, false, false, false, false, false] rfl rfl (by kernel_rfl) (fun _ _ _ h => h) (Or.inl ⟨by rfl, ?_⟩) ?_ ?_
  rotate_left
  · intro w'
    go_simp
    with_reducible rfl
  rotate_left
  · simp only [Act.put, List.setIfInBounds_toArray, List.set_cons_zero, List.set_cons_succ, i64_w, i32_w]
    rfl
  refine pure_ (i := 26) (N := some 51) (v := ?_) (a' := ?_) #[true, false, false, false, false, false, false, false, false, true, false, false, false, false, false, false, false, true, false, false, false, true, true, true, false, false, true, false, false, false, false, false, false, false] rfl rfl (by kernel_rfl) (fun _ _ _ h => h) (Or.inl ⟨by rfl, ?_⟩) ?_ ?_
  rotate_left
  · intro w'
    go_simp
    with_reducible rfl
  rotate_left
  · simp only [Act.put, List.setIfInBounds_toArray, List.set_cons_zero, List.set_cons_succ, i64_w, i32_w]
    rfl
  refine pure_ (i := 29) (N := some 54) (v := ?_) (a' := ?_) #[true, false, false, false, false, false, false, false, false, true, false, false, false, false, false, false, false, true, false, false, false, true, true, true, false, false, true, false, false, true, false, false, false, false] rfl rfl (by kernel_rfl) (fun _ _ _ h => h) (Or.inl ⟨by rfl, ?_⟩) ?_ ?_
  rotate_left
  · intro w'
    go_simp
    with_reducible rfl
  rotate_left
  · simp only [Act.put, List.setIfInBounds_toArray, List.set_cons_zero, List.set_cons_succ, i64_w, i32_w]
    rfl
  refine pure_ (i := 30) (N := some 55) (v := ?_) (a' := ?_) #[true, false, false, false, false, false, false, false, false, true, false, false, false, false, false, false, false, true, false, false, false, true, true, true, false, false, true, false, false, true, true, false, false, false] rfl rfl (by kernel_rfl) (fun _ _ _ h => h) (Or.inl ⟨by rfl, ?_⟩) ?_ ?_
  rotate_left
  · intro w'
    go_simp
    with_reducible rfl
  rotate_left
  · simp only [Act.put, List.setIfInBounds_toArray, List.set_cons_zero, List.set_cons_succ, i64_w, i32_w]
    rfl
  refine take_ (i := 1) (N := some 26) (v := ?_) (a' := ?_) #[true, true, false, false, false, false, false, false, false, true, false, false, false, false, false, false, false, true, false, false, false, true, true, true, false, false, true, false, false, true, true, false, false, false] rfl rfl (by kernel_rfl) (fun _ _ _ h => h) (Or.inl ⟨by rfl, ?_⟩) hHeld ?_ ?_
  rotate_left
  · rintro w' ⟨s0, s1, s2, s3, s4⟩
    go_simp
    with_reducible rfl
  rotate_left
  · simp only [Act.put, List.setIfInBounds_toArray, List.set_cons_zero, List.set_cons_succ, i64_w, i32_w]
    rfl
  refine pure_ (i := 2) (N := some 27) (v := ?_) (a' := ?_) #[true, true, true, false, false, false, false, false, false, true, false, false, false, false, false, false, false, true, false, false, false, true, true, true, false, false, true, false, false, true, true, false, false, false] rfl rfl (by kernel_rfl) (fun _ _ _ h => h) (Or.inl ⟨by rfl, ?_⟩) ?_ ?_
  rotate_left
  · intro w'
    go_simp
    with_reducible rfl
  rotate_left
  · simp only [Act.put, List.setIfInBounds_toArray, List.set_cons_zero, List.set_cons_succ, i64_w, i32_w]
    rfl
  refine pure_ (i := 3) (N := some 28) (v := ?_) (a' := ?_) #[true, true, true, true, false, false, false, false, false, true, false, false, false, false, false, false, false, true, false, false, false, true, true, true, false, false, true, false, false, true, true, false, false, false] rfl rfl (by kernel_rfl) (fun _ _ _ h => h) (Or.inl ⟨by rfl, ?_⟩) ?_ ?_
  rotate_left
  · intro w'
    go_simp
    with_reducible rfl
  rotate_left
  · simp only [Act.put, List.setIfInBounds_toArray, List.set_cons_zero, List.set_cons_succ, i64_w, i32_w]
    rfl
  refine pure_ (i := 4) (N := some 29) (v := ?_) (a' := ?_) #[true, true, true, true, true, false, false, false, false, true, false, false, false, false, false, false, false, true, false, false, false, true, true, true, false, false, true, false, false, true, true, false, false, false] rfl rfl (by kernel_rfl) (fun _ _ _ h => h) (Or.inl ⟨by rfl, ?_⟩) ?_ ?_
  rotate_left
  · intro w'
    go_simp
    with_reducible rfl
  rotate_left
  · simp only [Act.put, List.setIfInBounds_toArray, List.set_cons_zero, List.set_cons_succ, i64_w, i32_w]
    rfl
  refine take_ (i := 5) (N := some 30) (v := ?_) (a' := ?_) #[true, true, true, true, true, true, false, false, false, true, false, false, false, false, false, false, false, true, false, false, false, true, true, true, false, false, true, false, false, true, true, false, false, false] rfl rfl (by kernel_rfl) (fun _ _ _ h => h) (Or.inl ⟨by rfl, ?_⟩) hHeld ?_ ?_
  rotate_left
  · rintro w' ⟨s0, s1, s2, s3, s4⟩
    go_simp
    with_reducible rfl
  rotate_left
  · simp only [Act.put, List.setIfInBounds_toArray, List.set_cons_zero, List.set_cons_succ, i64_w, i32_w]
    rfl
  refine pure_ (i := 6) (N := some 31) (v := ?_) (a' := ?_) #[true, true, true, true, true, true, true, false, false, true, false, false, false, false, false, false, false, true, false, false, false, true, true, true, false, false, true, false, false, true, true, false, false, false] rfl rfl (by kernel_rfl) (fun _ _ _ h => h) (Or.inl ⟨by rfl, ?_⟩) ?_ ?_
  rotate_left
  · intro w'
    go_simp
    with_reducible rfl
  rotate_left
  · simp only [Act.put, List.setIfInBounds_toArray, List.set_cons_zero, List.set_cons_succ, i64_w, i32_w]
    rfl
  refine pure_ (i := 7) (N := some 32) (v := ?_) (a' := ?_) #[true, true, true, true, true, true, true, true, false, true, false, false, false, false, false, false, false, true, false, false, false, true, true, true, false, false, true, false, false, true, true, false, false, false] rfl rfl (by kernel_rfl) (fun _ _ _ h => h) (Or.inl ⟨by rfl, ?_⟩) ?_ ?_
  rotate_left
  · intro w'
    go_simp
    with_reducible rfl
  rotate_left
  · simp only [Act.put, List.setIfInBounds_toArray, List.set_cons_zero, List.set_cons_succ, i64_w, i32_w]
    rfl
  refine pure_ (i := 8) (N := some 33) (v := ?_) (a' := ?_) #[true, true, true, true, true, true, true, true, true, true, false, false, false, false, false, false, false, true, false, false, false, true, true, true, false, false, true, false, false, true, true, false, false, false] rfl rfl (by kernel_rfl) (fun _ _ _ h => h) (Or.inl ⟨by rfl, ?_⟩) ?_ ?_
  rotate_left
  · intro w'
    go_simp
    with_reducible rfl
  rotate_left
  · simp only [Act.put, List.setIfInBounds_toArray, List.set_cons_zero, List.set_cons_succ, i64_w, i32_w]
    rfl
  refine take_ (i := 10) (N := some 35) (v := ?_) (a' := ?_) #[true, true, true, true, true, true, true, true, true, true, true, false, false, false, false, false, false, true, false, false, false, true, true, true, false, false, true, false, false, true, true, false, false, false] rfl rfl (by kernel_rfl) (fun _ _ _ h => h) (Or.inl ⟨by rfl, ?_⟩) hHeld ?_ ?_
  rotate_left
  · rintro w' ⟨s0, s1, s2, s3, s4⟩
    go_simp
    with_reducible rfl
  rotate_left
  · simp only [Act.put, List.setIfInBounds_toArray, List.set_cons_zero, List.set_cons_succ, i64_w, i32_w]
    rfl
  refine take_ (i := 18) (N := some 43) (v := ?_) (a' := ?_) #[true, true, true, true, true, true, true, true, true, true, true, false, false, false, false, false, false, true, true, false, false, true, true, true, false, false, true, false, false, true, true, false, false, false] rfl rfl (by kernel_rfl) (fun _ _ _ h => h) (Or.inl ⟨by rfl, ?_⟩) hHeld ?_ ?_
  rotate_left
  · rintro w' ⟨s0, s1, s2, s3, s4⟩
    go_simp
    with_reducible rfl
  rotate_left
  · simp only [Act.put, List.setIfInBounds_toArray, List.set_cons_zero, List.set_cons_succ, i64_w, i32_w]
    rfl
  refine pure_ (i := 19) (N := some 44) (v := ?_) (a' := ?_) #[true, true, true, true, true, true, true, true, true, true, true, false, false, false, false, false, false, true, true, true, false, true, true, true, false, false, true, false, false, true, true, false, false, false] rfl rfl (by kernel_rfl) (fun _ _ _ h => h) (Or.inl ⟨by rfl, ?_⟩) ?_ ?_
  rotate_left
  · intro w'
    go_simp
    with_reducible rfl
  rotate_left
  · simp only [Act.put, List.setIfInBounds_toArray, List.set_cons_zero, List.set_cons_succ, i64_w, i32_w]
    rfl
  refine pure_ (i := 20) (N := some 45) (v := ?_) (a' := ?_) #[true, true, true, true, true, true, true, true, true, true, true, false, false, false, false, false, false, true, true, true, true, true, true, true, false, false, true, false, false, true, true, false, false, false] rfl rfl (by kernel_rfl) (fun _ _ _ h => h) (Or.inl ⟨by rfl, ?_⟩) ?_ ?_
  rotate_left
  · intro w'
    go_simp
    with_reducible rfl
  rotate_left
  · simp only [Act.put, List.setIfInBounds_toArray, List.set_cons_zero, List.set_cons_succ, i64_w, i32_w]
    rfl
  refine one_ (i := 11) (N := some 36) #[true, true, true, true, true, true, true, true, true, true, true, true, false, false, false, false, false, true, true, true, true, true, true, true, false, false, true, false, false, true, true, false, false, false] rfl rfl (by kernel_rfl) (by decide) (fun K hK => ?_)
  refine goes_ Try.func21 (by kernel_rfl) rfl #[.int .i64 metric] (by rfl) rfl rfl (by simp only [List.map_toArray, List.map_cons, List.map_nil]; rfl) ?_
  with_reducible refine (P.metric_Known.calls metric true _ Hkn.out).mono ?_
  rintro e w11 ⟨rfl, ⟨nd, rfl⟩⟩
  refine ⟨_, rfl, ?_⟩
  refine hK.out _ _ ⟨(blk_cell (blk_drewN hHeld.2.2.2.1 nd) 1).trans rfl, (blk_cell (blk_drewN hHeld.2.2.2.1 nd) 2).trans rfl, (blk_cell (blk_drewN hHeld.2.2.2.1 nd) 5).trans rfl, blk_drewN hHeld.2.2.2.1 nd, pw_below_drewN hHeld.2.2.2.2 nd⟩ (fun hHeld => ?_)
  clear hK K
  refine norm_ (a' := ?_) ?_ ?_
  rotate_left
  · show Act.put _ (some 36) _ = _
    simp only [Act.put, List.setIfInBounds_toArray, List.set_cons_zero, List.set_cons_succ, i64_w, i32_w]
    rfl
  refine pure_ (i := 12) (N := some 37) (v := ?_) (a' := ?_) #[true, true, true, true, true, true, true, true, true, true, true, true, true, false, false, false, false, true, true, true, true, true, true, true, false, false, true, false, false, true, true, false, false, false] rfl rfl (by kernel_rfl) (fun _ _ _ h => h) (Or.inl ⟨by rfl, ?_⟩) ?_ ?_
  rotate_left
  · intro w'
    go_simp
    with_reducible rfl
  rotate_left
  · simp only [Act.put, List.setIfInBounds_toArray, List.set_cons_zero, List.set_cons_succ, i64_w, i32_w]
    rfl
  refine pure_ (i := 13) (N := some 38) (v := ?_) (a' := ?_) #[true, true, true, true, true, true, true, true, true, true, true, true, true, true, false, false, false, true, true, true, true, true, true, true, false, false, true, false, false, true, true, false, false, false] rfl rfl (by kernel_rfl) (fun _ _ _ h => h) (Or.inl ⟨by rfl, ?_⟩) ?_ ?_
  rotate_left
  · intro w'
    go_simp
    with_reducible rfl
  rotate_left
  · simp only [Act.put, List.setIfInBounds_toArray, List.set_cons_zero, List.set_cons_succ, i64_w, i32_w]
    rfl
  refine pure_ (i := 14) (N := some 39) (v := ?_) (a' := ?_) #[true, true, true, true, true, true, true, true, true, true, true, true, true, true, true, false, false, true, true, true, true, true, true, true, false, false, true, false, false, true, true, false, false, false] rfl rfl (by kernel_rfl) (fun _ _ _ h => h) (Or.inl ⟨by rfl, ?_⟩) ?_ ?_
  rotate_left
  · intro w'
    go_simp
    with_reducible rfl
  rotate_left
  · simp only [Act.put, List.setIfInBounds_toArray, List.set_cons_zero, List.set_cons_succ, i64_w, i32_w]
    rfl
  refine pure_ (i := 15) (N := some 40) (v := ?_) (a' := ?_) #[true, true, true, true, true, true, true, true, true, true, true, true, true, true, true, true, false, true, true, true, true, true, true, true, false, false, true, false, false, true, true, false, false, false] rfl rfl (by kernel_rfl) (fun _ _ _ h => h) (Or.inl ⟨by rfl, ?_⟩) ?_ ?_
  rotate_left
  · intro w'
    go_simp
    with_reducible rfl
  rotate_left
  · simp only [Act.put, List.setIfInBounds_toArray, List.set_cons_zero, List.set_cons_succ, i64_w, i32_w]
    rfl
  refine pure_ (i := 16) (N := some 41) (v := ?_) (a' := ?_) #[true, true, true, true, true, true, true, true, true, true, true, true, true, true, true, true, true, true, true, true, true, true, true, true, false, false, true, false, false, true, true, false, false, false] rfl rfl (by kernel_rfl) (fun _ _ _ h => h) (Or.inl ⟨by rfl, ?_⟩) ?_ ?_
  rotate_left
  · intro w'
    go_simp
    with_reducible rfl
  rotate_left
  · simp only [Act.put, List.setIfInBounds_toArray, List.set_cons_zero, List.set_cons_succ, i64_w, i32_w]
    rfl
  refine one_ (i := 24) (N := some 49) #[true, true, true, true, true, true, true, true, true, true, true, true, true, true, true, true, true, true, true, true, true, true, true, true, true, false, true, false, false, true, true, false, false, false] rfl rfl (by kernel_rfl) (by decide) (fun K hK => ?_)
  refine goesC_ Try.func16 (by kernel_rfl) rfl #[.func (.func 22) #[] #[], .pointer (some ⟨gb, 0, none⟩)] (by rfl) rfl rfl rfl (by simp only [List.map_toArray, List.map_cons, List.map_nil]; rfl) ?_
  with_reducible refine (none_such 22 (enters_ Try.func22 (by kernel_rfl) rfl) _ window_not A c gb l _ (Kd.C_below HR.out hHeld.2.2.2.2) ((blk_cell hHeld.2.2.2.1 6).trans rfl)).mono ?_
  rintro e w24 ⟨rfl, hb24⟩
  refine ⟨_, rfl, ?_⟩
  refine hK.out _ _ ⟨(blk_cell (blk_below hHeld.2.2.2.1 hb24) 1).trans rfl, (blk_cell (blk_below hHeld.2.2.2.1 hb24) 2).trans rfl, (blk_cell (blk_below hHeld.2.2.2.1 hb24) 5).trans rfl, blk_below hHeld.2.2.2.1 hb24, below_step hHeld.2.2.2.2 hb24⟩ (fun hHeld => ?_)
  clear hK K
  refine norm_ (a' := ?_) ?_ ?_
  rotate_left
  · show Act.put _ (some 49) _ = _
    simp only [Act.put, List.setIfInBounds_toArray, List.set_cons_zero, List.set_cons_succ, i64_w, i32_w]
    rfl
  refine pure_ (i := 25) (N := some 50) (v := ?_) (a' := ?_) #[true, true, true, true, true, true, true, true, true, true, true, true, true, true, true, true, true, true, true, true, true, true, true, true, true, true, true, false, false, true, true, false, false, false] rfl rfl (by kernel_rfl) (fun _ _ _ h => h) (Or.inl ⟨by rfl, ?_⟩) ?_ ?_
  rotate_left
  · intro w'
    go_simp
    with_reducible rfl
  rotate_left
  · simp only [Act.put, List.setIfInBounds_toArray, List.set_cons_zero, List.set_cons_succ, i64_w, i32_w]
    rfl
  refine one_ (i := 27) (N := some 52) #[true, true, true, true, true, true, true, true, true, true, true, true, true, true, true, true, true, true, true, true, true, true, true, true, true, true, true, true, false, true, true, false, false, false] rfl rfl (by kernel_rfl) (by decide) (fun K hK => ?_)
  refine goesC_ Try.func16 (by kernel_rfl) rfl #[.func (.func 23) #[] #[], .pointer (some ⟨gb, 0, none⟩)] (by rfl) rfl rfl rfl (by simp only [List.map_toArray, List.map_cons, List.map_nil]; rfl) ?_
  with_reducible refine (none_such 23 (enters_ Try.func23 (by kernel_rfl) rfl) _ service_not A c gb l _ (Kd.C_below HR.out hHeld.2.2.2.2) ((blk_cell hHeld.2.2.2.1 6).trans rfl)).mono ?_
  rintro e w24 ⟨rfl, hb24⟩
  refine ⟨_, rfl, ?_⟩
  refine hK.out _ _ ⟨(blk_cell (blk_below hHeld.2.2.2.1 hb24) 1).trans rfl, (blk_cell (blk_below hHeld.2.2.2.1 hb24) 2).trans rfl, (blk_cell (blk_below hHeld.2.2.2.1 hb24) 5).trans rfl, blk_below hHeld.2.2.2.1 hb24, below_step hHeld.2.2.2.2 hb24⟩ (fun hHeld => ?_)
  clear hK K
  refine norm_ (a' := ?_) ?_ ?_
  rotate_left
  · show Act.put _ (some 52) _ = _
    simp only [Act.put, List.setIfInBounds_toArray, List.set_cons_zero, List.set_cons_succ, i64_w, i32_w]
    rfl
  refine pure_ (i := 28) (N := some 53) (v := ?_) (a' := ?_) #[true, true, true, true, true, true, true, true, true, true, true, true, true, true, true, true, true, true, true, true, true, true, true, true, true, true, true, true, true, true, true, false, false, false] rfl rfl (by kernel_rfl) (fun _ _ _ h => h) (Or.inl ⟨by rfl, ?_⟩) ?_ ?_
  rotate_left
  · intro w'
    go_simp
    with_reducible rfl
  rotate_left
  · simp only [Act.put, List.setIfInBounds_toArray, List.set_cons_zero, List.set_cons_succ, i64_w, i32_w]
    rfl
  refine one_ (i := 31) (N := some 56) #[true, true, true, true, true, true, true, true, true, true, true, true, true, true, true, true, true, true, true, true, true, true, true, true, true, true, true, true, true, true, true, true, false, false] rfl rfl (by kernel_rfl) (by decide) (fun K hK => ?_)
  refine Kd.R_lit_step P.k46 _ 46 (by rfl) (N := 56) rfl (xs := ([⟨2, (kind == 2)⟩, ⟨3, (!(metric == 6))⟩, ⟨6, fleet == 0⟩, ⟨10, pl⟩, ⟨11, !(l.any fun d => d.f3 != 0 || d.f4 != 0)⟩, ⟨12, !(l.any fun d => d.f5 != 0)⟩, ⟨13, sg⟩] : List Look)) (inner := [.int .i64 2, .bool (kind == 2), .int .i64 3, .bool (!(metric == 6)), .int .i64 6, .bool (fleet == 0), .int .i64 10, .bool pl, .int .i64 11, .bool (!(l.any fun d => d.f3 != 0 || d.f4 != 0)), .int .i64 12, .bool (!(l.any fun d => d.f5 != 0)), .int .i64 13, .bool sg]) (ok := fun _ => True) (okp := fun _ => True) ?hr (Reps.c2 (P.k46_mkM _ _ _ _) (Reps.c2 (P.k46_mkM _ _ _ _) (Reps.c2 (P.k46_mkM _ _ _ _) (Reps.c2 (P.k46_mkM _ _ _ _) (Reps.c2 (P.k46_mkM _ _ _ _) (Reps.c2 (P.k46_mkM _ _ _ _) (Reps.c2 (P.k46_mkM _ _ _ _) (Reps.none _ _)))))))) (fun _ hk => hk) trivial (Below.refl _ _) (Nat.le_refl _) (by simp) ?_
  case hr => first | (go_simp; done) | (go_simp; rfl)
  intro v1 w31 hR hb31 _ _
  have HR31 := Aside0.mk hR
  clear hR
  obtain ⟨A31, c31, e31⟩ := Kd.R_slice HR31.out
  subst e31
  refine hK.out _ _ ⟨(blk_cell (blk_below hHeld.2.2.2.1 hb31) 1).trans rfl, (blk_cell (blk_below hHeld.2.2.2.1 hb31) 2).trans rfl, (blk_cell (blk_below hHeld.2.2.2.1 hb31) 5).trans rfl, blk_below hHeld.2.2.2.1 hb31, below_step hHeld.2.2.2.2 hb31⟩ (fun hHeld => ?_)
  clear hK K
  refine norm_ (a' := ?_) ?_ ?_
  rotate_left
  · show Act.put _ (some 56) _ = _
    simp only [Act.put, List.setIfInBounds_toArray, List.set_cons_zero, List.set_cons_succ, i64_w, i32_w]
    rfl
  refine one_ (i := 32) (N := some 57) #[true, true, true, true, true, true, true, true, true, true, true, true, true, true, true, true, true, true, true, true, true, true, true, true, true, true, true, true, true, true, true, true, true, false] rfl rfl (by kernel_rfl) (by decide) (fun K hK => ?_)
  refine goes_ Try.func20 (by kernel_rfl) rfl #[.slice A31 7 c31] (by rfl) rfl rfl (by simp only [List.map_toArray, List.map_cons, List.map_nil]; rfl) ?_
  refine (P.express_lacking.calls k A31 c31 [⟨2, (kind == 2)⟩, ⟨3, (!(metric == 6))⟩, ⟨6, fleet == 0⟩, ⟨10, pl⟩, ⟨11, !(l.any fun d => d.f3 != 0 || d.f4 != 0)⟩, ⟨12, !(l.any fun d => d.f5 != 0)⟩, ⟨13, sg⟩] r _ (Kd.R_reads' HR31.out).2.2 (Kd.R_reads' HR31.out).2.1 H2.out).mono ?_
  rintro e w32 ⟨v32, rfl, ho32, hb32⟩
  have HO32 := Aside0.mk (Kd.R_lower ho32 (below_size hHeld.2.2.2.2))
  have HB32 := Aside0.mk (below_step hHeld.2.2.2.2 hb32)
  have BK32 := Aside0.mk (blk_below hHeld.2.2.2.1 hb32)
  clear ho32 hb32
  obtain ⟨A32, c32, e32⟩ := Kd.R_slice HO32.out
  subst e32
  refine ⟨_, rfl, ?_⟩
  refine hK.out _ _ ⟨(blk_cell (BK32.out) 1).trans rfl, (blk_cell (BK32.out) 2).trans rfl, (blk_cell (BK32.out) 5).trans rfl, BK32.out, HB32.out⟩ (fun hHeld => ?_)
  clear hK K
  refine norm_ (a' := ?_) ?_ ?_
  rotate_left
  · show Act.put _ (some 57) _ = _
    simp only [Act.put, List.setIfInBounds_toArray, List.set_cons_zero, List.set_cons_succ, i64_w, i32_w]
    rfl
  refine pure_ (i := 33) (N := some 4) (v := ?_) (a' := ?_) #[true, true, true, true, true, true, true, true, true, true, true, true, true, true, true, true, true, true, true, true, true, true, true, true, true, true, true, true, true, true, true, true, true, true] rfl rfl (by kernel_rfl) (fun _ _ _ h => h) (Or.inl ⟨by rfl, ?_⟩) ?_ ?_
  rotate_left
  · intro w'
    go_simp
    with_reducible rfl
  rotate_left
  · simp only [Act.put, List.setIfInBounds_toArray, List.set_cons_zero, List.set_cons_succ, i64_w, i32_w]
    rfl
  refine done_ (by kernel_rfl) ?_

  clear H2
  go_wp2
  go_ret
  exact ⟨_, rfl, HO32.out, HB32.out⟩

set_option maxRecDepth 100000 in
set_option maxHeartbeats 4000000 in
theorem lacks1_ff (name : ByteArray) (fmt kind metric scale cap fleet : Int) (A : Option Addr) (c : Nat) (l : List Node) (A' : Option Addr) (c' : Nat) (m : List Int) (r : List Int) (k : Nat) (w : World) (hr : Kd.C P.k40 w A l.length l) (hkn : P.metric_Known.f metric = some false) (b1 : (kind == 1) = false) (h : P.express_lacking.f k (looks1 kind metric fleet l) = some r) :
    Calls Try.prog 9 #[.int .i64 1, .agg #[.string name, .int .i64 kind, .int .i64 metric, .int .i64 scale, .int .i64 cap, .int .i64 fleet, .slice A l.length c, .slice A' m.length c']] w fun e w' =>
      ∃ v0_ : Value, e = .returned v0_ ∧ Kd.R (Kd.int .i64) 3 w' w.heap.size (fun _ => True) v0_ r ∧ Below w.heap.size w w' := by
  have hu := Try.underlying25
  have hul := Try.underlying46
  have HR := Aside0.mk hr
  clear hr
  have hk : known metric = false := Option.some.inj ((known_tells metric).symm.trans hkn)
  have Hkn := Aside0.mk hkn
  clear hkn
  have H2 : Aside0 (P.express_lacking.f k [⟨2, (kind == 2)⟩, ⟨3, false⟩, ⟨6, fleet == 0⟩, ⟨10, pos l⟩, ⟨11, !(l.any fun d => d.f3 != 0 || d.f4 != 0)⟩, ⟨12, !(l.any fun d => d.f5 != 0)⟩, ⟨13, single l⟩] = some r) := ⟨by
    unfold looks1 unwindowed unserved at h
    rw [b1, hk] at h
    exact h⟩
  clear h hk
  go_enter Try.func9, Try.ntmps9
  go_upto_region 1 with (((with_reducible refine gate_dst (N := 3) rfl ?_); refine box_event ?hg (N := 3) ?hd (cs := #[.string name, .int .i64 kind, .int .i64 metric, .int .i64 scale, .int .i64 cap, .int .i64 fleet, .slice A l.length c, .slice A' m.length c']) (t := 25) ?hr ?_; (case hd => rfl); (case hg => rfl); (case hr => first | (go_simp; done) | (go_simp; rfl)); intro gb hgb w1 hbox hb; have hge : Aside0 (w.heap.size ≤ gb) := ⟨by rw [hgb]; exact Nat.le_refl _⟩; have HB := Aside0.mk hb; have BK := Aside0.mk hbox; clear hgb hb hbox))
  go_wp2_with (fail)
  refine (none_such 18 (enters_ Try.func18 (by kernel_rfl) rfl) _ demand_neg A c gb l _ (Kd.C_below HR.out HB.out) ((blk_cell BK.out 6).trans rfl)).mono ?_
  rintro e w2 ⟨rfl, hb2⟩
  have BK2 := Aside0.mk (blk_below BK.out hb2)
  have HB2 := Aside0.mk (below_step HB.out hb2)
  clear hb2 HB BK
  go_wp2_with (fail)
  refine (none_such 19 (enters_ Try.func19 (by kernel_rfl) rfl) _ mate_not A c gb l _ (Kd.C_below HR.out HB2.out) ((blk_cell BK2.out 6).trans rfl)).mono ?_
  rintro e w3 ⟨rfl, hb3⟩
  have BK := Aside0.mk (blk_below BK2.out hb3)
  have HB := Aside0.mk (below_step HB2.out hb3)
  clear hb3 HB2 BK2
  obtain ⟨pl, hpl⟩ : ∃ b, b = pos l := ⟨_, rfl⟩
  obtain ⟨sg, hsg⟩ : ∃ b, b = single l := ⟨_, rfl⟩
  rw [show (!l.any fun d => decide (d.f2 < 0)) = pl from hpl.symm, show (!l.any fun d => d.f6 != 0) = sg from hsg.symm]
  rw [← hpl, ← hsg] at H2
  have Hpl := Aside0.mk hpl
  have Hsg := Aside0.mk hsg
  clear hpl hsg
  have q2 := (blk_cell BK.out 2).trans rfl
  have q5 := (blk_cell BK.out 5).trans rfl
  go_wp2_with (fail)
  go_quiet (fail)
  have HB := Aside0.mk (pw_below_drewN HB.out nq)
  have BK := Aside0.mk (blk_drewN BK.out nq)
  generalize w3.drewN nq = w4 at *
  clear q2 q5
  go_wp2_with fail
  refine start_ (n := 34) (S := fun w' => w'.cell? ⟨gb, 1, none⟩ = some (.int .i64 kind) ∧ w'.cell? ⟨gb, 2, none⟩ = some (.int .i64 metric) ∧ w'.cell? ⟨gb, 5, none⟩ = some (.int .i64 fleet) ∧ w'.heap[gb]? = some (.cells #[.string name, .int .i64 kind, .int .i64 metric, .int .i64 scale, .int .i64 cap, .int .i64 fleet, .slice A l.length c, .slice A' m.length c'] 25 (0, 0)) ∧ Below w.heap.size w w') (ds := []) #[false, false, false, false, false, false, false, false, false, false, false, false, false, false, false, false, false, false, false, false, false, false, false, false, false, false, false, false, false, false, false, false, false, false] (by kernel_rfl) rfl rfl ⟨(blk_cell (blk_drew BK.out) 1).trans rfl, (blk_cell (blk_drew BK.out) 2).trans rfl, (blk_cell (blk_drew BK.out) 5).trans rfl, blk_drew BK.out, below_drew HB.out⟩ (fun hHeld => ?_)
  refine pure_ (i := 0) (N := some 25) (v := ?_) (a' := ?_) #[true, false, false, false, false, false, false, false, false, false, false, false, false, false, false, false, false, false, false, false, false, false, false, false, false, false, false, false, false, false, false, false, false, false] rfl rfl (by kernel_rfl) (fun _ _ _ h => h) (Or.inl ⟨by rfl, ?_⟩) ?_ ?_
  rotate_left
  · intro w'
    go_simp
    with_reducible rfl
  rotate_left
  · simp only [Act.put, List.setIfInBounds_toArray, List.set_cons_zero, List.set_cons_succ, i64_w, i32_w]
    rfl
  refine pure_ (i := 9) (N := some 34) (v := ?_) (a' := ?_) #[true, false, false, false, false, false, false, false, false, true, false, false, false, false, false, false, false, false, false, false, false, false, false, false, false, false, false, false, false, false, false, false, false, false] rfl rfl (by kernel_rfl) (fun _ _ _ h => h) (Or.inl ⟨by rfl, ?_⟩) ?_ ?_
  rotate_left
  · intro w'
    go_simp
    with_reducible rfl
  rotate_left
  · simp only [Act.put, List.setIfInBounds_toArray, List.set_cons_zero, List.set_cons_succ, i64_w, i32_w]
    rfl
  refine pure_ (i := 17) (N := some 42) (v := ?_) (a' := ?_) #[true, false, false, false, false, false, false, false, false, true, false, false, false, false, false, false, false, true, false, false, false, false, false, false, false, false, false, false, false, false, false, false, false, false] rfl rfl (by kernel_rfl) (fun _ _ _ h => h) (Or.inl ⟨by rfl, ?_⟩) ?_ ?_
  rotate_left
  · intro w'
    go_simp
    with_reducible rfl
  rotate_left
  · simp only [Act.put, List.setIfInBounds_toArray, List.set_cons_zero, List.set_cons_succ, i64_w, i32_w]
    rfl
  refine pure_ (i := 21) (N := some 46) (v := ?_) (a' := ?_) #[true, false, false, false, false, false, false, false, false, true, false, false, false, false, false, false, false, true, false, false, false, true, false, false, false, false, false, false, false, false, false, false, false, false] rfl rfl (by kernel_rfl) (fun _ _ _ h => h) (Or.inl ⟨by rfl, ?_⟩) ?_ ?_
  rotate_left
  · intro w'
    go_simp
    with_reducible rfl
  rotate_left
  · simp only [Act.put, List.setIfInBounds_toArray, List.set_cons_zero, List.set_cons_succ, i64_w, i32_w]
    rfl
  refine pure_ (i := 22) (N := some 47) (v := ?_) (a' := ?_) #[true, false, false, false, false, false, false, false, false, true, false, false, false, false, false, false, false, true, false, false, false, true, true, false, false, false, false, false, false, false, false, false, false, false] rfl rfl (by kernel_rfl) (fun _ _ _ h => h) (Or.inl ⟨by rfl, ?_⟩) ?_ ?_
  rotate_left
  · intro w'
    go_simp
    with_reducible rfl
  rotate_left
  · simp only [Act.put, List.setIfInBounds_toArray, List.set_cons_zero, List.set_cons_succ, i64_w, i32_w]
    rfl
  refine pure_ (i := 23) (N := some 48) (v := ?_) (a' := ?_) #[true, false, false, false, false, false, false, false, false, true, false, false, false, false, false, false, false, true, false, false, false, true, true, true, false, false, false, false, false, false, false, false, false, false] rfl rfl (by kernel_rfl) (fun _ _ _ h => h) (Or.inl ⟨by rfl, ?_⟩) ?_ ?_
  rotate_left
  · intro w'
    go_simp
    with_reducible rfl
  rotate_left
  · simp only [Act.put, List.setIfInBounds_toArray, List.set_cons_zero, List.set_cons_succ, i64_w, i32_w]
    rfl
  refine pure_ (i := 26) (N := some 51) (v := ?_) (a' := ?_) #[true, false, false, false, false, false, false, false, false, true, false, false, false, false, false, false, false, true, false, false, false, true, true, true, false, false, true, false, false, false, false, false, false, false] rfl rfl (by kernel_rfl) (fun _ _ _ h => h) (Or.inl ⟨by rfl, ?_⟩) ?_ ?_
  rotate_left
  · intro w'
    go_simp
    with_reducible rfl
  rotate_left
  · simp only [Act.put, List.setIfInBounds_toArray, List.set_cons_zero, List.set_cons_succ, i64_w, i32_w]
    rfl
  refine pure_ (i := 29) (N := some 54) (v := ?_) (a' := ?_) #[true, false, false, false, false, false, false, false, false, true, false, false, false, false, false, false, false, true, false, false, false, true, true, true, false, false, true, false, false, true, false, false, false, false] rfl rfl (by kernel_rfl) (fun _ _ _ h => h) (Or.inl ⟨by rfl, ?_⟩) ?_ ?_
  rotate_left
  · intro w'
    go_simp
    with_reducible rfl
  rotate_left
  · simp only [Act.put, List.setIfInBounds_toArray, List.set_cons_zero, List.set_cons_succ, i64_w, i32_w]
    rfl
  refine pure_ (i := 30) (N := some 55) (v := ?_) (a' := ?_) #[true, false, false, false, false, false, false, false, false, true, false, false, false, false, false, false, false, true, false, false, false, true, true, true, false, false, true, false, false, true, true, false, false, false] rfl rfl (by kernel_rfl) (fun _ _ _ h => h) (Or.inl ⟨by rfl, ?_⟩) ?_ ?_
  rotate_left
  · intro w'
    go_simp
    with_reducible rfl
  rotate_left
  · simp only [Act.put, List.setIfInBounds_toArray, List.set_cons_zero, List.set_cons_succ, i64_w, i32_w]
    rfl
  refine take_ (i := 1) (N := some 26) (v := ?_) (a' := ?_) #[true, true, false, false, false, false, false, false, false, true, false, false, false, false, false, false, false, true, false, false, false, true, true, true, false, false, true, false, false, true, true, false, false, false] rfl rfl (by kernel_rfl) (fun _ _ _ h => h) (Or.inl ⟨by rfl, ?_⟩) hHeld ?_ ?_
  rotate_left
  · rintro w' ⟨s0, s1, s2, s3, s4⟩
    go_simp
    with_reducible rfl
  rotate_left
  · simp only [Act.put, List.setIfInBounds_toArray, List.set_cons_zero, List.set_cons_succ, i64_w, i32_w]
    rfl
  refine pure_ (i := 2) (N := some 27) (v := ?_) (a' := ?_) #[true, true, true, false, false, false, false, false, false, true, false, false, false, false, false, false, false, true, false, false, false, true, true, true, false, false, true, false, false, true, true, false, false, false] rfl rfl (by kernel_rfl) (fun _ _ _ h => h) (Or.inl ⟨by rfl, ?_⟩) ?_ ?_
  rotate_left
  · intro w'
    go_simp
    with_reducible rfl
  rotate_left
  · simp only [Act.put, List.setIfInBounds_toArray, List.set_cons_zero, List.set_cons_succ, i64_w, i32_w]
    rfl
  refine pure_ (i := 3) (N := some 28) (v := ?_) (a' := ?_) #[true, true, true, true, false, false, false, false, false, true, false, false, false, false, false, false, false, true, false, false, false, true, true, true, false, false, true, false, false, true, true, false, false, false] rfl rfl (by kernel_rfl) (fun _ _ _ h => h) (Or.inl ⟨by rfl, ?_⟩) ?_ ?_
  rotate_left
  · intro w'
    go_simp
    with_reducible rfl
  rotate_left
  · simp only [Act.put, List.setIfInBounds_toArray, List.set_cons_zero, List.set_cons_succ, i64_w, i32_w]
    rfl
  refine pure_ (i := 4) (N := some 29) (v := ?_) (a' := ?_) #[true, true, true, true, true, false, false, false, false, true, false, false, false, false, false, false, false, true, false, false, false, true, true, true, false, false, true, false, false, true, true, false, false, false] rfl rfl (by kernel_rfl) (fun _ _ _ h => h) (Or.inl ⟨by rfl, ?_⟩) ?_ ?_
  rotate_left
  · intro w'
    go_simp
    with_reducible rfl
  rotate_left
  · simp only [Act.put, List.setIfInBounds_toArray, List.set_cons_zero, List.set_cons_succ, i64_w, i32_w]
    rfl
  refine take_ (i := 5) (N := some 30) (v := ?_) (a' := ?_) #[true, true, true, true, true, true, false, false, false, true, false, false, false, false, false, false, false, true, false, false, false, true, true, true, false, false, true, false, false, true, true, false, false, false] rfl rfl (by kernel_rfl) (fun _ _ _ h => h) (Or.inl ⟨by rfl, ?_⟩) hHeld ?_ ?_
  rotate_left
  · rintro w' ⟨s0, s1, s2, s3, s4⟩
    go_simp
    with_reducible rfl
  rotate_left
  · simp only [Act.put, List.setIfInBounds_toArray, List.set_cons_zero, List.set_cons_succ, i64_w, i32_w]
    rfl
  refine pure_ (i := 6) (N := some 31) (v := ?_) (a' := ?_) #[true, true, true, true, true, true, true, false, false, true, false, false, false, false, false, false, false, true, false, false, false, true, true, true, false, false, true, false, false, true, true, false, false, false] rfl rfl (by kernel_rfl) (fun _ _ _ h => h) (Or.inl ⟨by rfl, ?_⟩) ?_ ?_
  rotate_left
  · intro w'
    go_simp
    with_reducible rfl
  rotate_left
  · simp only [Act.put, List.setIfInBounds_toArray, List.set_cons_zero, List.set_cons_succ, i64_w, i32_w]
    rfl
  refine pure_ (i := 7) (N := some 32) (v := ?_) (a' := ?_) #[true, true, true, true, true, true, true, true, false, true, false, false, false, false, false, false, false, true, false, false, false, true, true, true, false, false, true, false, false, true, true, false, false, false] rfl rfl (by kernel_rfl) (fun _ _ _ h => h) (Or.inl ⟨by rfl, ?_⟩) ?_ ?_
  rotate_left
  · intro w'
    go_simp
    with_reducible rfl
  rotate_left
  · simp only [Act.put, List.setIfInBounds_toArray, List.set_cons_zero, List.set_cons_succ, i64_w, i32_w]
    rfl
  refine pure_ (i := 8) (N := some 33) (v := ?_) (a' := ?_) #[true, true, true, true, true, true, true, true, true, true, false, false, false, false, false, false, false, true, false, false, false, true, true, true, false, false, true, false, false, true, true, false, false, false] rfl rfl (by kernel_rfl) (fun _ _ _ h => h) (Or.inl ⟨by rfl, ?_⟩) ?_ ?_
  rotate_left
  · intro w'
    go_simp
    with_reducible rfl
  rotate_left
  · simp only [Act.put, List.setIfInBounds_toArray, List.set_cons_zero, List.set_cons_succ, i64_w, i32_w]
    rfl
  refine take_ (i := 10) (N := some 35) (v := ?_) (a' := ?_) #[true, true, true, true, true, true, true, true, true, true, true, false, false, false, false, false, false, true, false, false, false, true, true, true, false, false, true, false, false, true, true, false, false, false] rfl rfl (by kernel_rfl) (fun _ _ _ h => h) (Or.inl ⟨by rfl, ?_⟩) hHeld ?_ ?_
  rotate_left
  · rintro w' ⟨s0, s1, s2, s3, s4⟩
    go_simp
    with_reducible rfl
  rotate_left
  · simp only [Act.put, List.setIfInBounds_toArray, List.set_cons_zero, List.set_cons_succ, i64_w, i32_w]
    rfl
  refine take_ (i := 18) (N := some 43) (v := ?_) (a' := ?_) #[true, true, true, true, true, true, true, true, true, true, true, false, false, false, false, false, false, true, true, false, false, true, true, true, false, false, true, false, false, true, true, false, false, false] rfl rfl (by kernel_rfl) (fun _ _ _ h => h) (Or.inl ⟨by rfl, ?_⟩) hHeld ?_ ?_
  rotate_left
  · rintro w' ⟨s0, s1, s2, s3, s4⟩
    go_simp
    with_reducible rfl
  rotate_left
  · simp only [Act.put, List.setIfInBounds_toArray, List.set_cons_zero, List.set_cons_succ, i64_w, i32_w]
    rfl
  refine pure_ (i := 19) (N := some 44) (v := ?_) (a' := ?_) #[true, true, true, true, true, true, true, true, true, true, true, false, false, false, false, false, false, true, true, true, false, true, true, true, false, false, true, false, false, true, true, false, false, false] rfl rfl (by kernel_rfl) (fun _ _ _ h => h) (Or.inl ⟨by rfl, ?_⟩) ?_ ?_
  rotate_left
  · intro w'
    go_simp
    with_reducible rfl
  rotate_left
  · simp only [Act.put, List.setIfInBounds_toArray, List.set_cons_zero, List.set_cons_succ, i64_w, i32_w]
    rfl
  refine pure_ (i := 20) (N := some 45) (v := ?_) (a' := ?_) #[true, true, true, true, true, true, true, true, true, true, true, false, false, false, false, false, false, true, true, true, true, true, true, true, false, false, true, false, false, true, true, false, false, false] rfl rfl (by kernel_rfl) (fun _ _ _ h => h) (Or.inl ⟨by rfl, ?_⟩) ?_ ?_
  rotate_left
  · intro w'
    go_simp
    with_reducible rfl
  rotate_left
  · simp only [Act.put, List.setIfInBounds_toArray, List.set_cons_zero, List.set_cons_succ, i64_w, i32_w]
    rfl
  refine one_ (i := 11) (N := some 36) #[true, true, true, true, true, true, true, true, true, true, true, true, false, false, false, false, false, true, true, true, true, true, true, true, false, false, true, false, false, true, true, false, false, false] rfl rfl (by kernel_rfl) (by decide) (fun K hK => ?_)
  refine goes_ Try.func21 (by kernel_rfl) rfl #[.int .i64 metric] (by rfl) rfl rfl (by simp only [List.map_toArray, List.map_cons, List.map_nil]; rfl) ?_
  with_reducible refine (P.metric_Known.calls metric false _ Hkn.out).mono ?_
  rintro e w11 ⟨rfl, ⟨nd, rfl⟩⟩
  refine ⟨_, rfl, ?_⟩
  refine hK.out _ _ ⟨(blk_cell (blk_drewN hHeld.2.2.2.1 nd) 1).trans rfl, (blk_cell (blk_drewN hHeld.2.2.2.1 nd) 2).trans rfl, (blk_cell (blk_drewN hHeld.2.2.2.1 nd) 5).trans rfl, blk_drewN hHeld.2.2.2.1 nd, pw_below_drewN hHeld.2.2.2.2 nd⟩ (fun hHeld => ?_)
  clear hK K
  refine norm_ (a' := ?_) ?_ ?_
  rotate_left
  · show Act.put _ (some 36) _ = _
    simp only [Act.put, List.setIfInBounds_toArray, List.set_cons_zero, List.set_cons_succ, i64_w, i32_w]
    rfl
  refine pure_ (i := 12) (N := some 37) (v := ?_) (a' := ?_) #[true, true, true, true, true, true, true, true, true, true, true, true, true, false, false, false, false, true, true, true, true, true, true, true, false, false, true, false, false, true, true, false, false, false] rfl rfl (by kernel_rfl) (fun _ _ _ h => h) (Or.inl ⟨by rfl, ?_⟩) ?_ ?_
  rotate_left
  · intro w'
    go_simp
    with_reducible rfl
  rotate_left
  · simp only [Act.put, List.setIfInBounds_toArray, List.set_cons_zero, List.set_cons_succ, i64_w, i32_w]
    rfl
  refine pure_ (i := 13) (N := some 38) (v := undef) (a' := ?_) #[true, true, true, true, true, true, true, true, true, true, true, true, true, true, false, false, false, true, true, true, true, true, true, true, false, false, true, false, false, true, true, false, false, false] rfl rfl (by kernel_rfl) (fun _ _ _ h => h) (Or.inr ⟨by rfl, rfl⟩) ?_ ?_
  rotate_left
  · simp only [Act.put, List.setIfInBounds_toArray, List.set_cons_zero, List.set_cons_succ, i64_w, i32_w]
    rfl
  refine pure_ (i := 14) (N := some 39) (v := undef) (a' := ?_) #[true, true, true, true, true, true, true, true, true, true, true, true, true, true, true, false, false, true, true, true, true, true, true, true, false, false, true, false, false, true, true, false, false, false] rfl rfl (by kernel_rfl) (fun _ _ _ h => h) (Or.inr ⟨by rfl, rfl⟩) ?_ ?_
  rotate_left
  · simp only [Act.put, List.setIfInBounds_toArray, List.set_cons_zero, List.set_cons_succ, i64_w, i32_w]
    rfl
  refine pure_ (i := 15) (N := some 40) (v := ?_) (a' := ?_) #[true, true, true, true, true, true, true, true, true, true, true, true, true, true, true, true, false, true, true, true, true, true, true, true, false, false, true, false, false, true, true, false, false, false] rfl rfl (by kernel_rfl) (fun _ _ _ h => h) (Or.inl ⟨by rfl, ?_⟩) ?_ ?_
  rotate_left
  · intro w'
    go_simp
    with_reducible rfl
  rotate_left
  · simp only [Act.put, List.setIfInBounds_toArray, List.set_cons_zero, List.set_cons_succ, i64_w, i32_w]
    rfl
  refine pure_ (i := 16) (N := some 41) (v := ?_) (a' := ?_) #[true, true, true, true, true, true, true, true, true, true, true, true, true, true, true, true, true, true, true, true, true, true, true, true, false, false, true, false, false, true, true, false, false, false] rfl rfl (by kernel_rfl) (fun _ _ _ h => h) (Or.inl ⟨by rfl, ?_⟩) ?_ ?_
  rotate_left
  · intro w'
    go_simp
    with_reducible rfl
  rotate_left
  · simp only [Act.put, List.setIfInBounds_toArray, List.set_cons_zero, List.set_cons_succ, i64_w, i32_w]
    rfl
  refine one_ (i := 24) (N := some 49) #[true, true, true, true, true, true, true, true, true, true, true, true, true, true, true, true, true, true, true, true, true, true, true, true, true, false, true, false, false, true, true, false, false, false] rfl rfl (by kernel_rfl) (by decide) (fun K hK => ?_)
  refine goesC_ Try.func16 (by kernel_rfl) rfl #[.func (.func 22) #[] #[], .pointer (some ⟨gb, 0, none⟩)] (by rfl) rfl rfl rfl (by simp only [List.map_toArray, List.map_cons, List.map_nil]; rfl) ?_
  with_reducible refine (none_such 22 (enters_ Try.func22 (by kernel_rfl) rfl) _ window_not A c gb l _ (Kd.C_below HR.out hHeld.2.2.2.2) ((blk_cell hHeld.2.2.2.1 6).trans rfl)).mono ?_
  rintro e w24 ⟨rfl, hb24⟩
  refine ⟨_, rfl, ?_⟩
  refine hK.out _ _ ⟨(blk_cell (blk_below hHeld.2.2.2.1 hb24) 1).trans rfl, (blk_cell (blk_below hHeld.2.2.2.1 hb24) 2).trans rfl, (blk_cell (blk_below hHeld.2.2.2.1 hb24) 5).trans rfl, blk_below hHeld.2.2.2.1 hb24, below_step hHeld.2.2.2.2 hb24⟩ (fun hHeld => ?_)
  clear hK K
  refine norm_ (a' := ?_) ?_ ?_
  rotate_left
  · show Act.put _ (some 49) _ = _
    simp only [Act.put, List.setIfInBounds_toArray, List.set_cons_zero, List.set_cons_succ, i64_w, i32_w]
    rfl
  refine pure_ (i := 25) (N := some 50) (v := ?_) (a' := ?_) #[true, true, true, true, true, true, true, true, true, true, true, true, true, true, true, true, true, true, true, true, true, true, true, true, true, true, true, false, false, true, true, false, false, false] rfl rfl (by kernel_rfl) (fun _ _ _ h => h) (Or.inl ⟨by rfl, ?_⟩) ?_ ?_
  rotate_left
  · intro w'
    go_simp
    with_reducible rfl
  rotate_left
  · simp only [Act.put, List.setIfInBounds_toArray, List.set_cons_zero, List.set_cons_succ, i64_w, i32_w]
    rfl
  refine one_ (i := 27) (N := some 52) #[true, true, true, true, true, true, true, true, true, true, true, true, true, true, true, true, true, true, true, true, true, true, true, true, true, true, true, true, false, true, true, false, false, false] rfl rfl (by kernel_rfl) (by decide) (fun K hK => ?_)
  refine goesC_ Try.func16 (by kernel_rfl) rfl #[.func (.func 23) #[] #[], .pointer (some ⟨gb, 0, none⟩)] (by rfl) rfl rfl rfl (by simp only [List.map_toArray, List.map_cons, List.map_nil]; rfl) ?_
  with_reducible refine (none_such 23 (enters_ Try.func23 (by kernel_rfl) rfl) _ service_not A c gb l _ (Kd.C_below HR.out hHeld.2.2.2.2) ((blk_cell hHeld.2.2.2.1 6).trans rfl)).mono ?_
  rintro e w24 ⟨rfl, hb24⟩
  refine ⟨_, rfl, ?_⟩
  refine hK.out _ _ ⟨(blk_cell (blk_below hHeld.2.2.2.1 hb24) 1).trans rfl, (blk_cell (blk_below hHeld.2.2.2.1 hb24) 2).trans rfl, (blk_cell (blk_below hHeld.2.2.2.1 hb24) 5).trans rfl, blk_below hHeld.2.2.2.1 hb24, below_step hHeld.2.2.2.2 hb24⟩ (fun hHeld => ?_)
  clear hK K
  refine norm_ (a' := ?_) ?_ ?_
  rotate_left
  · show Act.put _ (some 52) _ = _
    simp only [Act.put, List.setIfInBounds_toArray, List.set_cons_zero, List.set_cons_succ, i64_w, i32_w]
    rfl
  refine pure_ (i := 28) (N := some 53) (v := ?_) (a' := ?_) #[true, true, true, true, true, true, true, true, true, true, true, true, true, true, true, true, true, true, true, true, true, true, true, true, true, true, true, true, true, true, true, false, false, false] rfl rfl (by kernel_rfl) (fun _ _ _ h => h) (Or.inl ⟨by rfl, ?_⟩) ?_ ?_
  rotate_left
  · intro w'
    go_simp
    with_reducible rfl
  rotate_left
  · simp only [Act.put, List.setIfInBounds_toArray, List.set_cons_zero, List.set_cons_succ, i64_w, i32_w]
    rfl
  refine one_ (i := 31) (N := some 56) #[true, true, true, true, true, true, true, true, true, true, true, true, true, true, true, true, true, true, true, true, true, true, true, true, true, true, true, true, true, true, true, true, false, false] rfl rfl (by kernel_rfl) (by decide) (fun K hK => ?_)
  refine Kd.R_lit_step P.k46 _ 46 (by rfl) (N := 56) rfl (xs := ([⟨2, (kind == 2)⟩, ⟨3, false⟩, ⟨6, fleet == 0⟩, ⟨10, pl⟩, ⟨11, !(l.any fun d => d.f3 != 0 || d.f4 != 0)⟩, ⟨12, !(l.any fun d => d.f5 != 0)⟩, ⟨13, sg⟩] : List Look)) (inner := [.int .i64 2, .bool (kind == 2), .int .i64 3, .bool false, .int .i64 6, .bool (fleet == 0), .int .i64 10, .bool pl, .int .i64 11, .bool (!(l.any fun d => d.f3 != 0 || d.f4 != 0)), .int .i64 12, .bool (!(l.any fun d => d.f5 != 0)), .int .i64 13, .bool sg]) (ok := fun _ => True) (okp := fun _ => True) ?hr (Reps.c2 (P.k46_mkM _ _ _ _) (Reps.c2 (P.k46_mkM _ _ _ _) (Reps.c2 (P.k46_mkM _ _ _ _) (Reps.c2 (P.k46_mkM _ _ _ _) (Reps.c2 (P.k46_mkM _ _ _ _) (Reps.c2 (P.k46_mkM _ _ _ _) (Reps.c2 (P.k46_mkM _ _ _ _) (Reps.none _ _)))))))) (fun _ hk => hk) trivial (Below.refl _ _) (Nat.le_refl _) (by simp) ?_
  case hr => first | (go_simp; done) | (go_simp; rfl)
  intro v1 w31 hR hb31 _ _
  have HR31 := Aside0.mk hR
  clear hR
  obtain ⟨A31, c31, e31⟩ := Kd.R_slice HR31.out
  subst e31
  refine hK.out _ _ ⟨(blk_cell (blk_below hHeld.2.2.2.1 hb31) 1).trans rfl, (blk_cell (blk_below hHeld.2.2.2.1 hb31) 2).trans rfl, (blk_cell (blk_below hHeld.2.2.2.1 hb31) 5).trans rfl, blk_below hHeld.2.2.2.1 hb31, below_step hHeld.2.2.2.2 hb31⟩ (fun hHeld => ?_)
  clear hK K
  refine norm_ (a' := ?_) ?_ ?_
  rotate_left
  · show Act.put _ (some 56) _ = _
    simp only [Act.put, List.setIfInBounds_toArray, List.set_cons_zero, List.set_cons_succ, i64_w, i32_w]
    rfl
  refine one_ (i := 32) (N := some 57) #[true, true, true, true, true, true, true, true, true, true, true, true, true, true, true, true, true, true, true, true, true, true, true, true, true, true, true, true, true, true, true, true, true, false] rfl rfl (by kernel_rfl) (by decide) (fun K hK => ?_)
  refine goes_ Try.func20 (by kernel_rfl) rfl #[.slice A31 7 c31] (by rfl) rfl rfl (by simp only [List.map_toArray, List.map_cons, List.map_nil]; rfl) ?_
  refine (P.express_lacking.calls k A31 c31 [⟨2, (kind == 2)⟩, ⟨3, false⟩, ⟨6, fleet == 0⟩, ⟨10, pl⟩, ⟨11, !(l.any fun d => d.f3 != 0 || d.f4 != 0)⟩, ⟨12, !(l.any fun d => d.f5 != 0)⟩, ⟨13, sg⟩] r _ (Kd.R_reads' HR31.out).2.2 (Kd.R_reads' HR31.out).2.1 H2.out).mono ?_
  rintro e w32 ⟨v32, rfl, ho32, hb32⟩
  have HO32 := Aside0.mk (Kd.R_lower ho32 (below_size hHeld.2.2.2.2))
  have HB32 := Aside0.mk (below_step hHeld.2.2.2.2 hb32)
  have BK32 := Aside0.mk (blk_below hHeld.2.2.2.1 hb32)
  clear ho32 hb32
  obtain ⟨A32, c32, e32⟩ := Kd.R_slice HO32.out
  subst e32
  refine ⟨_, rfl, ?_⟩
  refine hK.out _ _ ⟨(blk_cell (BK32.out) 1).trans rfl, (blk_cell (BK32.out) 2).trans rfl, (blk_cell (BK32.out) 5).trans rfl, BK32.out, HB32.out⟩ (fun hHeld => ?_)
  clear hK K
  refine norm_ (a' := ?_) ?_ ?_
  rotate_left
  · show Act.put _ (some 57) _ = _
    simp only [Act.put, List.setIfInBounds_toArray, List.set_cons_zero, List.set_cons_succ, i64_w, i32_w]
    rfl
  refine pure_ (i := 33) (N := some 4) (v := ?_) (a' := ?_) #[true, true, true, true, true, true, true, true, true, true, true, true, true, true, true, true, true, true, true, true, true, true, true, true, true, true, true, true, true, true, true, true, true, true] rfl rfl (by kernel_rfl) (fun _ _ _ h => h) (Or.inl ⟨by rfl, ?_⟩) ?_ ?_
  rotate_left
  · intro w'
    go_simp
    with_reducible rfl
  rotate_left
  · simp only [Act.put, List.setIfInBounds_toArray, List.set_cons_zero, List.set_cons_succ, i64_w, i32_w]
    rfl
  refine done_ (by kernel_rfl) ?_

  clear H2
  go_wp2
  go_ret
  exact ⟨_, rfl, HO32.out, HB32.out⟩

set_option maxRecDepth 100000 in
set_option maxHeartbeats 4000000 in
theorem lacks2 (name : ByteArray) (fmt kind metric scale cap fleet : Int) (A : Option Addr) (c : Nat) (l : List Node) (A' : Option Addr) (c' : Nat) (m : List Int) (r : List Int) (k : Nat) (w : World) (hr : Kd.C P.k40 w A l.length l) (h : P.express_lacking.f k (looks2 kind metric fleet l) = some r) :
    Calls Try.prog 9 #[.int .i64 2, .agg #[.string name, .int .i64 kind, .int .i64 metric, .int .i64 scale, .int .i64 cap, .int .i64 fleet, .slice A l.length c, .slice A' m.length c']] w fun e w' =>
      ∃ v0_ : Value, e = .returned v0_ ∧ Kd.R (Kd.int .i64) 3 w' w.heap.size (fun _ => True) v0_ r ∧ Below w.heap.size w w' := by
  have hu := Try.underlying25
  have hul := Try.underlying46
  have HR := Aside0.mk hr
  clear hr
  have H2 : Aside0 (P.express_lacking.f k [⟨2, kind == 3⟩, ⟨3, metric == 6⟩, ⟨6, decide (1 ≤ fleet)⟩, ⟨10, pos l⟩, ⟨13, single l⟩] = some r) := ⟨h⟩
  clear h
  go_enter Try.func9, Try.ntmps9
  go_upto_region 1 with (((with_reducible refine gate_dst (N := 3) rfl ?_); refine box_event ?hg (N := 3) ?hd (cs := #[.string name, .int .i64 kind, .int .i64 metric, .int .i64 scale, .int .i64 cap, .int .i64 fleet, .slice A l.length c, .slice A' m.length c']) (t := 25) ?hr ?_; (case hd => rfl); (case hg => rfl); (case hr => first | (go_simp; done) | (go_simp; rfl)); intro gb hgb w1 hbox hb; have hge : Aside0 (w.heap.size ≤ gb) := ⟨by rw [hgb]; exact Nat.le_refl _⟩; have HB := Aside0.mk hb; have BK := Aside0.mk hbox; clear hgb hb hbox))
  go_wp2_with (fail)
  refine (none_such 18 (enters_ Try.func18 (by kernel_rfl) rfl) _ demand_neg A c gb l _ (Kd.C_below HR.out HB.out) ((blk_cell BK.out 6).trans rfl)).mono ?_
  rintro e w2 ⟨rfl, hb2⟩
  have BK2 := Aside0.mk (blk_below BK.out hb2)
  have HB2 := Aside0.mk (below_step HB.out hb2)
  clear hb2 HB BK
  go_wp2_with (fail)
  refine (none_such 19 (enters_ Try.func19 (by kernel_rfl) rfl) _ mate_not A c gb l _ (Kd.C_below HR.out HB2.out) ((blk_cell BK2.out 6).trans rfl)).mono ?_
  rintro e w3 ⟨rfl, hb3⟩
  have BK := Aside0.mk (blk_below BK2.out hb3)
  have HB := Aside0.mk (below_step HB2.out hb3)
  clear hb3 HB2 BK2
  obtain ⟨pl, hpl⟩ : ∃ b, b = pos l := ⟨_, rfl⟩
  obtain ⟨sg, hsg⟩ : ∃ b, b = single l := ⟨_, rfl⟩
  rw [show (!l.any fun d => decide (d.f2 < 0)) = pl from hpl.symm, show (!l.any fun d => d.f6 != 0) = sg from hsg.symm]
  rw [← hpl, ← hsg] at H2
  have Hpl := Aside0.mk hpl
  have Hsg := Aside0.mk hsg
  clear hpl hsg
  have q2 := (blk_cell BK.out 2).trans rfl
  have q5 := (blk_cell BK.out 5).trans rfl
  go_wp2_with (fail)
  go_quiet (fail)
  have HB := Aside0.mk (pw_below_drewN HB.out nq)
  have BK := Aside0.mk (blk_drewN BK.out nq)
  generalize w3.drewN nq = w4 at *
  clear q2 q5
  have q1 := (blk_cell BK.out 1).trans rfl
  go_wp2_with (first
    | ((with_reducible refine gate_dst (N := 72) rfl ?_); refine Kd.R_lit P.k46 _ 46 ?hg (N := 72) ?hd (xs := ([⟨2, kind == 3⟩, ⟨3, metric == 6⟩, ⟨6, decide (1 ≤ fleet)⟩, ⟨10, pl⟩, ⟨13, sg⟩] : List Look)) (inner := [.int .i64 2, .bool (kind == 3), .int .i64 3, .bool (metric == 6), .int .i64 6, .bool (decide (1 ≤ fleet)), .int .i64 10, .bool pl, .int .i64 13, .bool sg]) (ok := fun _ => True) (okp := fun _ => True) ?hr ?hp (fun _ hk => hk) trivial (Below.refl _ _) (Nat.le_refl _) (by simp) ?_; (case hd => rfl); (case hg => rfl); (case hr => first | (go_simp; done) | (go_simp; rfl)); (case hp => exact (Reps.c2 (P.k46_mkM _ _ _ _) (Reps.c2 (P.k46_mkM _ _ _ _) (Reps.c2 (P.k46_mkM _ _ _ _) (Reps.c2 (P.k46_mkM _ _ _ _) (Reps.c2 (P.k46_mkM _ _ _ _) (Reps.none _ _))))))); intro v1 w5 hR hb5 _ _; have HR5 := Aside0.mk hR; have HB5 := Aside0.mk (below_step HB.out hb5); clear hR hb5 HB BK; obtain ⟨A5, c5, e5⟩ := Kd.R_slice HR5.out; subst e5)
    | fail)
  refine (P.express_lacking.calls k A5 c5 _ r _ (Kd.R_reads' HR5.out).2.2 (Kd.R_reads' HR5.out).2.1 H2.out).mono ?_
  rintro e w6 ⟨v6, rfl, ho6, hb6⟩
  have HB6 := Aside0.mk (below_step HB5.out hb6)
  have HO6 := Aside0.mk (Kd.R_lower ho6 (below_size HB5.out))
  clear ho6 hb6 HR5 HB5 H2
  obtain ⟨A6, c6, e6⟩ := Kd.R_slice HO6.out
  subst e6
  go_wp2
  go_ret
  exact ⟨_, rfl, HO6.out, HB6.out⟩

set_option maxRecDepth 100000 in
set_option maxHeartbeats 4000000 in
theorem lacks3 (name : ByteArray) (fmt kind metric scale cap fleet : Int) (A : Option Addr) (c : Nat) (l : List Node) (A' : Option Addr) (c' : Nat) (m : List Int) (r : List Int) (k : Nat) (w : World) (hr : Kd.C P.k40 w A l.length l) (h : P.express_lacking.f k (looks3 name kind metric scale fleet) = some r) :
    Calls Try.prog 9 #[.int .i64 3, .agg #[.string name, .int .i64 kind, .int .i64 metric, .int .i64 scale, .int .i64 cap, .int .i64 fleet, .slice A l.length c, .slice A' m.length c']] w fun e w' =>
      ∃ v0_ : Value, e = .returned v0_ ∧ Kd.R (Kd.int .i64) 3 w' w.heap.size (fun _ => True) v0_ r ∧ Below w.heap.size w w' := by
  have hu := Try.underlying25
  have hul := Try.underlying46
  have HR := Aside0.mk hr
  clear hr
  obtain ⟨nm, hnm⟩ : ∃ b, b = isLilim name := ⟨_, rfl⟩
  have H2 : Aside0 (P.express_lacking.f k [⟨1, nm⟩, ⟨2, kind == 4⟩, ⟨3, metric == 6⟩, ⟨4, scale == 0⟩, ⟨6, decide (1 ≤ fleet)⟩] = some r) := ⟨by rw [hnm]; exact h⟩
  have hnm2 : (name.toList == [108, 105, 108, 105, 109]) = nm := hnm.symm
  clear h hnm
  go_enter Try.func9, Try.ntmps9
  go_upto_region 1 with (((with_reducible refine gate_dst (N := 3) rfl ?_); refine box_event ?hg (N := 3) ?hd (cs := #[.string name, .int .i64 kind, .int .i64 metric, .int .i64 scale, .int .i64 cap, .int .i64 fleet, .slice A l.length c, .slice A' m.length c']) (t := 25) ?hr ?_; (case hd => rfl); (case hg => rfl); (case hr => first | (go_simp; done) | (go_simp; rfl)); intro gb hgb w1 hbox hb; have hge : Aside0 (w.heap.size ≤ gb) := ⟨by rw [hgb]; exact Nat.le_refl _⟩; have HB := Aside0.mk hb; have BK := Aside0.mk hbox; clear hgb hb hbox))
  go_wp2_with (fail)
  refine (none_such 18 (enters_ Try.func18 (by kernel_rfl) rfl) _ demand_neg A c gb l _ (Kd.C_below HR.out HB.out) ((blk_cell BK.out 6).trans rfl)).mono ?_
  rintro e w2 ⟨rfl, hb2⟩
  have BK2 := Aside0.mk (blk_below BK.out hb2)
  have HB2 := Aside0.mk (below_step HB.out hb2)
  clear hb2 HB BK
  go_wp2_with (fail)
  refine (none_such 19 (enters_ Try.func19 (by kernel_rfl) rfl) _ mate_not A c gb l _ (Kd.C_below HR.out HB2.out) ((blk_cell BK2.out 6).trans rfl)).mono ?_
  rintro e w3 ⟨rfl, hb3⟩
  have BK := Aside0.mk (blk_below BK2.out hb3)
  have HB := Aside0.mk (below_step HB2.out hb3)
  clear hb3 HB2 BK2
  obtain ⟨pl, hpl⟩ : ∃ b, b = pos l := ⟨_, rfl⟩
  obtain ⟨sg, hsg⟩ : ∃ b, b = single l := ⟨_, rfl⟩
  rw [show (!l.any fun d => decide (d.f2 < 0)) = pl from hpl.symm, show (!l.any fun d => d.f6 != 0) = sg from hsg.symm]
  have Hpl := Aside0.mk hpl
  have Hsg := Aside0.mk hsg
  clear hpl hsg
  have q2 := (blk_cell BK.out 2).trans rfl
  have q5 := (blk_cell BK.out 5).trans rfl
  go_wp2_with (fail)
  go_quiet (fail)
  have HB := Aside0.mk (pw_below_drewN HB.out nq)
  have BK := Aside0.mk (blk_drewN BK.out nq)
  generalize w3.drewN nq = w4 at *
  clear q2 q5
  have q0 := (blk_cell BK.out 0).trans rfl
  have q1 := (blk_cell BK.out 1).trans rfl
  have q3 := (blk_cell BK.out 3).trans rfl
  go_wp2_with (first
    | ((with_reducible refine gate_dst (N := 92) rfl ?_); refine Kd.R_lit P.k46 _ 46 ?hg (N := 92) ?hd (xs := ([⟨1, nm⟩, ⟨2, kind == 4⟩, ⟨3, metric == 6⟩, ⟨4, scale == 0⟩, ⟨6, decide (1 ≤ fleet)⟩] : List Look)) (inner := [.int .i64 1, .bool nm, .int .i64 2, .bool (kind == 4), .int .i64 3, .bool (metric == 6), .int .i64 4, .bool (scale == 0), .int .i64 6, .bool (decide (1 ≤ fleet))]) (ok := fun _ => True) (okp := fun _ => True) ?hr ?hp (fun _ hk => hk) trivial (Below.refl _ _) (Nat.le_refl _) (by simp) ?_; (case hd => rfl); (case hg => rfl); (case hr => first | (go_simp; done) | (go_simp; rfl)); (case hp => exact (Reps.c2 (P.k46_mkM _ _ _ _) (Reps.c2 (P.k46_mkM _ _ _ _) (Reps.c2 (P.k46_mkM _ _ _ _) (Reps.c2 (P.k46_mkM _ _ _ _) (Reps.c2 (P.k46_mkM _ _ _ _) (Reps.none _ _))))))); intro v1 w5 hR hb5 _ _; have HR5 := Aside0.mk hR; have HB5 := Aside0.mk (below_step HB.out hb5); clear hR hb5 HB BK; obtain ⟨A5, c5, e5⟩ := Kd.R_slice HR5.out; subst e5)
    | fail)
  refine (P.express_lacking.calls k A5 c5 _ r _ (Kd.R_reads' HR5.out).2.2 (Kd.R_reads' HR5.out).2.1 H2.out).mono ?_
  rintro e w6 ⟨v6, rfl, ho6, hb6⟩
  have HB6 := Aside0.mk (below_step HB5.out hb6)
  have HO6 := Aside0.mk (Kd.R_lower ho6 (below_size HB5.out))
  clear ho6 hb6 HR5 HB5 H2
  obtain ⟨A6, c6, e6⟩ := Kd.R_slice HO6.out
  subst e6
  go_wp2
  go_ret
  exact ⟨_, rfl, HO6.out, HB6.out⟩

set_option maxRecDepth 100000 in
set_option maxHeartbeats 4000000 in
theorem lacks4 (name : ByteArray) (fmt kind metric scale cap fleet : Int) (A : Option Addr) (c : Nat) (l : List Node) (A' : Option Addr) (c' : Nat) (m : List Int) (r : List Int) (k : Nat) (w : World) (hr : Kd.C P.k40 w A l.length l)  :
    Calls Try.prog 9 #[.int .i64 4, .agg #[.string name, .int .i64 kind, .int .i64 metric, .int .i64 scale, .int .i64 cap, .int .i64 fleet, .slice A l.length c, .slice A' m.length c']] w fun e w' =>
      ∃ v0_ : Value, e = .returned v0_ ∧ Kd.R (Kd.int .i64) 3 w' w.heap.size (fun _ => True) v0_ [] ∧ Below w.heap.size w w' := by
  have hu := Try.underlying25
  have hul := Try.underlying46
  have HR := Aside0.mk hr
  clear hr
  go_enter Try.func9, Try.ntmps9
  go_upto_region 1 with (((with_reducible refine gate_dst (N := 3) rfl ?_); refine box_event ?hg (N := 3) ?hd (cs := #[.string name, .int .i64 kind, .int .i64 metric, .int .i64 scale, .int .i64 cap, .int .i64 fleet, .slice A l.length c, .slice A' m.length c']) (t := 25) ?hr ?_; (case hd => rfl); (case hg => rfl); (case hr => first | (go_simp; done) | (go_simp; rfl)); intro gb hgb w1 hbox hb; have hge : Aside0 (w.heap.size ≤ gb) := ⟨by rw [hgb]; exact Nat.le_refl _⟩; have HB := Aside0.mk hb; have BK := Aside0.mk hbox; clear hgb hb hbox))
  go_wp2_with (fail)
  refine (none_such 18 (enters_ Try.func18 (by kernel_rfl) rfl) _ demand_neg A c gb l _ (Kd.C_below HR.out HB.out) ((blk_cell BK.out 6).trans rfl)).mono ?_
  rintro e w2 ⟨rfl, hb2⟩
  have BK2 := Aside0.mk (blk_below BK.out hb2)
  have HB2 := Aside0.mk (below_step HB.out hb2)
  clear hb2 HB BK
  go_wp2_with (fail)
  refine (none_such 19 (enters_ Try.func19 (by kernel_rfl) rfl) _ mate_not A c gb l _ (Kd.C_below HR.out HB2.out) ((blk_cell BK2.out 6).trans rfl)).mono ?_
  rintro e w3 ⟨rfl, hb3⟩
  have BK := Aside0.mk (blk_below BK2.out hb3)
  have HB := Aside0.mk (below_step HB2.out hb3)
  clear hb3 HB2 BK2
  obtain ⟨pl, hpl⟩ : ∃ b, b = pos l := ⟨_, rfl⟩
  obtain ⟨sg, hsg⟩ : ∃ b, b = single l := ⟨_, rfl⟩
  rw [show (!l.any fun d => decide (d.f2 < 0)) = pl from hpl.symm, show (!l.any fun d => d.f6 != 0) = sg from hsg.symm]
  have Hpl := Aside0.mk hpl
  have Hsg := Aside0.mk hsg
  clear hpl hsg
  have q2 := (blk_cell BK.out 2).trans rfl
  have q5 := (blk_cell BK.out 5).trans rfl
  go_wp2_with (fail)
  go_quiet (fail)
  have HB := Aside0.mk (pw_below_drewN HB.out nq)
  have BK := Aside0.mk (blk_drewN BK.out nq)
  generalize w3.drewN nq = w4 at *
  clear q2 q5
  go_wp2
  go_ret
  exact ⟨_, rfl, Kd.R_nil _ _ _ _ _, HB.out⟩

set_option maxRecDepth 100000 in
set_option maxHeartbeats 4000000 in
theorem lacks5 (name : ByteArray) (fmt kind metric scale cap fleet : Int) (A : Option Addr) (c : Nat) (l : List Node) (A' : Option Addr) (c' : Nat) (m : List Int) (r : List Int) (k : Nat) (w : World) (hr : Kd.C P.k40 w A l.length l)  :
    Calls Try.prog 9 #[.int .i64 5, .agg #[.string name, .int .i64 kind, .int .i64 metric, .int .i64 scale, .int .i64 cap, .int .i64 fleet, .slice A l.length c, .slice A' m.length c']] w fun e w' =>
      ∃ v0_ : Value, e = .returned v0_ ∧ Kd.R (Kd.int .i64) 3 w' w.heap.size (fun _ => True) v0_ [] ∧ Below w.heap.size w w' := by
  have hu := Try.underlying25
  have hul := Try.underlying46
  have HR := Aside0.mk hr
  clear hr
  go_enter Try.func9, Try.ntmps9
  go_upto_region 1 with (((with_reducible refine gate_dst (N := 3) rfl ?_); refine box_event ?hg (N := 3) ?hd (cs := #[.string name, .int .i64 kind, .int .i64 metric, .int .i64 scale, .int .i64 cap, .int .i64 fleet, .slice A l.length c, .slice A' m.length c']) (t := 25) ?hr ?_; (case hd => rfl); (case hg => rfl); (case hr => first | (go_simp; done) | (go_simp; rfl)); intro gb hgb w1 hbox hb; have hge : Aside0 (w.heap.size ≤ gb) := ⟨by rw [hgb]; exact Nat.le_refl _⟩; have HB := Aside0.mk hb; have BK := Aside0.mk hbox; clear hgb hb hbox))
  go_wp2_with (fail)
  refine (none_such 18 (enters_ Try.func18 (by kernel_rfl) rfl) _ demand_neg A c gb l _ (Kd.C_below HR.out HB.out) ((blk_cell BK.out 6).trans rfl)).mono ?_
  rintro e w2 ⟨rfl, hb2⟩
  have BK2 := Aside0.mk (blk_below BK.out hb2)
  have HB2 := Aside0.mk (below_step HB.out hb2)
  clear hb2 HB BK
  go_wp2_with (fail)
  refine (none_such 19 (enters_ Try.func19 (by kernel_rfl) rfl) _ mate_not A c gb l _ (Kd.C_below HR.out HB2.out) ((blk_cell BK2.out 6).trans rfl)).mono ?_
  rintro e w3 ⟨rfl, hb3⟩
  have BK := Aside0.mk (blk_below BK2.out hb3)
  have HB := Aside0.mk (below_step HB2.out hb3)
  clear hb3 HB2 BK2
  obtain ⟨pl, hpl⟩ : ∃ b, b = pos l := ⟨_, rfl⟩
  obtain ⟨sg, hsg⟩ : ∃ b, b = single l := ⟨_, rfl⟩
  rw [show (!l.any fun d => decide (d.f2 < 0)) = pl from hpl.symm, show (!l.any fun d => d.f6 != 0) = sg from hsg.symm]
  have Hpl := Aside0.mk hpl
  have Hsg := Aside0.mk hsg
  clear hpl hsg
  have q2 := (blk_cell BK.out 2).trans rfl
  have q5 := (blk_cell BK.out 5).trans rfl
  go_wp2_with (fail)
  go_quiet (fail)
  have HB := Aside0.mk (pw_below_drewN HB.out nq)
  have BK := Aside0.mk (blk_drewN BK.out nq)
  generalize w3.drewN nq = w4 at *
  clear q2 q5
  go_wp2
  go_ret
  exact ⟨_, rfl, Kd.R_nil _ _ _ _ _, HB.out⟩

set_option maxRecDepth 100000 in
set_option maxHeartbeats 4000000 in
theorem lacks_other (name : ByteArray) (fmt kind metric scale cap fleet : Int) (A : Option Addr) (c : Nat) (l : List Node) (A' : Option Addr) (c' : Nat) (m : List Int) (r : List Int) (k : Nat) (w : World) (hr : Kd.C P.k40 w A l.length l) (f1 : (fmt == 1) = false) (f2 : (fmt == 2) = false) (f3 : (fmt == 3) = false) (f4 : (fmt == 4) = false) (f5 : (fmt == 5) = false) :
    Calls Try.prog 9 #[.int .i64 fmt, .agg #[.string name, .int .i64 kind, .int .i64 metric, .int .i64 scale, .int .i64 cap, .int .i64 fleet, .slice A l.length c, .slice A' m.length c']] w fun e w' =>
      ∃ v0_ : Value, e = .returned v0_ ∧ Kd.R (Kd.int .i64) 3 w' w.heap.size (fun _ => True) v0_ (upto 13) ∧ Below w.heap.size w w' := by
  have hu := Try.underlying25
  have hul := Try.underlying46
  have HR := Aside0.mk hr
  clear hr
  go_enter Try.func9, Try.ntmps9
  go_upto_region 1 with (((with_reducible refine gate_dst (N := 3) rfl ?_); refine box_event ?hg (N := 3) ?hd (cs := #[.string name, .int .i64 kind, .int .i64 metric, .int .i64 scale, .int .i64 cap, .int .i64 fleet, .slice A l.length c, .slice A' m.length c']) (t := 25) ?hr ?_; (case hd => rfl); (case hg => rfl); (case hr => first | (go_simp; done) | (go_simp; rfl)); intro gb hgb w1 hbox hb; have hge : Aside0 (w.heap.size ≤ gb) := ⟨by rw [hgb]; exact Nat.le_refl _⟩; have HB := Aside0.mk hb; have BK := Aside0.mk hbox; clear hgb hb hbox))
  go_wp2_with (fail)
  refine (none_such 18 (enters_ Try.func18 (by kernel_rfl) rfl) _ demand_neg A c gb l _ (Kd.C_below HR.out HB.out) ((blk_cell BK.out 6).trans rfl)).mono ?_
  rintro e w2 ⟨rfl, hb2⟩
  have BK2 := Aside0.mk (blk_below BK.out hb2)
  have HB2 := Aside0.mk (below_step HB.out hb2)
  clear hb2 HB BK
  go_wp2_with (fail)
  refine (none_such 19 (enters_ Try.func19 (by kernel_rfl) rfl) _ mate_not A c gb l _ (Kd.C_below HR.out HB2.out) ((blk_cell BK2.out 6).trans rfl)).mono ?_
  rintro e w3 ⟨rfl, hb3⟩
  have BK := Aside0.mk (blk_below BK2.out hb3)
  have HB := Aside0.mk (below_step HB2.out hb3)
  clear hb3 HB2 BK2
  obtain ⟨pl, hpl⟩ : ∃ b, b = pos l := ⟨_, rfl⟩
  obtain ⟨sg, hsg⟩ : ∃ b, b = single l := ⟨_, rfl⟩
  rw [show (!l.any fun d => decide (d.f2 < 0)) = pl from hpl.symm, show (!l.any fun d => d.f6 != 0) = sg from hsg.symm]
  have Hpl := Aside0.mk hpl
  have Hsg := Aside0.mk hsg
  clear hpl hsg
  have q2 := (blk_cell BK.out 2).trans rfl
  have q5 := (blk_cell BK.out 5).trans rfl
  go_wp2_with (fail)
  go_quiet (fail)
  have HB := Aside0.mk (pw_below_drewN HB.out nq)
  have BK := Aside0.mk (blk_drewN BK.out nq)
  generalize w3.drewN nq = w4 at *
  clear q2 q5
  go_wp2_with fail
  clear BK
  go_loopw [4, 10] (fun v i wr => ∃ j : Nat, i = .int .i64 (j + 1) ∧ j ≤ 13 ∧ Aside0 (Kd.R (Kd.int .i64) 3 wr w.heap.size (fun _ => True) v (upto j)) ∧ Aside0 (Below w.heap.size w wr)) (fun _ i _ => 14 - (intOf i).toNat)
  case atStart => exact ⟨0, rfl, by omega, ⟨Kd.R_nil _ _ _ _ _⟩, HB⟩
  case round =>
    clear HB
    obtain ⟨j, rfl, hj, HO, HB⟩ := hrel
    by_cases hlt : j < 13
    · have i1 : (j : Int) + 1 ≤ 13 := by omega
      obtain ⟨Av, cv, ev⟩ := Kd.R_slice HO.out
      subst ev
      have hl := upto_len j
      have Hs := Aside0.mk (upto_succ j)
      have Hl := Aside0.mk hl
      generalize upto j = xs at *
      clear hl
      go_wp2_with (first
        | ((with_reducible refine gate_builtin (b := .append) (xs := #[.tmp 101, .tmp 103]) rfl ?_); at_builtin; refine Kd.R_append (Kd.int .i64) (w0 := w) w.heap.size rfl (.tmp 101) (.tmp 103) 23 3 (.int .i64 0) 8 rfl Try.underlying23 P.info3 rfl (by decide) (by omega) (.slice Av xs.length cv) xs ((j : Int) + 1) [.int .i64 ((j : Int) + 1)] (fun _ => True) (fun _ => False) rfl (by first | (go_simp; done) | (go_simp; rfl)) ?aP (fun _ hk => hk.elim) ?aF ?aO ?aB ?aS ?aL ?_; (case aP => exact rfl); (case aB => exact HB.out); (case aF => exact (fun _ _ => trivial)); (case aO => exact HO.out); (case aS => exact below_size HB.out); (case aL => have := Hl.out; omega); intro v1 w5 ho5 hb5 _ _; have HO5 := Aside0.mk ho5; have HB5 := Aside0.mk hb5; clear ho5 hb5 HO HB; obtain ⟨A5, c5, e5⟩ := Kd.R_slice HO5.out; subst e5)
        | fail)
      go_roundw
      case rel => exact ⟨j + 1, by go_num, by omega, ⟨by rw [Hs.out]; have e := HO5.out; rw [show (xs ++ [(j : Int) + 1]).length = xs.length + 1 by simp] at e; exact e⟩, HB5⟩
      case measure => simp [intOf]; omega
    · obtain rfl : j = 13 := by omega
      obtain ⟨Av, cv, ev⟩ := Kd.R_slice HO.out
      subst ev
      go_wp2
      go_ret
      exact ⟨_, rfl, HO.out, HB.out⟩
end LacksWalk
end Go.Proofs.Ytmapllahhpdedaa
