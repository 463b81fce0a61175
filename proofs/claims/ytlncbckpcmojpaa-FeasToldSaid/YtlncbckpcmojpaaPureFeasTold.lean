/- Whatever the instance and the plan, if they are no longer than the bound and the instance is well-formed: what is told is of this plan, and of one route nothing is told of load or lateness twice. -/
import Derived.Test.YtlncbckpcmojpaaMkj
import Derived.Test.YtlncbckpcmojpaaMka
import Derived.Test.YtlncbckpcmojpaaPxEntrepotlaw11FeasTold
set_option linter.unusedVariables false
namespace Go.Proofs.Ytlncbckpcmojpaa.Pure
open Go.RowKit Go.Proofs.Ytlncbckpcmojpaa.P Go.Proofs.YtlncbckpcmojpaaW.PrintWords Go.Proofs.YtlncbckpcmojpaaW.PrintLast
open FeasWalk FeasP
open Well11 (w64s wellF good_of)
/-- How often a node is a stop of the routes that are looked at. -/
def tot (rs : List (List Int)) (c r s : Int) (i : Nat) : Nat := ((List.range i).map fun k : Nat => if (c ≤ 3 ∧ c ≠ 1) ∨ (k : Int) = r then (rd_L1 rs (k : Int)).count s else 0).sum
theorem tot_succ (rs : List (List Int)) (c r s : Int) (i : Nat) : tot rs c r s (i + 1) = tot rs c r s i + (if (c ≤ 3 ∧ c ≠ 1) ∨ (i : Int) = r then (rd_L1 rs (i : Int)).count s else 0) := by
  unfold tot; rw [List.range_succ, List.map_append, List.sum_append]; simp
theorem tot_le {rs : List (List Int)} (hf : Few rs) (c r s : Int) : ∀ i, i ≤ rs.length → tot rs c r s i ≤ 300 * i
  | 0, _ => by simp [tot]
  | i + 1, h => by
    rw [tot_succ]
    have h1 := tot_le hf c r s i (by omega)
    have h2 := hf.2 i (by omega)
    have h3 : (rd_L1 rs (i : Int)).count s ≤ (rd_L1 rs (i : Int)).length := List.count_le_length
    split <;> omega
theorem le_tot (rs : List (List Int)) (c r s : Int) {j : Nat} (hj : (j : Int) = r) : ∀ i, j < i → (rd_L1 rs (j : Int)).count s ≤ tot rs c r s i
  | 0, h => by omega
  | i + 1, h => by
    rw [tot_succ]
    by_cases e : j = i
    · subst e; rw [if_pos (.inr hj)]; omega
    · have := le_tot rs c r s hj i (by omega); omega
theorem tot_all (rs : List (List Int)) {c : Int} (r s : Int) (hc : c ≤ 3 ∧ c ≠ 1) : tot rs c r s rs.length = rs.flatten.count s := by
  unfold tot
  rw [show (fun k : Nat => if (c ≤ 3 ∧ c ≠ 1) ∨ (k : Int) = r then (rd_L1 rs (k : Int)).count s else 0) = (List.count s) ∘ fun k : Nat => rd_L1 rs (k : Int) from funext fun k => if_pos (.inl hc), ← List.map_map, rows_eq, List.count_flatten]
theorem told3 {l : List Wrong} {i : Nat} {rs : List (List Int)} (hi : i < l.length) (hl : l.length ≤ 1000000) (hp : ∀ j (hj : j < i), Apart (l[j]'(by omega)) l[i]) (hn : Ev (fun k => entrepotlaw11_FeasTold.l0 k l ((i + 1 : Nat) : Int) rs) true) (d : Nat) :
    ∀ j : Nat, j + d = i → Ev (fun k => entrepotlaw11_FeasTold.l3 k l (i : Int) (j : Int) rs l[i].f0 l[i].f1 l[i].f2) true := by
  induction d with
  | zero =>
    intro j hj
    refine Ev.step (fun _ => entrepotlaw11_FeasTold.l3.eq_2 ..) (Ev.neg (by omega) ?_)
    rw [w64s (by omega)]; exact hn
  | succ d ih =>
    intro j hj
    have next := ih (j + 1) (by omega)
    obtain ⟨h1, h2⟩ := hp j (by omega)
    refine Ev.step (fun _ => entrepotlaw11_FeasTold.l3.eq_2 ..) (Ev.pos (by omega) (Ev.pos (by omega) (Ev.pos (by omega) ?_)))
    have e : rd_T37 l (j : Int) = l[j]'(by omega) := by
      unfold rd_T37; rw [Int.toNat_natCast, List.getD_eq_getElem?_getD, List.getElem?_eq_getElem (by omega)]; rfl
    rw [e, w64s (by omega)]
    generalize l[j]'(by omega) = a at *
    generalize l[i] = b at *
    have last : Ev (fun k => if ((a.f0 == 1) != (b.f0 == 1)) = true then some false else entrepotlaw11_FeasTold.l3 k l (i : Int) ((j + 1 : Nat) : Int) rs b.f0 b.f1 b.f2) true := by
      refine Ev.neg ?_ next
      by_cases c : a.f0 = 1
      · rw [beq_iff_eq.2 c, beq_iff_eq.2 (h2.1 c)]; simp
      · rw [beq_eq_false_iff_ne.2 c, beq_eq_false_iff_ne.2 (fun e => c (h2.2 e))]; simp
    by_cases c0 : a.f0 = b.f0
    · refine Ev.pos c0 ?_
      by_cases c1 : a.f1 = b.f1
      · have h3 := h1 c0 c1
        exact Ev.pos c1 (Ev.neg (by omega) (Ev.neg (by omega) (Ev.neg (by omega) last)))
      · exact Ev.neg c1 last
    · exact Ev.neg c0 last
theorem told2 {l : List Wrong} {i : Int} {rs : List (List Int)} (hf : Few rs) {kk : Nat} (hk : kk < rs.length) (c r s : Int) (m : Nat) (hm : m ≤ 300000) {ret : Bool}
    (hn : Ev (fun k => entrepotlaw11_FeasTold.l1 k l i ((m + (if (c ≤ 3 ∧ c ≠ 1) ∨ (kk : Int) = r then (rd_L1 rs (kk : Int)).count s else 0) : Nat) : Int) ((kk + 1 : Nat) : Int) rs c r s) ret) (d : Nat) :
    ∀ j : Nat, j + d = (rd_L1 rs (kk : Int)).length → Ev (fun k => entrepotlaw11_FeasTold.l2 k l i ((m + (if (c ≤ 3 ∧ c ≠ 1) ∨ (kk : Int) = r then ((rd_L1 rs (kk : Int)).take j).count s else 0) : Nat) : Int) (kk : Int) (j : Int) rs c r s) ret := by
  have hlen := hf.2 kk hk
  have hk2 := hf.1
  induction d with
  | zero =>
    intro j hj
    refine Ev.step (fun _ => entrepotlaw11_FeasTold.l2.eq_2 ..) (Ev.pos (by omega) (Ev.pos (by omega) (Ev.neg (by omega) ?_)))
    rw [List.take_of_length_le (by omega), w64s (by omega)]; exact hn
  | succ d ih =>
    intro j hj
    have next := ih (j + 1) (by omega)
    refine Ev.step (fun _ => entrepotlaw11_FeasTold.l2.eq_2 ..) (Ev.pos (by omega) (Ev.pos (by omega) (Ev.pos (by omega) (Ev.pos (by omega) ?_))))
    have hjl : j < (rd_L1 rs (kk : Int)).length := by omega
    rw [List.take_succ_eq_append_getElem hjl, List.count_append] at next
    rw [rd_at' hjl, w64s (i := j) (by omega)]
    have hcl : ((rd_L1 rs (kk : Int)).take j).count s ≤ j := Nat.le_trans List.count_le_length (by rw [List.length_take]; omega)
    generalize ((rd_L1 rs (kk : Int)).take j).count s = q at *
    generalize (rd_L1 rs (kk : Int))[j] = a at *
    by_cases ca : a = s
    · have one : [a].count s = 1 := by rw [ca]; simp
      rw [one] at next
      refine Ev.pos ca ?_
      have up : ((c ≤ 3 ∧ c ≠ 1) ∨ (kk : Int) = r) → Ev (fun k => entrepotlaw11_FeasTold.l2 k l i (wrap64 (((m + (if (c ≤ 3 ∧ c ≠ 1) ∨ (kk : Int) = r then q else 0) : Nat) : Int) + 1)) (kk : Int) ((j + 1 : Nat) : Int) rs c r s) ret := fun h => by
        rw [if_pos h] at next ⊢
        rw [w64s (by omega)]; exact next
      have no : ¬ ((c ≤ 3 ∧ c ≠ 1) ∨ (kk : Int) = r) → Ev (fun k => entrepotlaw11_FeasTold.l2 k l i ((m + (if (c ≤ 3 ∧ c ≠ 1) ∨ (kk : Int) = r then q else 0) : Nat) : Int) (kk : Int) ((j + 1 : Nat) : Int) rs c r s) ret := fun h => by
        rw [if_neg h] at next ⊢; exact next
      by_cases c3 : c ≤ 3
      · refine Ev.pos c3 ?_
        by_cases c1 : c = 1
        · refine Ev.pos c1 ?_
          by_cases cr : (kk : Int) = r
          · exact Ev.pos cr (up (.inr cr))
          · exact Ev.neg cr (no (by omega))
        · exact Ev.neg c1 (up (.inl ⟨c3, c1⟩))
      · refine Ev.neg c3 ?_
        by_cases cr : (kk : Int) = r
        · exact Ev.pos cr (up (.inr cr))
        · exact Ev.neg cr (no (by omega))
    · have one : [a].count s = 0 := by simp [ca]
      rw [one] at next
      exact Ev.neg ca next
theorem told1 {l : List Wrong} {i : Int} {rs : List (List Int)} (hf : Few rs) (c r s : Int) {ret : Bool} (hn : Ev (fun k => entrepotlaw11_FeasTold.j4 k l i (tot rs c r s rs.length : Int) (decide (c = 6 ∧ s = 0)) rs c r s) ret) (d : Nat) :
    ∀ kk : Nat, kk + d = rs.length → Ev (fun k => entrepotlaw11_FeasTold.l1 k l i (tot rs c r s kk : Int) (kk : Int) rs c r s) ret := by
  induction d with
  | zero =>
    intro kk hk
    obtain rfl : kk = rs.length := by omega
    refine Ev.step (fun _ => entrepotlaw11_FeasTold.l1.eq_2 ..) (Ev.neg (by omega) ?_)
    by_cases c6 : c = 6
    · refine Ev.pos c6 ?_
      rwa [show decide (c = 6 ∧ s = 0) = (s == 0) by
        by_cases h : s = 0
        · rw [decide_eq_true ⟨c6, h⟩, beq_iff_eq.2 h]
        · rw [decide_eq_false (fun e => h e.2), beq_eq_false_iff_ne.2 h]] at hn
    · refine Ev.neg c6 ?_
      rwa [decide_eq_false (fun e => c6 e.1)] at hn
  | succ d ih =>
    intro kk hk
    have next := ih (kk + 1) (by omega)
    rw [tot_succ] at next
    have ht := tot_le hf c r s kk (by omega)
    have h0 := hf.1
    refine Ev.step (fun _ => entrepotlaw11_FeasTold.l1.eq_2 ..) (Ev.pos (by omega) ?_)
    have := told2 (l := l) (i := i) hf (show kk < rs.length by omega) c r s (tot rs c r s kk) (by omega) next (rd_L1 rs (kk : Int)).length 0 (by omega)
    simpa using this
theorem told_fine {rs : List (List Int)} (hf : Few rs) {w : Wrong} (hw : FeasP.Told rs w) {l : List Wrong} {i : Int} {ret : Bool} (hn : Ev (fun k => entrepotlaw11_FeasTold.l3 k l i 0 rs w.f0 w.f1 w.f2) ret) :
    Ev (fun k => entrepotlaw11_FeasTold.j4 k l i (tot rs w.f0 w.f1 w.f2 rs.length : Int) (decide (w.f0 = 6 ∧ w.f2 = 0)) rs w.f0 w.f1 w.f2) ret := by
  have j5 : Ev (fun k => entrepotlaw11_FeasTold.j5 k l i false rs w.f0 w.f1 w.f2) ret := Ev.step (fun _ => entrepotlaw11_FeasTold.j5.eq_2 ..) (Ev.neg (by simp) hn)
  have h5 : ∀ b : Bool, b = false → Ev (fun k => entrepotlaw11_FeasTold.j5 k l i b rs w.f0 w.f1 w.f2) ret := fun b hb => by rw [hb]; exact j5
  clear hn
  have in_row : ∀ (i : Nat) (hi : i < rs.length), w.f1 = (i : Int) → w.f2 ∈ rs[i] → 1 ≤ tot rs w.f0 w.f1 w.f2 rs.length := fun i hi e hm => by
    have h1 := le_tot rs w.f0 w.f1 w.f2 e.symm rs.length hi
    rw [Well11.rd1_at hi] at h1
    have := List.count_pos_iff.2 hm
    omega
  generalize ht : tot rs w.f0 w.f1 w.f2 rs.length = t at *
  refine Ev.step (fun _ => entrepotlaw11_FeasTold.j4.eq_2 ..) ?_
  rcases hw with ⟨h0, i, hi, h1, h2⟩ | ⟨h0, h1, h2⟩ | ⟨h0, h1, h2⟩ | ⟨h0, h1⟩ | ⟨h0, h0', i, hi, h1, h2⟩
  · have := in_row i hi h1 h2
    refine Ev.neg (by omega) (Ev.neg (by omega) (Ev.neg (by omega) (Ev.neg (by omega) (Ev.neg (by omega) (Ev.neg (by omega) (Ev.neg ?_ (h5 _ ?_)))))))
    · rw [decide_eq_false (by omega)]; simp
    · exact beq_eq_false_iff_ne.2 (by omega)
  · have h3 := tot_all rs w.f1 w.f2 (c := w.f0) (by omega)
    refine Ev.neg (by omega) (Ev.neg (by omega) (Ev.neg (by omega) (Ev.neg (by omega) (Ev.pos h0 (Ev.neg (by omega) (Ev.neg (by omega) (Ev.neg ?_ (h5 _ ?_))))))))
    · rw [decide_eq_false (by omega)]; simp
    · exact beq_eq_false_iff_ne.2 (by omega)
  · have h3 := tot_all rs w.f1 w.f2 (c := w.f0) (by omega)
    exact Ev.neg (by omega) (Ev.neg (by omega) (Ev.neg (by omega) (Ev.pos h0 (Ev.pos (by omega) (Ev.neg (by omega) j5)))))
  · exact Ev.neg (by omega) (Ev.neg (by omega) (Ev.neg (by omega) (Ev.neg (by omega) (Ev.neg (by omega) (Ev.pos h0 j5)))))
  · refine Ev.neg (by omega) (Ev.neg (by omega) (Ev.neg (by omega) (Ev.neg (by omega) (Ev.neg (by omega) (Ev.neg (by omega) ?_)))))
    by_cases hb : w.f0 = 6 ∧ w.f2 = 0
    · exact Ev.pos (decide_eq_true hb) j5
    · refine Ev.neg (by rw [decide_eq_false hb]; simp) (h5 _ ?_)
      have := in_row i hi h1 (h2.elim id (fun e => absurd e hb))
      exact beq_eq_false_iff_ne.2 (by omega)
theorem told0 {l : List Wrong} {rs : List (List Int)} (hf : Few rs) (hl : l.length ≤ 1000000) (hp : l.Pairwise Apart) (ht : ∀ w ∈ l, FeasP.Told rs w) (d : Nat) :
    ∀ i : Nat, i + d = l.length → Ev (fun k => entrepotlaw11_FeasTold.l0 k l (i : Int) rs) true := by
  induction d with
  | zero => intro i hi; exact Ev.step (fun _ => entrepotlaw11_FeasTold.l0.eq_2 ..) (Ev.neg (by omega) (Ev.now _))
  | succ d ih =>
    intro i hi
    have hlt : i < l.length := by omega
    refine Ev.step (fun _ => entrepotlaw11_FeasTold.l0.eq_2 ..) (Ev.pos (by omega) (Ev.pos (by omega) ?_))
    rw [show rd_T37 l (i : Int) = l[i] by unfold rd_T37; rw [Int.toNat_natCast, List.getD_eq_getElem?_getD, List.getElem?_eq_getElem hlt]; rfl]
    have h3 := told3 hlt hl (fun j hj => List.pairwise_iff_getElem.1 hp j i (by omega) hlt hj) (ih (i + 1) (by omega)) i 0 (by omega)
    have h4 := told_fine hf (ht _ (List.getElem_mem hlt)) h3
    have := told1 hf l[i].f0 l[i].f1 l[i].f2 h4 rs.length 0 (by omega)
    simpa [tot] using this
theorem FeasTold (nm : ByteArray) (kd mt sc cp fl : Int) (ns : List FeasWalk.Node) (mx : List Int) (rs : List (List Int)) (_ : Open.InstGood nm kd mt sc cp fl ns mx) (_ : Open.PlanGood rs) : ∃ k, entrepotlaw11_FeasTold.f k nm kd mt sc cp fl ns mx rs = some true := by
  refine Ev.rounds ?_
  have yes : Ev (fun k => entrepotlaw11_FeasTold.j0 k true nm kd mt sc cp fl ns mx rs) true := Ev.step (fun _ => entrepotlaw11_FeasTold.j0.eq_2 ..) (Ev.pos rfl (Ev.bs entrepotlaw11_shown.only (Ev.now _)))
  unfold entrepotlaw11_FeasTold.f
  refine Ev.bind (Well11.well_ev nm kd mt sc cp fl ns mx) ?_
  cases hw : wellF nm kd mt sc cp fl ns mx with
  | false => exact Ev.neg (by simp) yes
  | true =>
    have g := good_of hw
    refine Ev.pos rfl ?_
    obtain ⟨b, hb, hb2⟩ := Well11.long_tells rs
    refine Ev.bind hb ?_
    cases b with
    | true => exact Ev.pos rfl yes
    | false =>
      obtain ⟨l1, l2, l3⟩ := hb2 rfl
      have hfw := few_long (by omega) l2
      refine Ev.neg (by simp) (Ev.bs entrepotlaw11_shown.only (Ev.step (fun _ => entrepotlaw11_FeasTold.j0.eq_2 ..) (Ev.neg (by simp) (Ev.bs (check_some (ok_good g) hfw) ?_))))
      exact told0 (few_of hfw) (wrongs_len _ (few_of hfw) g.cnt.2) (wrongs_apart _ _) (fun w hw => wrongs_told hw) (wrongsOf (lk nm kd mt sc cp fl ns mx) rs).length 0 (by omega)
end Go.Proofs.Ytlncbckpcmojpaa.Pure
