/- ResponseLeast, over lists of numbers alone. -/
import Derived.Test.YtbhmaijmdkpmlaaPx39
import Derived.Test.YtbhmaijmdkpmlaaAwake44
namespace Go.Proofs.Ytbhmaijmdkpmlaa.Pure
open Go.RowKit Go.Proofs.Ytbhmaijmdkpmlaa.P Go.Proofs.Ytbhmaijmdkpmlaa.Plain Go.Proofs.YtbhmaijmdkpmlaaW.PrintWords
set_option linter.unusedVariables false

theorem least_loop (l : List S49) (i r e : Int) (hv : cv_valid l = true) (h0 : 0 ≤ i) (h1 : i < l.length) (hR : RespIs l i r e) : ∀ (d : Nat) (x : Int), ((rd_T49 l i).f2 + 1 - x).toNat = d → 1 ≤ x → x ≤ (rd_T49 l i).f2 + 1 → (∀ w, 1 ≤ w → w < x → rs_next l i w ≠ w) →
    Ev (fun k => ontimelaw44_ResponseLeast.l0 k l i r e (rs_own l i) x) true := by
  intro d
  have ho := own_range l i hv h0 h1
  have g := (good_all l hv).2 _ (rd49_mem l i h0 h1)
  have hlen := (good_all l hv).1
  have gt : ∀ t ∈ l.take i.toNat, GoodT t := fun t ht => (good_all l hv).2 t (List.mem_of_mem_take ht)
  unfold GoodT at g
  induction d with
  | zero =>
    intro x hd hx hD hn
    refine Ev.step (f := fun _ => some true) (fun k => ?_) (Ev.now _)
    simp only [ontimelaw44_ResponseLeast.l0]
    rw [if_pos h0, if_pos h1, if_neg (by omega)]
    rcases hR with ⟨a1, a2, a3, a4, a5⟩ | ⟨a1, a2, a3⟩
    · exact absurd a4 (hn r (by omega) (by omega))
    · rw [a1, a2, if_pos rfl]; rfl
  | succ d ih =>
    intro x hd hx hD hn
    have b1 := sum_nonneg (w := x) (by omega) _ gt
    have b2 := sum_le (w := x) (by omega) (by omega) _ gt
    rw [List.length_take] at b2
    have hw : wrap64 (rs_own l i + rs_sum x (l.take i.toNat)) = rs_next l i x := cv_wrap (by omega) (by omega)
    refine Ev.step (fun k => by simp only [ontimelaw44_ResponseLeast.l0]; rw [if_pos h0, if_pos h1, if_pos (by omega), cv_wrap (x := x + 1) (by omega) (by omega)]) (Ev.bind (inter_eq l i x hv h0 h1 (by omega) (by omega)) ?_)
    rw [hw]
    by_cases he : rs_next l i x = x
    · have hx2 : rs_own l i ≤ x := by unfold rs_next at he; omega
      rcases hR with ⟨a1, a2, a3, a4, a5⟩ | ⟨a1, a2, a3⟩
      · have : r = x := by
          rcases Int.lt_trichotomy r x with c | c | c
          · exact absurd a4 (hn r (by omega) c)
          · exact c
          · exact absurd he (a5 x hx2 c)
        refine Ev.congr (f := fun _ => some true) (fun k => ?_) (Ev.now _)
        rw [if_pos he, if_pos a1, this, beq_self_eq_true]
      · exact absurd he (a3 x hx2 (by omega))
    · exact Ev.congr (fun k => if_neg he) (ih (x + 1) (by omega) (by omega) (by omega) (fun w a b => by
        by_cases c : w = x
        · rw [c]; exact he
        · exact hn w a (by omega)))
theorem least_body (l : List S49) (i : Int) (hv : cv_valid l = true) (h0 : 0 ≤ i) (h1 : i < l.length) : Ev (fun k => ontimelaw44_ResponseLeast.j0 k l i false) true := by
  obtain ⟨r, e, hr, hR⟩ := resp_ev l i hv h0 h1
  have ho := own_range l i hv h0 h1
  have g := (good_all l hv).2 _ (rd49_mem l i h0 h1)
  unfold GoodT at g
  refine Ev.step (fun k => by simp only [ontimelaw44_ResponseLeast.j0]; rw [if_neg (by decide)]) (Ev.bind hr ?_)
  refine Ev.congr (fun k => ?_) (least_loop l i r e hv h0 h1 hR _ 1 rfl (by omega) (by omega) (fun w a b => by omega))
  unfold response_Blocking.f
  rw [if_pos h0, if_pos h1, Option.bind_some, show wrap64 ((rd_T49 l i).f0 + cb_block l i) = rs_own l i from cv_wrap (x := rs_own l i) (by omega) (by omega)]

theorem ResponseLeast (l0 : List S49) (a1 : Int) (y0 : l0.length * 48 ≤ 140737488351232) (hm0 : l0.length ≤ maxLen) (hg0 : ∀ y ∈ l0, ((Lit.int .i64 y.f0).wf = true ∧ (Lit.int .i64 y.f1).wf = true ∧ (Lit.int .i64 y.f2).wf = true ∧ (y.f3.length ≤ maxLen ∧ ∀ z ∈ y.f3, ((Lit.int .i64 z.f0).wf = true ∧ (Lit.int .i64 z.f1).wf = true ∧ (Lit.int .i64 z.f2).wf = true)))) (w1 : (Lit.int .i64 a1).wf = true) :
    ∃ k, ontimelaw44_ResponseLeast.f k l0 a1 = some true := by
  have skip : Ev (fun k => ontimelaw44_ResponseLeast.j0 k l0 a1 true) true := Ev.step (f := fun _ => some true) (fun k => by simp only [ontimelaw44_ResponseLeast.j0, if_true]) (Ev.now _)
  refine Ev.rounds (?_ : Ev _ true)
  unfold ontimelaw44_ResponseLeast.f
  refine Ev.bind awake44_ev ?_
  refine Ev.congr (fun k => if_pos rfl) ?_
  obtain ⟨b, hb, _⟩ := great_ev l0
  refine Ev.bind hb ?_
  cases b
  · refine Ev.congr (fun k => (if_neg (by decide)).trans (by unfold ceiling_Valid.f; rw [Option.bind_some])) ?_
    cases hv : cv_valid l0
    · exact Ev.congr (fun k => if_neg (by decide)) skip
    · refine Ev.congr (fun k => if_pos rfl) ?_
      by_cases h0 : a1 < 0
      · exact Ev.congr (fun k => if_pos h0) skip
      · refine Ev.congr (fun k => if_neg h0) ?_
        by_cases h1 : a1 ≥ (l0.length : Int)
        · rw [decide_eq_true h1]; exact skip
        · rw [decide_eq_false h1]; exact least_body l0 a1 hv (by omega) (by omega)
  · exact Ev.congr (fun k => if_pos rfl) skip
end Go.Proofs.Ytbhmaijmdkpmlaa.Pure
