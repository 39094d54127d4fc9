/- ResponseParts, over lists of numbers alone. -/
import Derived.Test.YtbhmaijmdkpmlaaPx37
import Derived.Test.YtbhmaijmdkpmlaaRef44
namespace Go.Proofs.Ytbhmaijmdkpmlaa.Pure
open Go.RowKit Go.Proofs.Ytbhmaijmdkpmlaa.P Go.Proofs.Ytbhmaijmdkpmlaa.Plain Go.Proofs.YtbhmaijmdkpmlaaW.PrintWords
set_option linter.unusedVariables false

theorem parts_out (l : List S49) (i w : Int) (h : (cv_valid l && decide (0 ≤ i ∧ i < l.length)) = false) : Ev (fun k => ontimelaw44_ResponseParts.j0 k l i w (cb_block l i) (rs_inter l i w) true) true := by
  refine Ev.step (f := fun _ => some true) (fun k => ?_) (Ev.now _)
  simp only [ontimelaw44_ResponseParts.j0]
  unfold cb_block rs_inter
  rw [h, Bool.false_and]
  rfl
theorem parts_in (l : List S49) (i w : Int) (hv : cv_valid l = true) (h0 : 0 ≤ i) (h1 : i < l.length) : Ev (fun k => ontimelaw44_ResponseParts.j0 k l i w (cb_block l i) (rs_inter l i w) false) true := by
  refine Ev.step (fun k => by simp only [ontimelaw44_ResponseParts.j0]; rw [if_neg (by decide)]) (Ev.bind (plain44_ev l (small_of_valid l hv)) (Ev.bind (refblock_ev l i hv h0 h1) ?_))
  refine Ev.congr (fun k => if_pos rfl) ?_
  have out : ¬ (0 ≤ w ∧ w ≤ 100000) → Ev (fun k => ontimelaw44_ResponseParts.j1 k l i w (rs_inter l i w) true) true := by
    intro h
    refine Ev.step (f := fun _ => some true) (fun k => ?_) (Ev.now _)
    simp only [ontimelaw44_ResponseParts.j1]
    unfold rs_inter
    rw [decide_eq_false h, Bool.and_false]
    rfl
  by_cases c1 : w < 0
  · exact Ev.congr (fun k => if_pos c1) (out (by omega))
  by_cases c2 : w > 100000
  · refine Ev.congr (fun k => (if_neg c1).trans ?_) (out (by omega))
    rw [decide_eq_true c2]
  · refine Ev.congr (f := fun k => ontimelaw44_ResponseParts.j1 k l i w (rs_inter l i w) false) (fun k => (if_neg c1).trans (by rw [decide_eq_false c2])) ?_
    refine Ev.step (fun k => by simp only [ontimelaw44_ResponseParts.j1]; rw [if_neg (by decide)]) (Ev.bind (plain44_ev l (small_of_valid l hv)) (Ev.bind (refinter_ev l hv i w h0 h1 (by omega) (by omega)) ?_))
    unfold rs_inter
    rw [hv, Bool.true_and, decide_eq_true ⟨h0, h1⟩, Bool.true_and, decide_eq_true (show 0 ≤ w ∧ w ≤ 100000 by omega), if_pos rfl, beq_self_eq_true]
    exact Ev.now _

theorem ResponseParts (l0 : List S49) (a1 : Int) (a2 : Int) (y0 : l0.length * 48 ≤ 140737488351232) (hm0 : l0.length ≤ maxLen) (hg0 : ∀ y ∈ l0, ((Lit.int .i64 y.f0).wf = true ∧ (Lit.int .i64 y.f1).wf = true ∧ (Lit.int .i64 y.f2).wf = true ∧ (y.f3.length ≤ maxLen ∧ ∀ z ∈ y.f3, ((Lit.int .i64 z.f0).wf = true ∧ (Lit.int .i64 z.f1).wf = true ∧ (Lit.int .i64 z.f2).wf = true)))) (w1 : (Lit.int .i64 a1).wf = true) (w2 : (Lit.int .i64 a2).wf = true) :
    ∃ k, ontimelaw44_ResponseParts.f k l0 a1 a2 = some true := by
  refine Ev.rounds (?_ : Ev _ true)
  unfold ontimelaw44_ResponseParts.f
  refine Ev.bind awake44_ev ?_
  refine Ev.congr (fun k => if_pos rfl) ?_
  obtain ⟨b, hb, _⟩ := great_ev l0
  refine Ev.bind hb ?_
  cases b
  · refine Ev.congr (fun k => if_neg (by decide)) ?_
    unfold response_Blocking.f ceiling_Valid.f
    refine Ev.congr (fun k => Option.bind_some _ _) (Ev.bind (inter_ev l0 a1 a2) ?_)
    refine Ev.congr (fun k => Option.bind_some _ _) ?_
    cases hv : cv_valid l0
    · exact Ev.congr (fun k => if_neg (by decide)) (parts_out l0 a1 a2 (by rw [hv]; rfl))
    · refine Ev.congr (fun k => if_pos rfl) ?_
      by_cases c1 : a1 < 0
      · exact Ev.congr (fun k => if_pos c1) (parts_out l0 a1 a2 (by rw [decide_eq_false (by omega), Bool.and_false]))
      · refine Ev.congr (fun k => if_neg c1) ?_
        by_cases c2 : a1 ≥ (l0.length : Int)
        · rw [decide_eq_true c2]; exact parts_out l0 a1 a2 (by rw [decide_eq_false (by omega), Bool.and_false])
        · rw [decide_eq_false c2]; exact parts_in l0 a1 a2 hv (by omega) (by omega)
  · exact Ev.congr (fun k => if_pos rfl) (Ev.now _)
end Go.Proofs.Ytbhmaijmdkpmlaa.Pure
