/- PfairDeadlines, over numbers alone: an earlier deadline has priority, and of two with the same deadline the one whose window overlaps the next. -/
import Derived.Test.YtbjhkcfgahbipaaPx32
import Derived.Test.YtbjhkcfgahbipaaCand
namespace Go.Proofs.Ytbjhkcfgahbipaa.Pure
open Go.RowKit Go.Proofs.Ytbjhkcfgahbipaa.P Go.Proofs.Ytbjhkcfgahbipaa.Plain Go.Proofs.YtbjhkcfgahbipaaW.PrintWords
set_option linter.unusedVariables false

theorem PfairDeadlines (x0_f0 : Int) (x0_f1_f0 : ByteArray) (x0_f1_f1 : Int) (x0_f1_f2 : Int) (x0_f2 : Int) (x0_f3 : Int) (x1_f0 : Int) (x1_f1_f0 : ByteArray) (x1_f1_f1 : Int) (x1_f1_f2 : Int) (x1_f2 : Int) (x1_f3 : Int) (hg0 : ((Lit.int .i64 x0_f0).wf = true ∧ (x0_f1_f0.size ≤ maxLen ∧ (Lit.int .i64 x0_f1_f1).wf = true ∧ (Lit.int .i64 x0_f1_f2).wf = true) ∧ (Lit.int .i64 x0_f2).wf = true ∧ (Lit.int .i64 x0_f3).wf = true)) (hg1 : ((Lit.int .i64 x1_f0).wf = true ∧ (x1_f1_f0.size ≤ maxLen ∧ (Lit.int .i64 x1_f1_f1).wf = true ∧ (Lit.int .i64 x1_f1_f2).wf = true) ∧ (Lit.int .i64 x1_f2).wf = true ∧ (Lit.int .i64 x1_f3).wf = true)) :
    ∃ k, ontimelaw45_PfairDeadlines.f k x0_f0 x0_f1_f0 x0_f1_f1 x0_f1_f2 x0_f2 x0_f3 x1_f0 x1_f1_f0 x1_f1_f1 x1_f1_f2 x1_f2 x1_f3 = some true := by
  refine ⟨10, ?_⟩
  unfold ontimelaw45_PfairDeadlines.f
  rw [awake_eval 8, Option.bind_some, if_pos rfl]
  have skip : ontimelaw45_PfairDeadlines.j0 10 true x0_f0 x0_f1_f0 x0_f1_f1 x0_f1_f2 x0_f2 x0_f3 x1_f0 x1_f1_f0 x1_f1_f1 x1_f1_f2 x1_f2 x1_f3 = some true := rfl
  rcases candidate_cases x0_f1_f0 x0_f0 x0_f1_f1 x0_f1_f2 x0_f2 x0_f3 with e | ⟨e, fa⟩
  · rw [e, Option.bind_some, if_pos rfl]; exact skip
  rw [e, Option.bind_some, if_neg (by decide)]
  rcases candidate_cases x1_f1_f0 x1_f0 x1_f1_f1 x1_f1_f2 x1_f2 x1_f3 with e | ⟨e, fb⟩
  · rw [e, Option.bind_some]; exact skip
  rw [e, Option.bind_some]
  obtain ⟨v, i1, i2, n1, n2, r1, r2⟩ := fa
  obtain ⟨v', i1', i2', n1', n2', r1', r2'⟩ := fb
  obtain ⟨va, vb, vc⟩ := (pf_vld_iff _ _).1 v
  obtain ⟨va', vb', vc'⟩ := (pf_vld_iff _ _).1 v'
  have d1 := dl_bounds x0_f1_f1 x0_f1_f2 x0_f3 (by omega) (by omega) i1 i2
  have d2 := dl_bounds x1_f1_f1 x1_f1_f2 x1_f3 (by omega) (by omega) i1' i2'
  show ontimelaw45_PfairDeadlines.j0 10 false x0_f0 x0_f1_f0 x0_f1_f1 x0_f1_f2 x0_f2 x0_f3 x1_f0 x1_f1_f0 x1_f1_f1 x1_f1_f2 x1_f2 x1_f3 = some true
  have skip2 : ∀ b : Bool, (b = true → prio x0_f0 x0_f1_f1 x0_f1_f2 x0_f2 x0_f3 x1_f0 x1_f1_f1 x1_f1_f2 x1_f2 x1_f3 = true ∧ prio x1_f0 x1_f1_f1 x1_f1_f2 x1_f2 x1_f3 x0_f0 x0_f1_f1 x0_f1_f2 x0_f2 x0_f3 = false) →
      ontimelaw45_PfairDeadlines.j2 8 b x0_f0 x0_f1_f0 x0_f1_f1 x0_f1_f2 x0_f2 x0_f3 x1_f0 x1_f1_f0 x1_f1_f1 x1_f1_f2 x1_f2 x1_f3 = some true := by
    intro b hb
    simp only [ontimelaw45_PfairDeadlines.j2]
    cases b
    · rfl
    · obtain ⟨h1, h2⟩ := hb rfl
      rw [if_pos rfl, before_eval _ _ x0_f0 _ _ _ _ x1_f0 _ _ _ _ 4 v i1 i2 v' i1' i2' r1 r2 r1' r2', before_eval _ _ x1_f0 _ _ _ _ x0_f0 _ _ _ _ 4 v' i1' i2' v i1 i2 r1' r2' r1 r2, h1, h2]
      rfl
  simp only [ontimelaw45_PfairDeadlines.j0]
  rw [if_neg (by decide), pf_window_eval x0_f1_f0 _ _ _ 7 v i1 i2, pf_window_eval x1_f1_f0 _ _ _ 7 v' i1' i2']
  simp only [Option.bind_some, if_true, bne_self_eq_false]
  simp only [ontimelaw45_PfairDeadlines.j1]
  rw [if_neg (by decide), pf_overlaps_eval x0_f1_f0 _ _ _ 6, pf_overlaps_eval x1_f1_f0 _ _ _ 6, v, v', decide_eq_true (show 1 ≤ x0_f3 ∧ x0_f3 ≤ x0_f1_f1 from ⟨i1, i2⟩), decide_eq_true (show 1 ≤ x1_f3 ∧ x1_f3 ≤ x1_f1_f1 from ⟨i1', i2'⟩), pf_wrap (x := x0_f2 + pf_dl x0_f1_f1 x0_f1_f2 x0_f3) (by omega) (by omega), pf_wrap (x := x1_f2 + pf_dl x1_f1_f1 x1_f1_f2 x1_f3) (by omega) (by omega)]
  simp only [Option.bind_some, Bool.true_and]
  by_cases c1 : x0_f2 + pf_dl x0_f1_f1 x0_f1_f2 x0_f3 < x1_f2 + pf_dl x1_f1_f1 x1_f1_f2 x1_f3
  · rw [if_pos c1]
    refine skip2 true fun _ => ?_
    unfold prio
    rw [if_neg (by omega), if_neg (by omega), decide_eq_true c1, decide_eq_false (by omega)]
    exact ⟨rfl, rfl⟩
  rw [if_neg c1]
  by_cases c2 : x0_f2 + pf_dl x0_f1_f1 x0_f1_f2 x0_f3 = x1_f2 + pf_dl x1_f1_f1 x1_f1_f2 x1_f3
  · rw [if_pos c2]
    cases s : pf_ov x0_f1_f1 x0_f1_f2 x0_f3
    · rw [if_neg (by decide)]
      exact skip2 false fun h => by cases h
    · rw [if_pos rfl]
      cases t : pf_ov x1_f1_f1 x1_f1_f2 x1_f3
      · refine skip2 true fun _ => ?_
        unfold prio
        rw [if_pos c2, if_pos c2.symm, s, t]
        exact ⟨rfl, rfl⟩
      · exact skip2 false fun h => by cases h
  · rw [if_neg c2]
    exact skip2 false fun h => by cases h

end Go.Proofs.Ytbjhkcfgahbipaa.Pure
