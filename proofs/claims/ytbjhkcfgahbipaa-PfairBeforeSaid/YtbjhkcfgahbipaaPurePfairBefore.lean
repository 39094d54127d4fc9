/- PfairBefore, over numbers alone: Before reports exactly whether a candidate has priority over another one. -/
import Derived.Test.YtbjhkcfgahbipaaPx29
import Derived.Test.YtbjhkcfgahbipaaPx30
import Derived.Test.YtbjhkcfgahbipaaRef
namespace Go.Proofs.Ytbjhkcfgahbipaa.Pure
open Go.RowKit Go.Proofs.Ytbjhkcfgahbipaa.P Go.Proofs.Ytbjhkcfgahbipaa.Plain Go.Proofs.YtbjhkcfgahbipaaW.PrintWords
set_option linter.unusedVariables false

theorem PfairBefore (x0_f0 : Int) (x0_f1_f0 : ByteArray) (x0_f1_f1 : Int) (x0_f1_f2 : Int) (x0_f2 : Int) (x0_f3 : Int) (x1_f0 : Int) (x1_f1_f0 : ByteArray) (x1_f1_f1 : Int) (x1_f1_f2 : Int) (x1_f2 : Int) (x1_f3 : Int) (hg0 : ((Lit.int .i64 x0_f0).wf = true ∧ (x0_f1_f0.size ≤ maxLen ∧ (Lit.int .i64 x0_f1_f1).wf = true ∧ (Lit.int .i64 x0_f1_f2).wf = true) ∧ (Lit.int .i64 x0_f2).wf = true ∧ (Lit.int .i64 x0_f3).wf = true)) (hg1 : ((Lit.int .i64 x1_f0).wf = true ∧ (x1_f1_f0.size ≤ maxLen ∧ (Lit.int .i64 x1_f1_f1).wf = true ∧ (Lit.int .i64 x1_f1_f2).wf = true) ∧ (Lit.int .i64 x1_f2).wf = true ∧ (Lit.int .i64 x1_f3).wf = true)) :
    ∃ k, ontimelaw45_PfairBefore.f k x0_f0 x0_f1_f0 x0_f1_f1 x0_f1_f2 x0_f2 x0_f3 x1_f0 x1_f1_f0 x1_f1_f1 x1_f1_f2 x1_f2 x1_f3 = some true := by
  have no : ∀ k : Nat, (pf_vld x0_f1_f1 x0_f1_f2 && decide (1 ≤ x0_f3 ∧ x0_f3 ≤ x0_f1_f1) && (pf_vld x1_f1_f1 x1_f1_f2 && decide (1 ≤ x1_f3 ∧ x1_f3 ≤ x1_f1_f1))) = false →
      ontimelaw45_PfairBefore.j0 (k + 4) true x0_f0 x0_f1_f0 x0_f1_f1 x0_f1_f2 x0_f2 x0_f3 x1_f0 x1_f1_f0 x1_f1_f1 x1_f1_f2 x1_f2 x1_f3 = some true := by
    intro k h
    simp only [ontimelaw45_PfairBefore.j0]
    rw [if_pos trivial, before_no _ _ _ _ _ _ _ _ _ _ _ _ k h]
    rfl
  cases v1 : pf_vld x0_f1_f1 x0_f1_f2
  · refine ⟨10, ?_⟩
    unfold ontimelaw45_PfairBefore.f
    rw [awake_eval 8, Option.bind_some, if_pos rfl, ref_valid_eval, v1, Option.bind_some]
    rw [v1] at no
    exact no 6 (by rfl)
  cases v2 : pf_vld x1_f1_f1 x1_f1_f2
  · refine ⟨10, ?_⟩
    unfold ontimelaw45_PfairBefore.f
    rw [awake_eval 8, Option.bind_some, if_pos rfl, ref_valid_eval, v1, Option.bind_some, ref_valid_eval, v2]
    exact no 6 (by rw [v2, Bool.false_and, Bool.and_false])
  have start : ∀ k : Nat, ontimelaw45_PfairBefore.f (k + 2) x0_f0 x0_f1_f0 x0_f1_f1 x0_f1_f2 x0_f2 x0_f3 x1_f0 x1_f1_f0 x1_f1_f1 x1_f1_f2 x1_f2 x1_f3 =
      ontimelaw45_PfairBefore.j0 (k + 2) (!(decide (1 ≤ x0_f3 ∧ x0_f3 ≤ x0_f1_f1) && decide (1 ≤ x1_f3 ∧ x1_f3 ≤ x1_f1_f1))) x0_f0 x0_f1_f0 x0_f1_f1 x0_f1_f2 x0_f2 x0_f3 x1_f0 x1_f1_f0 x1_f1_f1 x1_f1_f2 x1_f2 x1_f3 := by
    intro k
    unfold ontimelaw45_PfairBefore.f
    rw [awake_eval k, Option.bind_some, if_pos rfl, ref_valid_eval, v1, Option.bind_some, if_pos rfl, ref_valid_eval, v2, Option.bind_some, if_pos rfl]
    by_cases h1 : x0_f3 < 1
    · rw [if_pos h1, decide_eq_false (by omega)]; rfl
    rw [if_neg h1]
    by_cases h2 : x0_f3 > x0_f1_f1
    · rw [if_pos h2, decide_eq_false (by omega)]; rfl
    rw [if_neg h2, decide_eq_true (show 1 ≤ x0_f3 ∧ x0_f3 ≤ x0_f1_f1 by omega)]
    by_cases h3 : x1_f3 < 1
    · rw [if_pos h3, decide_eq_false (by omega)]; rfl
    rw [if_neg h3]
    congr 1
    by_cases h4 : x1_f3 > x1_f1_f1
    · rw [decide_eq_true h4, decide_eq_false (by omega)]; rfl
    · rw [decide_eq_false h4, decide_eq_true (by omega)]; rfl
  cases hi : (decide (1 ≤ x0_f3 ∧ x0_f3 ≤ x0_f1_f1) && decide (1 ≤ x1_f3 ∧ x1_f3 ≤ x1_f1_f1))
  · refine ⟨6 + 2, ?_⟩
    rw [start, hi]
    refine no 4 ?_
    rw [v1, v2]
    exact hi
  · have j0 : ∀ k : Nat, ontimelaw45_PfairBefore.j0 (k + 1) false x0_f0 x0_f1_f0 x0_f1_f1 x0_f1_f2 x0_f2 x0_f3 x1_f0 x1_f1_f0 x1_f1_f1 x1_f1_f2 x1_f2 x1_f3 = ontimelaw45_PfairBefore.j1 k true x0_f0 x0_f1_f0 x0_f1_f1 x0_f1_f2 x0_f2 x0_f3 x1_f0 x1_f1_f0 x1_f1_f1 x1_f1_f2 x1_f2 x1_f3 ∨
        (Plain.Fair x0_f0 x0_f1_f1 x0_f1_f2 x0_f2 x0_f3 ∧ Plain.Fair x1_f0 x1_f1_f1 x1_f1_f2 x1_f2 x1_f3 ∧ ontimelaw45_PfairBefore.j0 (k + 1) false x0_f0 x0_f1_f0 x0_f1_f1 x0_f1_f2 x0_f2 x0_f3 x1_f0 x1_f1_f0 x1_f1_f1 x1_f1_f2 x1_f2 x1_f3 = ontimelaw45_PfairBefore.j1 k false x0_f0 x0_f1_f0 x0_f1_f1 x0_f1_f2 x0_f2 x0_f3 x1_f0 x1_f1_f0 x1_f1_f1 x1_f1_f2 x1_f2 x1_f3) := by
      intro k
      simp only [ontimelaw45_PfairBefore.j0]
      rw [if_neg (by decide)]
      rcases candidate_cases x0_f1_f0 x0_f0 x0_f1_f1 x0_f1_f2 x0_f2 x0_f3 with e | ⟨e, fa⟩
      · rw [e, Option.bind_some, if_pos rfl]; exact .inl rfl
      rw [e, Option.bind_some, if_neg (by decide)]
      rcases candidate_cases x1_f1_f0 x1_f0 x1_f1_f1 x1_f1_f2 x1_f2 x1_f3 with e | ⟨e, fb⟩
      · rw [e, Option.bind_some]; exact .inl rfl
      · rw [e, Option.bind_some]; exact .inr ⟨fa, fb, rfl⟩
    have skip : ∀ k : Nat, ontimelaw45_PfairBefore.j1 (k + 1) true x0_f0 x0_f1_f0 x0_f1_f1 x0_f1_f2 x0_f2 x0_f3 x1_f0 x1_f1_f0 x1_f1_f1 x1_f1_f2 x1_f2 x1_f3 = some true := fun k => rfl
    rcases j0 7 with h | ⟨fa, fb, _⟩
    · exact ⟨6 + 2, by rw [start, hi]; exact h.trans (skip 6)⟩
    · obtain ⟨K, hK⟩ := ref_before_ev _ _ _ _ _ _ _ _ _ _ fa fb
      refine ⟨(K + 6) + 2, ?_⟩
      rw [start, hi]
      rcases j0 (K + 7) with h | ⟨_, _, h⟩
      · exact h.trans (skip (K + 6))
      · refine h.trans ?_
        simp only [ontimelaw45_PfairBefore.j1]
        rw [if_neg (by decide)]
        unfold ontimelaw45_plain.f
        have hb := before_fair x0_f1_f0 x1_f1_f0 _ _ _ _ _ _ _ _ _ _ (K + 3) fa fb
        rw [show K + 3 + 3 = K + 6 from rfl] at hb
        rw [hb]
        simp only [Option.bind_some]
        have hk2 := hK (K + 6) (by omega)
        simp only at hk2
        rw [hk2]
        simp

end Go.Proofs.Ytbjhkcfgahbipaa.Pure
