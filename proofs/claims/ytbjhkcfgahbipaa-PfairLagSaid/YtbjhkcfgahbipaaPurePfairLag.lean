/- PfairLag, over numbers alone: k subtasks can be finished at a time within their windows exactly if the lag is strictly between -1 and 1. -/
import Derived.Test.YtbjhkcfgahbipaaPx21
import Derived.Test.YtbjhkcfgahbipaaPx22
import Derived.Test.YtbjhkcfgahbipaaAwake
namespace Go.Proofs.Ytbjhkcfgahbipaa.Pure
open Go.RowKit Go.Proofs.Ytbjhkcfgahbipaa.P Go.Proofs.Ytbjhkcfgahbipaa.Plain Go.Proofs.YtbjhkcfgahbipaaW.PrintWords
set_option linter.unusedVariables false

theorem lag_num (c p x y : Int) : ∃ n : Int, wrap64 (wrap64 (c * x) - wrap64 (y * p)) = n := ⟨_, rfl⟩

theorem PfairLag (x0_f0 : ByteArray) (x0_f1 : Int) (x0_f2 : Int) (a1 : Int) (a2 : Int) (hg0 : (x0_f0.size ≤ maxLen ∧ (Lit.int .i64 x0_f1).wf = true ∧ (Lit.int .i64 x0_f2).wf = true)) (w1 : (Lit.int .i64 a1).wf = true) (w2 : (Lit.int .i64 a2).wf = true) :
    ∃ k, ontimelaw45_PfairLag.f k x0_f0 x0_f1 x0_f2 a1 a2 = some true := by
  generalize x0_f1 = c
  generalize x0_f2 = p
  refine ⟨10, ?_⟩
  unfold ontimelaw45_PfairLag.f pfair_Lag.f
  rw [awake_eval 8, Option.bind_some, if_pos rfl, pf_valid_eval x0_f0 c p 8, ref_valid_eval]
  cases hv : pf_vld c p
  · rfl
  obtain ⟨b1, b2, b3⟩ := (pf_vld_iff c p).1 hv
  have hc : 0 < c := by omega
  simp only [Option.bind_some, if_true]
  generalize hN : wrap64 (wrap64 (c * a1) - wrap64 (a2 * p)) = N
  have j2 : 0 ≤ a1 → 0 ≤ a2 → a1 ≤ 1099511627776 → ∀ x47 : Bool, ontimelaw45_PfairLag.j0 10 a1 a2 N p x47 x0_f0 c p = some true := by
    intro h1 h2 h3 x47
    simp only [ontimelaw45_PfairLag.j0]
    cases x47
    · rw [if_neg (by decide), hN, if_pos rfl, bne_self_eq_false]
      simp only [ontimelaw45_PfairLag.j1, Bool.false_eq_true, if_false]
      have key : ∀ x79 : Bool, (x79 = false → 1 ≤ a2 ∧ a2 ≤ c - 1 ∧ a1 ≤ p) → ontimelaw45_PfairLag.j2 8 a1 a2 N p x79 x0_f0 c p = some true := by
        intro x79 hx
        simp only [ontimelaw45_PfairLag.j2]
        cases x79
        · obtain ⟨k1, k2, k3⟩ := hx rfl
          rw [if_neg (by decide), pf_window_eval x0_f0 c p a2 5 hv (by omega) (by omega), pf_wrap (x := a2 + 1) (by omega) (by omega), pf_window_eval x0_f0 c p (a2 + 1) 5 hv (by omega) (by omega)]
          simp only [Option.bind_some, if_true]
          have e1 := pf_prod c a1 (by omega) (by omega) h1 (by omega)
          have e2 := pf_prod a2 p (by omega) (by omega) (by omega) b3
          have e3 : N = c * a1 - a2 * p := by rw [← hN, pf_wrap (x := c * a1) (by omega) (by omega), pf_wrap (x := a2 * p) (by omega) (by omega), pf_wrap (by omega) (by omega)]
          rw [pf_wrap (x := -p) (by omega) (by omega)]
          have f1 := rel_lt c p a2 a1 hc
          have f2 := dl_gt c p (a2 + 1) a1 hc
          rw [succ_mul'] at f2
          have e4 : a1 * c = c * a1 := Int.mul_comm _ _
          by_cases g1 : pf_rel c p a2 < a1
          · have := f1.1 g1
            rw [if_pos g1, if_pos (by omega)]
            congr 1
            rw [beq_iff_eq]
            have : (pf_dl c p (a2 + 1) > a1) ↔ (N < p) := by rw [show (pf_dl c p (a2 + 1) > a1) = (a1 < pf_dl c p (a2 + 1)) from rfl, f2]; omega
            exact decide_eq_decide.2 this
          · have : ¬ (a2 * p - p < a1 * c) := fun h => g1 (f1.2 h)
            rw [if_neg g1, if_neg (by omega)]
            rfl
        · rfl
      by_cases k1 : a2 < 1
      · rw [if_pos k1]; exact key true (fun h => by cases h)
      rw [if_neg k1, pf_wrap (x := c - 1) (by omega) (by omega)]
      by_cases k2 : a2 > c - 1
      · rw [if_pos k2]; exact key true (fun h => by cases h)
      rw [if_neg k2]
      exact key _ (fun h => by have := of_decide_eq_false h; omega)
    · rfl
  have j2' : ontimelaw45_PfairLag.j0 10 a1 a2 N p true x0_f0 c p = some true := rfl
  by_cases h1 : a1 < 0
  · rw [if_pos h1]; exact j2'
  rw [if_neg h1]
  by_cases h2 : a2 < 0
  · rw [if_pos h2]; exact j2'
  rw [if_neg h2]
  by_cases h3 : a1 > 1099511627776
  · rw [if_pos h3]; exact j2'
  rw [if_neg h3]
  exact j2 (by omega) (by omega) (by omega) _

end Go.Proofs.Ytbjhkcfgahbipaa.Pure
