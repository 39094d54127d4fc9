/- Which candidates the statements speak of. -/
import Derived.Test.YtbjhkcfgahbipaaPx27
import Derived.Test.YtbjhkcfgahbipaaOrder
namespace Go.Proofs.Ytbjhkcfgahbipaa.Plain
open Go.RowKit Go.Proofs.Ytbjhkcfgahbipaa.P Go.Proofs.YtbjhkcfgahbipaaW.PrintWords Go.Proofs.YtbjhkcfgahbipaaW.PrintMore
set_option linter.unusedVariables false

/-- A candidate within the bounds. -/
def Fair (num c p rel i : Int) : Prop := pf_vld c p = true ∧ 1 ≤ i ∧ i ≤ c ∧ -1099511627776 ≤ num ∧ num ≤ 1099511627776 ∧ -1099511627776 ≤ rel ∧ rel ≤ 1099511627776
theorem candidate_cases (nm : ByteArray) (num c p rel i : Int) : ontimelaw45_candidate.f num nm c p rel i = some 0 ∨ (ontimelaw45_candidate.f num nm c p rel i = some 1 ∧ Fair num c p rel i) := by
  unfold ontimelaw45_candidate.f
  rw [ref_valid_eval, Option.bind_some]
  cases hv : pf_vld c p
  · exact .inl rfl
  rw [if_pos rfl]
  by_cases h1 : p > 60
  · rw [if_pos h1]; exact .inl rfl
  rw [if_neg h1]
  by_cases h2 : i < 1
  · rw [if_pos h2]; exact .inl rfl
  rw [if_neg h2]
  by_cases h3 : i > c
  · rw [if_pos h3]; exact .inl rfl
  rw [if_neg h3]
  by_cases h4 : mx num rel > 1099511627776
  · rw [if_pos h4]; exact .inl rfl
  rw [if_neg h4]
  by_cases h5 : mn num rel < -1099511627776
  · rw [if_pos h5]; exact .inl rfl
  rw [if_neg h5]
  unfold mx at h4
  unfold mn at h5
  refine .inr ⟨rfl, hv, by omega, by omega, ?_⟩
  split at h4 <;> split at h5 <;> omega
theorem before_fair (nm1 nm2 : ByteArray) (n1 c1 p1 r1 i1 n2 c2 p2 r2 i2 : Int) (k : Nat) (h1 : Fair n1 c1 p1 r1 i1) (h2 : Fair n2 c2 p2 r2 i2) :
    pfair_Before.f (k + 3) n1 nm1 c1 p1 r1 i1 n2 nm2 c2 p2 r2 i2 = some (prio n1 c1 p1 r1 i1 n2 c2 p2 r2 i2) :=
  before_eval nm1 nm2 n1 c1 p1 r1 i1 n2 c2 p2 r2 i2 k h1.1 h1.2.1 h1.2.2.1 h2.1 h2.2.1 h2.2.2.1 h1.2.2.2.2.2.1 h1.2.2.2.2.2.2 h2.2.2.2.2.2.1 h2.2.2.2.2.2.2
end Go.Proofs.Ytbjhkcfgahbipaa.Plain
