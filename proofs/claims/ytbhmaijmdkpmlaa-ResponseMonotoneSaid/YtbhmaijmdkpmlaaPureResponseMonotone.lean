/- ResponseMonotone: the walk has shown it; here the bounds alone. -/
import Derived.Test.YtbhmaijmdkpmlaaPx40
import Derived.Test.YtbhmaijmdkpmlaaAwake44
namespace Go.Proofs.Ytbhmaijmdkpmlaa.Pure
open Go.RowKit Go.Proofs.Ytbhmaijmdkpmlaa.P Go.Proofs.Ytbhmaijmdkpmlaa.Plain Go.Proofs.YtbhmaijmdkpmlaaW.PrintWords
set_option linter.unusedVariables false

theorem ResponseMonotone (l0 : List S49) (a1 : Int) (a2 : Int) (a3 : Int) (y0 : l0.length * 48 ≤ 140737488351232) (hm0 : l0.length ≤ maxLen) (hg0 : ∀ y ∈ l0, ((Lit.int .i64 y.f0).wf = true ∧ (Lit.int .i64 y.f1).wf = true ∧ (Lit.int .i64 y.f2).wf = true ∧ (y.f3.length ≤ maxLen ∧ ∀ z ∈ y.f3, ((Lit.int .i64 z.f0).wf = true ∧ (Lit.int .i64 z.f1).wf = true ∧ (Lit.int .i64 z.f2).wf = true)))) (w1 : (Lit.int .u8 a1).wf = true) (w2 : (Lit.int .u8 a2).wf = true) (w3 : (Lit.int .u8 a3).wf = true) :
    ontimelaw44_ResponseMonotone.f l0 a1 a2 a3 = some true := by
  unfold ontimelaw44_ResponseMonotone.f
  rw [if_pos ⟨u8_range w1, u8_range w2, u8_range w3⟩]
end Go.Proofs.Ytbhmaijmdkpmlaa.Pure
