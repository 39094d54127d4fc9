/- PfairScales: the walk of the statement itself shows that it answers true at every value of its parameters. -/
import Derived.Test.YtbjhkcfgahbipaaPx19
namespace Go.Proofs.Ytbjhkcfgahbipaa.Pure
open Go.RowKit Go.Proofs.Ytbjhkcfgahbipaa.P Go.Proofs.YtbjhkcfgahbipaaW.PrintWords
set_option linter.unusedVariables false

theorem PfairScales (x0_f0 : ByteArray) (x0_f1 : Int) (x0_f2 : Int) (a1 : Int) (a2 : Int) (hg0 : (x0_f0.size ≤ maxLen ∧ (Lit.int .i64 x0_f1).wf = true ∧ (Lit.int .i64 x0_f2).wf = true)) (w1 : (Lit.int .i64 a1).wf = true) (w2 : (Lit.int .u8 a2).wf = true) :
    ontimelaw45_PfairScales.f x0_f0 x0_f1 x0_f2 a1 a2 = some true := by
  have e1 : IntKind.u8.min = 0 := by decide
  have e2 : IntKind.u8.max = 255 := by decide
  simp [Lit.wf] at w2
  unfold ontimelaw45_PfairScales.f
  rw [if_pos (by omega)]

end Go.Proofs.Ytbjhkcfgahbipaa.Pure
