/- PfairWindow: the walk of the statement itself shows that it answers true at every value of its parameters. -/
import Derived.Test.YtbjhkcfgahbipaaPx17
namespace Go.Proofs.Ytbjhkcfgahbipaa.Pure
open Go.RowKit Go.Proofs.Ytbjhkcfgahbipaa.P Go.Proofs.YtbjhkcfgahbipaaW.PrintWords
set_option linter.unusedVariables false

theorem PfairWindow (x0_f0 : ByteArray) (x0_f1 : Int) (x0_f2 : Int) (a1 : Int) (hg0 : (x0_f0.size ≤ maxLen ∧ (Lit.int .i64 x0_f1).wf = true ∧ (Lit.int .i64 x0_f2).wf = true)) (w1 : (Lit.int .i64 a1).wf = true) :
    ontimelaw45_PfairWindow.f x0_f0 x0_f1 x0_f2 a1 = some true := rfl

end Go.Proofs.Ytbjhkcfgahbipaa.Pure
