/-
  No cell of these rows narrows 'for every input' (looked for: loops, veiled, ifaces, maps, wideKeys, modest, calm, conditions, laid).
  DERIVED. THE GIVEN ROWS OF THIS SEAT. 8 by the template 'for every input the law returns true; each argument reads behind the call as it read before'; 0 by the template 'total and deterministic' (their statements: YtbjhkcfgahbipaaTotals.lean).
  GIVEN WITH THE SEED: the statements are not yours to turn. If you find one false, say at which input.
  Laid BY PROGRAM, IN A SANDBOX (cutbox-rows.mjs): the forced cells as the released guide's own fill.sh prints them over the translation 9c14ad6e2d2751e5… (all of the seat's roots in one cut). By AI agents, Wed Nov 11 2026. No macro, syntax, notation, axiom, sorry.
-/
import Derived.Test.YtbjhkcfgahbipaaChecked
import GoSem.Claim
import GoSem.ClaimJoined
import GoSem.ClaimMapViews
import Derived.JoinedTies
import Derived.KernelRfl
namespace Go.Proofs.Ytbjhkcfgahbipaa
/- THE CELL 'sum', in the pinned program and in every row, IS THE sha256 OF THE DUMP (.gsa) THAT YtbjhkcfgahbipaaProg.lean LOADS. Nothing in Lean hashes anything: it is a label: what it is worth is what the hold of that sum in a sandbox is worth. -/
noncomputable def Try.pinned : Pinned := { name := "ytbjhkcfgahbipaa", sum := "9c14ad6e2d2751e5789d07a213ee3a18f508b173e62ea05173f5087fd2e79c98", checked := Try.checked }
namespace Rows
def none {H : Type} : Left H := { results := [], args := [] }

/-- 'ontimelaw45.PfairWindow': WHATEVER THE INPUT: true; the input reads as it did. -/
def pfairWindowSpec : ChangeSpec := { name := "pfairWindow", fn := fun _ => fun
  | [d1, d2] => { results := [.lit (.bool true)], args := [d1, d2] }
  | _ => none }
def pfairWindowRow : OpenClaim := { program := "ytbjhkcfgahbipaa", sum := "9c14ad6e2d2751e5789d07a213ee3a18f508b173e62ea05173f5087fd2e79c98", func := "ontime/ontimelaw45.PfairWindow", spec := "pfairWindow", unfollowed := true, recurses := true, apart := false }
def PfairWindowSaid : Prop := pfairWindowRow.holds Try.pinned (OpenSpec.ofChange pfairWindowSpec)

/-- ITS FALSE NEIGHBOUR: 'it returns false'. Refute it at one input. -/
def pfairWindowWrong : ChangeSpec := { name := "pfairWindow", fn := fun _ => fun
  | [d1, d2] => { results := [.lit (.bool false)], args := [d1, d2] }
  | _ => none }
def PfairWindowWrongFalsely : Prop := pfairWindowRow.holds Try.pinned (OpenSpec.ofChange pfairWindowWrong)

/-- 'ontimelaw45.PfairCovers': WHATEVER THE INPUT: true; the input reads as it did. -/
def pfairCoversSpec : ChangeSpec := { name := "pfairCovers", fn := fun _ => fun
  | [d] => { results := [.lit (.bool true)], args := [d] }
  | _ => none }
def pfairCoversRow : OpenClaim := { program := "ytbjhkcfgahbipaa", sum := "9c14ad6e2d2751e5789d07a213ee3a18f508b173e62ea05173f5087fd2e79c98", func := "ontime/ontimelaw45.PfairCovers", spec := "pfairCovers", unfollowed := true, recurses := true, apart := false }
def PfairCoversSaid : Prop := pfairCoversRow.holds Try.pinned (OpenSpec.ofChange pfairCoversSpec)

/-- ITS FALSE NEIGHBOUR: 'it returns false'. Refute it at one input. -/
def pfairCoversWrong : ChangeSpec := { name := "pfairCovers", fn := fun _ => fun
  | [d] => { results := [.lit (.bool false)], args := [d] }
  | _ => none }
def PfairCoversWrongFalsely : Prop := pfairCoversRow.holds Try.pinned (OpenSpec.ofChange pfairCoversWrong)

/-- 'ontimelaw45.PfairScales': WHATEVER THE INPUT: true; the input reads as it did. -/
def pfairScalesSpec : ChangeSpec := { name := "pfairScales", fn := fun _ => fun
  | [d1, d2, d3] => { results := [.lit (.bool true)], args := [d1, d2, d3] }
  | _ => none }
def pfairScalesRow : OpenClaim := { program := "ytbjhkcfgahbipaa", sum := "9c14ad6e2d2751e5789d07a213ee3a18f508b173e62ea05173f5087fd2e79c98", func := "ontime/ontimelaw45.PfairScales", spec := "pfairScales", unfollowed := true, recurses := true, apart := false }
def PfairScalesSaid : Prop := pfairScalesRow.holds Try.pinned (OpenSpec.ofChange pfairScalesSpec)

/-- ITS FALSE NEIGHBOUR: 'it returns false'. Refute it at one input. -/
def pfairScalesWrong : ChangeSpec := { name := "pfairScales", fn := fun _ => fun
  | [d1, d2, d3] => { results := [.lit (.bool false)], args := [d1, d2, d3] }
  | _ => none }
def PfairScalesWrongFalsely : Prop := pfairScalesRow.holds Try.pinned (OpenSpec.ofChange pfairScalesWrong)

/-- 'ontimelaw45.PfairGroups': WHATEVER THE INPUT: true; the input reads as it did. -/
def pfairGroupsSpec : ChangeSpec := { name := "pfairGroups", fn := fun _ => fun
  | [d] => { results := [.lit (.bool true)], args := [d] }
  | _ => none }
def pfairGroupsRow : OpenClaim := { program := "ytbjhkcfgahbipaa", sum := "9c14ad6e2d2751e5789d07a213ee3a18f508b173e62ea05173f5087fd2e79c98", func := "ontime/ontimelaw45.PfairGroups", spec := "pfairGroups", unfollowed := true, recurses := true, apart := false }
def PfairGroupsSaid : Prop := pfairGroupsRow.holds Try.pinned (OpenSpec.ofChange pfairGroupsSpec)

/-- ITS FALSE NEIGHBOUR: 'it returns false'. Refute it at one input. -/
def pfairGroupsWrong : ChangeSpec := { name := "pfairGroups", fn := fun _ => fun
  | [d] => { results := [.lit (.bool false)], args := [d] }
  | _ => none }
def PfairGroupsWrongFalsely : Prop := pfairGroupsRow.holds Try.pinned (OpenSpec.ofChange pfairGroupsWrong)

/-- 'ontimelaw45.PfairLag': WHATEVER THE INPUT: true; the input reads as it did. -/
def pfairLagSpec : ChangeSpec := { name := "pfairLag", fn := fun _ => fun
  | [d1, d2, d3] => { results := [.lit (.bool true)], args := [d1, d2, d3] }
  | _ => none }
def pfairLagRow : OpenClaim := { program := "ytbjhkcfgahbipaa", sum := "9c14ad6e2d2751e5789d07a213ee3a18f508b173e62ea05173f5087fd2e79c98", func := "ontime/ontimelaw45.PfairLag", spec := "pfairLag", unfollowed := true, recurses := true, apart := false }
def PfairLagSaid : Prop := pfairLagRow.holds Try.pinned (OpenSpec.ofChange pfairLagSpec)

/-- ITS FALSE NEIGHBOUR: 'it returns false'. Refute it at one input. -/
def pfairLagWrong : ChangeSpec := { name := "pfairLag", fn := fun _ => fun
  | [d1, d2, d3] => { results := [.lit (.bool false)], args := [d1, d2, d3] }
  | _ => none }
def PfairLagWrongFalsely : Prop := pfairLagRow.holds Try.pinned (OpenSpec.ofChange pfairLagWrong)

/-- 'ontimelaw45.PfairBefore': WHATEVER THE INPUT: true; the input reads as it did. -/
def pfairBeforeSpec : ChangeSpec := { name := "pfairBefore", fn := fun _ => fun
  | [d1, d2] => { results := [.lit (.bool true)], args := [d1, d2] }
  | _ => none }
def pfairBeforeRow : OpenClaim := { program := "ytbjhkcfgahbipaa", sum := "9c14ad6e2d2751e5789d07a213ee3a18f508b173e62ea05173f5087fd2e79c98", func := "ontime/ontimelaw45.PfairBefore", spec := "pfairBefore", unfollowed := true, recurses := true, apart := false }
def PfairBeforeSaid : Prop := pfairBeforeRow.holds Try.pinned (OpenSpec.ofChange pfairBeforeSpec)

/-- ITS FALSE NEIGHBOUR: 'it returns false'. Refute it at one input. -/
def pfairBeforeWrong : ChangeSpec := { name := "pfairBefore", fn := fun _ => fun
  | [d1, d2] => { results := [.lit (.bool false)], args := [d1, d2] }
  | _ => none }
def PfairBeforeWrongFalsely : Prop := pfairBeforeRow.holds Try.pinned (OpenSpec.ofChange pfairBeforeWrong)

/-- 'ontimelaw45.PfairOrder': WHATEVER THE INPUT: true; the input reads as it did. -/
def pfairOrderSpec : ChangeSpec := { name := "pfairOrder", fn := fun _ => fun
  | [d1, d2, d3] => { results := [.lit (.bool true)], args := [d1, d2, d3] }
  | _ => none }
def pfairOrderRow : OpenClaim := { program := "ytbjhkcfgahbipaa", sum := "9c14ad6e2d2751e5789d07a213ee3a18f508b173e62ea05173f5087fd2e79c98", func := "ontime/ontimelaw45.PfairOrder", spec := "pfairOrder", unfollowed := true, recurses := true, apart := false }
def PfairOrderSaid : Prop := pfairOrderRow.holds Try.pinned (OpenSpec.ofChange pfairOrderSpec)

/-- ITS FALSE NEIGHBOUR: 'it returns false'. Refute it at one input. -/
def pfairOrderWrong : ChangeSpec := { name := "pfairOrder", fn := fun _ => fun
  | [d1, d2, d3] => { results := [.lit (.bool false)], args := [d1, d2, d3] }
  | _ => none }
def PfairOrderWrongFalsely : Prop := pfairOrderRow.holds Try.pinned (OpenSpec.ofChange pfairOrderWrong)

/-- 'ontimelaw45.PfairDeadlines': WHATEVER THE INPUT: true; the input reads as it did. -/
def pfairDeadlinesSpec : ChangeSpec := { name := "pfairDeadlines", fn := fun _ => fun
  | [d1, d2] => { results := [.lit (.bool true)], args := [d1, d2] }
  | _ => none }
def pfairDeadlinesRow : OpenClaim := { program := "ytbjhkcfgahbipaa", sum := "9c14ad6e2d2751e5789d07a213ee3a18f508b173e62ea05173f5087fd2e79c98", func := "ontime/ontimelaw45.PfairDeadlines", spec := "pfairDeadlines", unfollowed := true, recurses := true, apart := false }
def PfairDeadlinesSaid : Prop := pfairDeadlinesRow.holds Try.pinned (OpenSpec.ofChange pfairDeadlinesSpec)

/-- ITS FALSE NEIGHBOUR: 'it returns false'. Refute it at one input. -/
def pfairDeadlinesWrong : ChangeSpec := { name := "pfairDeadlines", fn := fun _ => fun
  | [d1, d2] => { results := [.lit (.bool false)], args := [d1, d2] }
  | _ => none }
def PfairDeadlinesWrongFalsely : Prop := pfairDeadlinesRow.holds Try.pinned (OpenSpec.ofChange pfairDeadlinesWrong)

/- THE SECOND FORM. 'bulk': how many values and letters a reading holds, each counted each time it is reached (what is shared counts as often as it is met; a slice's spare places count too). A statement '..UptoSaid' is the law's where the arguments, and the package variables that the reading takes, are together of bulk at most 1048576: NARROWER than '..Said'. Prove '..Said' where nothing that the law and all that it calls make is longer than what came in: it says more and counts as full. Else prove '..UptoSaid'. A law counts once. -/
mutual
def uptoBulk {H : Type} : DataW H → Nat
  | .lit (.string bytes) => bytes.length + 1
  | .lit _ => 1
  | .nil => 1
  | .ptr d => uptoBulk d + 1
  | .slice elems spare => uptoBulkAll elems + uptoBulkAll spare + 1
  | .agg parts => uptoBulkAll parts + 1
  | .iface _ d => uptoBulk d + 1
  | .map entries => uptoBulkEntries entries + 1
  | .held _ => 1
def uptoBulkAll {H : Type} : List (DataW H) → Nat
  | [] => 0
  | d :: r => uptoBulk d + uptoBulkAll r
def uptoBulkEntries {H : Type} : List (Lit × DataW H) → Nat
  | [] => 0
  | x :: r => uptoBulkEntry x + uptoBulkEntries r
def uptoBulkEntry {H : Type} : Lit × DataW H → Nat
  | (.string bytes, d) => bytes.length + uptoBulk d + 1
  | (_, d) => uptoBulk d + 1
 end
def uptoSmall : (H : Type) → List (DataW H) → Bool := fun _ ds => decide (uptoBulkAll ds ≤ 1048576)
def OpenSpec.upto (s : _root_.Go.ChangeSpec) : _root_.Go.OpenSpec := { _root_.Go.OpenSpec.ofChange s with cond := some uptoSmall }

/-- 'ontimelaw45.PfairWindow', WHERE WHAT IT READS IS OF BULK AT MOST 1048576: true; the input reads as it did. -/
def pfairWindowUptoRow : OpenClaim := { program := "ytbjhkcfgahbipaa", sum := "9c14ad6e2d2751e5789d07a213ee3a18f508b173e62ea05173f5087fd2e79c98", func := "ontime/ontimelaw45.PfairWindow", spec := "pfairWindow", unfollowed := true, recurses := true, apart := false, narrowed := true }
def PfairWindowUptoSaid : Prop := pfairWindowUptoRow.holds Try.pinned (OpenSpec.upto pfairWindowSpec)

/-- 'ontimelaw45.PfairCovers', WHERE WHAT IT READS IS OF BULK AT MOST 1048576: true; the input reads as it did. -/
def pfairCoversUptoRow : OpenClaim := { program := "ytbjhkcfgahbipaa", sum := "9c14ad6e2d2751e5789d07a213ee3a18f508b173e62ea05173f5087fd2e79c98", func := "ontime/ontimelaw45.PfairCovers", spec := "pfairCovers", unfollowed := true, recurses := true, apart := false, narrowed := true }
def PfairCoversUptoSaid : Prop := pfairCoversUptoRow.holds Try.pinned (OpenSpec.upto pfairCoversSpec)

/-- 'ontimelaw45.PfairScales', WHERE WHAT IT READS IS OF BULK AT MOST 1048576: true; the input reads as it did. -/
def pfairScalesUptoRow : OpenClaim := { program := "ytbjhkcfgahbipaa", sum := "9c14ad6e2d2751e5789d07a213ee3a18f508b173e62ea05173f5087fd2e79c98", func := "ontime/ontimelaw45.PfairScales", spec := "pfairScales", unfollowed := true, recurses := true, apart := false, narrowed := true }
def PfairScalesUptoSaid : Prop := pfairScalesUptoRow.holds Try.pinned (OpenSpec.upto pfairScalesSpec)

/-- 'ontimelaw45.PfairGroups', WHERE WHAT IT READS IS OF BULK AT MOST 1048576: true; the input reads as it did. -/
def pfairGroupsUptoRow : OpenClaim := { program := "ytbjhkcfgahbipaa", sum := "9c14ad6e2d2751e5789d07a213ee3a18f508b173e62ea05173f5087fd2e79c98", func := "ontime/ontimelaw45.PfairGroups", spec := "pfairGroups", unfollowed := true, recurses := true, apart := false, narrowed := true }
def PfairGroupsUptoSaid : Prop := pfairGroupsUptoRow.holds Try.pinned (OpenSpec.upto pfairGroupsSpec)

/-- 'ontimelaw45.PfairLag', WHERE WHAT IT READS IS OF BULK AT MOST 1048576: true; the input reads as it did. -/
def pfairLagUptoRow : OpenClaim := { program := "ytbjhkcfgahbipaa", sum := "9c14ad6e2d2751e5789d07a213ee3a18f508b173e62ea05173f5087fd2e79c98", func := "ontime/ontimelaw45.PfairLag", spec := "pfairLag", unfollowed := true, recurses := true, apart := false, narrowed := true }
def PfairLagUptoSaid : Prop := pfairLagUptoRow.holds Try.pinned (OpenSpec.upto pfairLagSpec)

/-- 'ontimelaw45.PfairBefore', WHERE WHAT IT READS IS OF BULK AT MOST 1048576: true; the input reads as it did. -/
def pfairBeforeUptoRow : OpenClaim := { program := "ytbjhkcfgahbipaa", sum := "9c14ad6e2d2751e5789d07a213ee3a18f508b173e62ea05173f5087fd2e79c98", func := "ontime/ontimelaw45.PfairBefore", spec := "pfairBefore", unfollowed := true, recurses := true, apart := false, narrowed := true }
def PfairBeforeUptoSaid : Prop := pfairBeforeUptoRow.holds Try.pinned (OpenSpec.upto pfairBeforeSpec)

/-- 'ontimelaw45.PfairOrder', WHERE WHAT IT READS IS OF BULK AT MOST 1048576: true; the input reads as it did. -/
def pfairOrderUptoRow : OpenClaim := { program := "ytbjhkcfgahbipaa", sum := "9c14ad6e2d2751e5789d07a213ee3a18f508b173e62ea05173f5087fd2e79c98", func := "ontime/ontimelaw45.PfairOrder", spec := "pfairOrder", unfollowed := true, recurses := true, apart := false, narrowed := true }
def PfairOrderUptoSaid : Prop := pfairOrderUptoRow.holds Try.pinned (OpenSpec.upto pfairOrderSpec)

/-- 'ontimelaw45.PfairDeadlines', WHERE WHAT IT READS IS OF BULK AT MOST 1048576: true; the input reads as it did. -/
def pfairDeadlinesUptoRow : OpenClaim := { program := "ytbjhkcfgahbipaa", sum := "9c14ad6e2d2751e5789d07a213ee3a18f508b173e62ea05173f5087fd2e79c98", func := "ontime/ontimelaw45.PfairDeadlines", spec := "pfairDeadlines", unfollowed := true, recurses := true, apart := false, narrowed := true }
def PfairDeadlinesUptoSaid : Prop := pfairDeadlinesUptoRow.holds Try.pinned (OpenSpec.upto pfairDeadlinesSpec)

end Rows
end Go.Proofs.Ytbjhkcfgahbipaa
