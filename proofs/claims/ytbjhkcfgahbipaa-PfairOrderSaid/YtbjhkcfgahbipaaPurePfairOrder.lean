/- PfairOrder, over numbers alone: priority is a strict total order of candidates with different numbers. -/
import Derived.Test.YtbjhkcfgahbipaaPx31
import Derived.Test.YtbjhkcfgahbipaaCand
namespace Go.Proofs.Ytbjhkcfgahbipaa.Pure
open Go.RowKit Go.Proofs.Ytbjhkcfgahbipaa.P Go.Proofs.Ytbjhkcfgahbipaa.Plain Go.Proofs.YtbjhkcfgahbipaaW.PrintWords
set_option linter.unusedVariables false

/-- The comparison of two keys: deadline, b bit, group deadline, number. -/
def keyLt (d1 : Int) (s1 : Bool) (g1 n1 d2 : Int) (s2 : Bool) (g2 n2 : Int) : Bool :=
  if d1 = d2 then (if (s1 != s2) = true then s1 else if s1 = true then (if g1 = g2 then decide (n1 < n2) else decide (g2 < g1)) else decide (n1 < n2)) else decide (d1 < d2)
theorem prio_key (n1 c1 p1 r1 i1 n2 c2 p2 r2 i2 : Int) : prio n1 c1 p1 r1 i1 n2 c2 p2 r2 i2 = keyLt (r1 + pf_dl c1 p1 i1) (pf_ov c1 p1 i1) (absGroup c1 p1 r1 i1) n1 (r2 + pf_dl c2 p2 i2) (pf_ov c2 p2 i2) (absGroup c2 p2 r2 i2) n2 := rfl
theorem key_irrefl (d : Int) (s : Bool) (g n : Int) : keyLt d s g n d s g n = false := by
  unfold keyLt
  cases s <;> simp
theorem key_iff (d1 : Int) (s1 : Bool) (g1 n1 d2 : Int) (s2 : Bool) (g2 n2 : Int) : keyLt d1 s1 g1 n1 d2 s2 g2 n2 = true ↔
    d1 < d2 ∨ (d1 = d2 ∧ ((s1 = true ∧ s2 = false) ∨ (s1 = s2 ∧ ((s1 = true ∧ g2 < g1) ∨ ((s1 = false ∨ g1 = g2) ∧ n1 < n2))))) := by
  unfold keyLt
  by_cases e : d1 = d2
  · rw [if_pos e]
    cases s1 <;> cases s2 <;> simp [e]
    by_cases e2 : g1 = g2
    · simp [e2]
    · simp [e2]
  · rw [if_neg e]
    simp [e]
theorem key_other (d1 : Int) (s1 : Bool) (g1 n1 d2 : Int) (s2 : Bool) (g2 n2 : Int) (hn : n1 ≠ n2) : (keyLt d1 s1 g1 n1 d2 s2 g2 n2 == keyLt d2 s2 g2 n2 d1 s1 g1 n1) = false := by
  have h1 := key_iff d1 s1 g1 n1 d2 s2 g2 n2
  have h2 := key_iff d2 s2 g2 n2 d1 s1 g1 n1
  generalize keyLt d1 s1 g1 n1 d2 s2 g2 n2 = a at *
  generalize keyLt d2 s2 g2 n2 d1 s1 g1 n1 = b at *
  cases a <;> cases b <;> cases s1 <;> cases s2 <;> simp at h1 h2 ⊢ <;> omega
theorem key_trans (d1 : Int) (s1 : Bool) (g1 n1 d2 : Int) (s2 : Bool) (g2 n2 d3 : Int) (s3 : Bool) (g3 n3 : Int) (h1 : keyLt d1 s1 g1 n1 d2 s2 g2 n2 = true) (h2 : keyLt d2 s2 g2 n2 d3 s3 g3 n3 = true) :
    keyLt d1 s1 g1 n1 d3 s3 g3 n3 = true := by
  rw [key_iff] at *
  cases s1 <;> cases s2 <;> cases s3 <;> simp at h1 h2 ⊢ <;> omega

theorem PfairOrder (x0_f0 : Int) (x0_f1_f0 : ByteArray) (x0_f1_f1 : Int) (x0_f1_f2 : Int) (x0_f2 : Int) (x0_f3 : Int) (x1_f0 : Int) (x1_f1_f0 : ByteArray) (x1_f1_f1 : Int) (x1_f1_f2 : Int) (x1_f2 : Int) (x1_f3 : Int) (x2_f0 : Int) (x2_f1_f0 : ByteArray) (x2_f1_f1 : Int) (x2_f1_f2 : Int) (x2_f2 : Int) (x2_f3 : Int) (hg0 : ((Lit.int .i64 x0_f0).wf = true ∧ (x0_f1_f0.size ≤ maxLen ∧ (Lit.int .i64 x0_f1_f1).wf = true ∧ (Lit.int .i64 x0_f1_f2).wf = true) ∧ (Lit.int .i64 x0_f2).wf = true ∧ (Lit.int .i64 x0_f3).wf = true)) (hg1 : ((Lit.int .i64 x1_f0).wf = true ∧ (x1_f1_f0.size ≤ maxLen ∧ (Lit.int .i64 x1_f1_f1).wf = true ∧ (Lit.int .i64 x1_f1_f2).wf = true) ∧ (Lit.int .i64 x1_f2).wf = true ∧ (Lit.int .i64 x1_f3).wf = true)) (hg2 : ((Lit.int .i64 x2_f0).wf = true ∧ (x2_f1_f0.size ≤ maxLen ∧ (Lit.int .i64 x2_f1_f1).wf = true ∧ (Lit.int .i64 x2_f1_f2).wf = true) ∧ (Lit.int .i64 x2_f2).wf = true ∧ (Lit.int .i64 x2_f3).wf = true)) :
    ∃ k, ontimelaw45_PfairOrder.f k x0_f0 x0_f1_f0 x0_f1_f1 x0_f1_f2 x0_f2 x0_f3 x1_f0 x1_f1_f0 x1_f1_f1 x1_f1_f2 x1_f2 x1_f3 x2_f0 x2_f1_f0 x2_f1_f1 x2_f1_f2 x2_f2 x2_f3 = some true := by
  refine ⟨10, ?_⟩
  unfold ontimelaw45_PfairOrder.f
  rw [awake_eval 8, Option.bind_some, if_pos rfl]
  have skip : ontimelaw45_PfairOrder.j0 10 true x0_f0 x0_f1_f0 x0_f1_f1 x0_f1_f2 x0_f2 x0_f3 x1_f0 x1_f1_f0 x1_f1_f1 x1_f1_f2 x1_f2 x1_f3 x2_f0 x2_f1_f0 x2_f1_f1 x2_f1_f2 x2_f2 x2_f3 = some true := rfl
  rcases candidate_cases x0_f1_f0 x0_f0 x0_f1_f1 x0_f1_f2 x0_f2 x0_f3 with e | ⟨e, fa⟩
  · rw [e, Option.bind_some, if_pos rfl]; exact skip
  rw [e, Option.bind_some, if_neg (by decide)]
  rcases candidate_cases x1_f1_f0 x1_f0 x1_f1_f1 x1_f1_f2 x1_f2 x1_f3 with e | ⟨e, fb⟩
  · rw [e, Option.bind_some, if_pos rfl]; exact skip
  rw [e, Option.bind_some, if_neg (by decide)]
  rcases candidate_cases x2_f1_f0 x2_f0 x2_f1_f1 x2_f1_f2 x2_f2 x2_f3 with e | ⟨e, fc⟩
  · rw [e, Option.bind_some, if_pos rfl]; exact skip
  rw [e, Option.bind_some, if_neg (by decide)]
  by_cases q1 : x0_f0 = x1_f0
  · rw [if_pos q1]; exact skip
  rw [if_neg q1]
  by_cases q2 : x1_f0 = x2_f0
  · rw [if_pos q2]; exact skip
  rw [if_neg q2]
  have main : ontimelaw45_PfairOrder.j0 10 false x0_f0 x0_f1_f0 x0_f1_f1 x0_f1_f2 x0_f2 x0_f3 x1_f0 x1_f1_f0 x1_f1_f1 x1_f1_f2 x1_f2 x1_f3 x2_f0 x2_f1_f0 x2_f1_f1 x2_f1_f2 x2_f2 x2_f3 = some true := by
    simp only [ontimelaw45_PfairOrder.j0]
    rw [if_neg (by decide), before_fair _ _ x0_f0 _ _ _ _ x0_f0 _ _ _ _ 6 fa fa, before_fair _ _ x0_f0 _ _ _ _ x1_f0 _ _ _ _ 6 fa fb, before_fair _ _ x1_f0 _ _ _ _ x0_f0 _ _ _ _ 6 fb fa]
    rw [prio_key x0_f0 x0_f1_f1 x0_f1_f2 x0_f2 x0_f3 x0_f0 x0_f1_f1 x0_f1_f2 x0_f2 x0_f3, key_irrefl]
    simp only [Option.bind_some]
    rw [if_neg (by decide), prio_key, prio_key, key_other _ _ _ _ _ _ _ _ q1]
    simp only [ontimelaw45_PfairOrder.j1]
    rw [if_neg (by decide), before_fair _ _ x0_f0 _ _ _ _ x1_f0 _ _ _ _ 5 fa fb, before_fair _ _ x1_f0 _ _ _ _ x2_f0 _ _ _ _ 5 fb fc, before_fair _ _ x0_f0 _ _ _ _ x2_f0 _ _ _ _ 5 fa fc]
    simp only [Option.bind_some]
    cases h1 : prio x0_f0 x0_f1_f1 x0_f1_f2 x0_f2 x0_f3 x1_f0 x1_f1_f1 x1_f1_f2 x1_f2 x1_f3
    · rfl
    cases h2 : prio x1_f0 x1_f1_f1 x1_f1_f2 x1_f2 x1_f3 x2_f0 x2_f1_f1 x2_f1_f2 x2_f2 x2_f3
    · rfl
    rw [prio_key] at h1 h2 ⊢
    rw [key_trans _ _ _ _ _ _ _ _ _ _ _ _ h1 h2]
    rfl
  by_cases q3 : x0_f0 = x2_f0
  · rw [show (x0_f0 == x2_f0) = true from beq_iff_eq.2 q3]; exact skip
  · rw [show (x0_f0 == x2_f0) = false from beq_eq_false_iff_ne.2 q3]; exact main

end Go.Proofs.Ytbjhkcfgahbipaa.Pure
