/- Priority, told in plain words: the key by which Before compares. -/
import Derived.Test.YtbjhkcfgahbipaaPx24
import Derived.Test.YtbjhkcfgahbipaaPx25
import Derived.Test.YtbjhkcfgahbipaaPx23
import Derived.Test.YtbjhkcfgahbipaaPx26
import Derived.Test.YtbjhkcfgahbipaaAwake
namespace Go.Proofs.Ytbjhkcfgahbipaa.Plain
open Go.RowKit Go.Proofs.Ytbjhkcfgahbipaa.P Go.Proofs.YtbjhkcfgahbipaaW.PrintWords
set_option linter.unusedVariables false

/-- A candidate's absolute group deadline: 0 if its task is not heavy. -/
def absGroup (c p rel i : Int) : Int := if pf_heavy c p then rel + pf_group c p i else 0
/-- Priority. -/
def prio (n1 c1 p1 r1 i1 n2 c2 p2 r2 i2 : Int) : Bool :=
  if r1 + pf_dl c1 p1 i1 = r2 + pf_dl c2 p2 i2 then
    (if (pf_ov c1 p1 i1 != pf_ov c2 p2 i2) = true then pf_ov c1 p1 i1
     else if pf_ov c1 p1 i1 = true then
       (if absGroup c1 p1 r1 i1 = absGroup c2 p2 r2 i2 then decide (n1 < n2) else decide (absGroup c2 p2 r2 i2 < absGroup c1 p1 r1 i1))
     else decide (n1 < n2))
  else decide (r1 + pf_dl c1 p1 i1 < r2 + pf_dl c2 p2 i2)

theorem compare_eval (a b : Int) : cmp_Compare_int.f a b = some (if a < b then -1 else if a > b then 1 else 0) := by
  unfold cmp_Compare_int.f cmp_isNaN_int.f
  simp only [bne_self_eq_false, Option.bind_some, Bool.false_eq_true, if_false]
  split
  · rfl
  · split <;> rfl
theorem compare_cases (a b : Int) : ∃ n : Int, cmp_Compare_int.f a b = some n ∧ (n = 0 ↔ a = b) ∧ (n < 0 ↔ a < b) ∧ (n > 0 ↔ b < a) := by
  refine ⟨_, compare_eval a b, ?_⟩
  split
  · omega
  · split <;> omega
theorem group_eval (nm : ByteArray) (num c p rel i : Int) (k : Nat) (hv : pf_vld c p = true) (h1 : 1 ≤ i) (h2 : i ≤ c) (r1 : -1099511627776 ≤ rel) (r2 : rel ≤ 1099511627776) :
    pfair_Candidate_group.f (k + 2) num nm c p rel i = some (absGroup c p rel i) := by
  unfold pfair_Candidate_group.f absGroup
  rw [pf_heavy_eval nm c p k, Option.bind_some]
  unfold pfair_Group.f
  rw [Option.bind_some]
  cases hh : pf_heavy c p
  · rfl
  · obtain ⟨_, _, _, hc, hp, hp2⟩ := heavy_parts hh
    have := group_le c p i hh h1 h2
    have := (group_spec c p i hh h1 h2).1
    have := dl_pos c p i hc hp h1
    rw [if_pos rfl, if_pos rfl, pf_wrap (by omega) (by omega)]
theorem before_eval (nm1 nm2 : ByteArray) (n1 c1 p1 r1 i1 n2 c2 p2 r2 i2 : Int) (k : Nat) (hv1 : pf_vld c1 p1 = true) (a1 : 1 ≤ i1) (a2 : i1 ≤ c1) (hv2 : pf_vld c2 p2 = true) (b1 : 1 ≤ i2) (b2 : i2 ≤ c2)
    (q1 : -1099511627776 ≤ r1) (q2 : r1 ≤ 1099511627776) (q3 : -1099511627776 ≤ r2) (q4 : r2 ≤ 1099511627776) :
    pfair_Before.f (k + 3) n1 nm1 c1 p1 r1 i1 n2 nm2 c2 p2 r2 i2 = some (prio n1 c1 p1 r1 i1 n2 c2 p2 r2 i2) := by
  obtain ⟨v1, v2, v3⟩ := (pf_vld_iff c1 p1).1 hv1
  obtain ⟨u1, u2, u3⟩ := (pf_vld_iff c2 p2).1 hv2
  have d1 := dl_bounds c1 p1 i1 (by omega) (by omega) a1 a2
  have d2 := dl_bounds c2 p2 i2 (by omega) (by omega) b1 b2
  unfold pfair_Before.f
  rw [pf_window_eval nm1 c1 p1 i1 (k + 1) hv1 a1 a2, pf_window_eval nm2 c2 p2 i2 (k + 1) hv2 b1 b2]
  simp only [Option.bind_some, if_true, bne_self_eq_false]
  simp only [pfair_Before.j0]
  rw [if_neg (by decide), pf_wrap (x := r1 + pf_dl c1 p1 i1) (by omega) (by omega), pf_wrap (x := r2 + pf_dl c2 p2 i2) (by omega) (by omega)]
  obtain ⟨n, hn, k1, k2, k3⟩ := compare_cases (r1 + pf_dl c1 p1 i1) (r2 + pf_dl c2 p2 i2)
  rw [hn, pf_overlaps_eval nm1 c1 p1 i1 k, pf_overlaps_eval nm2 c2 p2 i2 k, hv1, hv2, decide_eq_true (show 1 ≤ i1 ∧ i1 ≤ c1 from ⟨a1, a2⟩), decide_eq_true (show 1 ≤ i2 ∧ i2 ≤ c2 from ⟨b1, b2⟩), group_eval nm1 n1 c1 p1 r1 i1 k hv1 a1 a2 q1 q2, group_eval nm2 n2 c2 p2 r2 i2 k hv2 b1 b2 q3 q4]
  obtain ⟨m, hm, m1, m2, m3⟩ := compare_cases (absGroup c1 p1 r1 i1) (absGroup c2 p2 r2 i2)
  simp only [Option.bind_some, Bool.true_and, hm]
  unfold prio
  by_cases e : r1 + pf_dl c1 p1 i1 = r2 + pf_dl c2 p2 i2
  · rw [if_pos (k1.2 e), if_pos e]
    split
    · rfl
    · split
      · by_cases e2 : absGroup c1 p1 r1 i1 = absGroup c2 p2 r2 i2
        · rw [if_pos (m1.2 e2), if_pos e2]
        · rw [if_neg (fun h => e2 (m1.1 h)), if_neg e2]
          congr 1
          exact decide_eq_decide.2 m3
      · rfl
  · rw [if_neg (fun h => e (k1.1 h)), if_neg e]
    congr 1
    exact decide_eq_decide.2 k2
theorem before_no (nm1 nm2 : ByteArray) (n1 c1 p1 r1 i1 n2 c2 p2 r2 i2 : Int) (k : Nat) (h : (pf_vld c1 p1 && decide (1 ≤ i1 ∧ i1 ≤ c1) && (pf_vld c2 p2 && decide (1 ≤ i2 ∧ i2 ≤ c2))) = false) :
    pfair_Before.f (k + 3) n1 nm1 c1 p1 r1 i1 n2 nm2 c2 p2 r2 i2 = some false := by
  unfold pfair_Before.f
  have j : ∀ b, b = true → ∀ x y z u v s, pfair_Before.j0 (k + 3) b n1 nm1 c1 p1 r1 i1 n2 nm2 c2 p2 r2 i2 x y z u v s = some false := by
    rintro b rfl x y z u v s
    rfl
  cases hg1 : (pf_vld c1 p1 && decide (1 ≤ i1 ∧ i1 ≤ c1))
  · rw [pf_window_no nm1 c1 p1 i1 (k + 1) hg1, Option.bind_some]
    cases hg2 : (pf_vld c2 p2 && decide (1 ≤ i2 ∧ i2 ≤ c2))
    · rw [pf_window_no nm2 c2 p2 i2 (k + 1) hg2, Option.bind_some]
      show (if (if pf_vld c1 p1 = true then (2 : Int) else 1) = 0 then _ else _) = _
      rw [if_neg (by split <;> omega)]
      exact j _ rfl _ _ _ _ _ _
    · simp only [Bool.and_eq_true, decide_eq_true_eq] at hg2
      rw [pf_window_eval nm2 c2 p2 i2 (k + 1) hg2.1 hg2.2.1 hg2.2.2, Option.bind_some]
      show (if (if pf_vld c1 p1 = true then (2 : Int) else 1) = 0 then _ else _) = _
      rw [if_neg (by split <;> omega)]
      exact j _ rfl _ _ _ _ _ _
  · rw [hg1, Bool.true_and] at h
    simp only [Bool.and_eq_true, decide_eq_true_eq] at hg1
    rw [pf_window_eval nm1 c1 p1 i1 (k + 1) hg1.1 hg1.2.1 hg1.2.2, pf_window_no nm2 c2 p2 i2 (k + 1) h]
    simp only [Option.bind_some, if_true]
    refine j _ ?_ _ _ _ _ _ _
    cases pf_vld c2 p2 <;> rfl
end Go.Proofs.Ytbjhkcfgahbipaa.Plain
