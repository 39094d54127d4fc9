/- PfairGroups, over numbers alone: group deadlines never decrease, lie between the deadline and the period, and are 0 for tasks that are not heavy. -/
import Derived.Test.YtbjhkcfgahbipaaPx20
import Derived.Test.YtbjhkcfgahbipaaAwake
namespace Go.Proofs.Ytbjhkcfgahbipaa.Pure
open Go.RowKit Go.Proofs.Ytbjhkcfgahbipaa.P Go.Proofs.Ytbjhkcfgahbipaa.Plain Go.Proofs.YtbjhkcfgahbipaaW.PrintWords
set_option linter.unusedVariables false

theorem group_mono (c p i : Int) (hh : pf_heavy c p = true) (h1 : 1 ≤ i) (h2 : i + 1 ≤ c) : pf_group c p i ≤ pf_group c p (i + 1) := by
  obtain ⟨hv, g1, g2, hc, hp, _⟩ := heavy_parts hh
  obtain ⟨a1, ⟨m, m1, m2, m3⟩, _⟩ := group_spec c p (i + 1) hh (by omega) h2
  have := dl_mono c p i (i + 1) hc g1 (by omega)
  rw [← m3]
  exact (group_spec c p i hh h1 (by omega)).2.2 m (by omega) m2 (by omega)

theorem groups_round (nm : ByteArray) (c p i last : Int) (k : Nat) (hv : pf_vld c p = true) (h1 : 1 ≤ i) (h2 : i ≤ c) (hl : last ≤ pf_group c p i) :
    ontimelaw45_PfairGroups.l0 (k + 3) last i nm c p = ontimelaw45_PfairGroups.l0 (k + 2) (if pf_heavy c p then pf_group c p i else last) (i + 1) nm c p := by
  obtain ⟨b1, b2, b3⟩ := (pf_vld_iff c p).1 hv
  have hc : 0 < c := by omega
  have hp : 0 < p := by omega
  simp only [ontimelaw45_PfairGroups.l0]
  unfold pfair_Group.f
  rw [if_pos h2, pf_window_eval nm c p i k hv h1 h2, pf_heavy_eval nm c p k, pf_wrap (x := i + 1) (by omega) (by omega)]
  simp only [Option.bind_some, if_true]
  cases hh : pf_heavy c p
  · rw [if_neg (by decide), group_zero c p i hh, if_pos rfl]
    rfl
  · rw [if_pos rfl, if_neg (by omega), if_neg (by have := (group_spec c p i hh h1 h2).1; omega), if_neg (by have := group_le c p i hh h1 h2; omega)]
    by_cases e : i = c
    · rw [if_pos e, if_pos ?_]
      · rfl
      · subst e
        have := (group_spec i p i hh h1 h2).1
        rw [(dl_last i p hc).1] at this
        have := group_le i p i hh h1 h2
        omega
    · rw [if_neg e]
      rfl

theorem groups_all (nm : ByteArray) (c p : Int) (hv : pf_vld c p = true) (d : Nat) : ∀ i last : Int, 1 ≤ i → i ≤ c + 1 → c + 1 - i = d → (pf_heavy c p = false → last = 0) → (pf_heavy c p = true → i ≤ c → last ≤ pf_group c p i) →
    ∃ k, ontimelaw45_PfairGroups.l0 (k + 2) last i nm c p = some true := by
  obtain ⟨b1, b2, b3⟩ := (pf_vld_iff c p).1 hv
  have hc : 0 < c := by omega
  induction d with
  | zero =>
    intro i last h1 h2 hd _ _
    obtain rfl : i = c + 1 := by omega
    refine ⟨1, ?_⟩
    simp only [ontimelaw45_PfairGroups.l0]
    rw [if_neg (by omega), pf_heavy_eval nm c p 0, pf_wrap (x := 2 * c) (by omega) (by omega)]
    simp only [Option.bind_some]
    unfold pf_heavy
    rw [hv, Bool.true_and]
    by_cases h : c < p
    · rw [if_pos h]
      congr 1
      rw [beq_iff_eq]
      exact decide_eq_decide.2 ⟨fun h => h.2, fun h' => ⟨h, h'⟩⟩
    · rw [if_neg h, decide_eq_false (fun h' => h h'.1)]
      rfl
  | succ d ih =>
    intro i last h1 h2 hd hz hm
    have hl : last ≤ pf_group c p i := by
      cases hh : pf_heavy c p
      · rw [hz hh, group_zero c p i hh]; exact Int.le_refl _
      · exact hm hh (by omega)
    obtain ⟨k, hk⟩ := ih (i + 1) (if pf_heavy c p then pf_group c p i else last) (by omega) (by omega) (by omega) (fun h => by rw [h]; exact hz h) (fun h hi => by rw [h]; exact group_mono c p i h h1 hi)
    exact ⟨k + 1, (groups_round nm c p i last k hv h1 (by omega) hl).trans hk⟩

theorem PfairGroups (x0_f0 : ByteArray) (x0_f1 : Int) (x0_f2 : Int) (hg0 : (x0_f0.size ≤ maxLen ∧ (Lit.int .i64 x0_f1).wf = true ∧ (Lit.int .i64 x0_f2).wf = true)) :
    ∃ k, ontimelaw45_PfairGroups.f k x0_f0 x0_f1 x0_f2 = some true := by
  generalize x0_f1 = c
  generalize x0_f2 = p
  have skip : ∀ k, ontimelaw45_PfairGroups.j0 (k + 1) true x0_f0 c p = some true := fun k => rfl
  by_cases h1 : p > 100
  · refine ⟨2, ?_⟩
    unfold ontimelaw45_PfairGroups.f
    rw [awake_eval 0, Option.bind_some, if_pos rfl, if_pos h1]; exact skip 1
  by_cases h2 : c < 1
  · refine ⟨2, ?_⟩
    unfold ontimelaw45_PfairGroups.f
    rw [awake_eval 0, Option.bind_some, if_pos rfl, if_neg h1, if_pos h2]; exact skip 1
  by_cases h3 : c > p
  · refine ⟨2, ?_⟩
    unfold ontimelaw45_PfairGroups.f
    rw [awake_eval 0, Option.bind_some, if_pos rfl, if_neg h1, if_neg h2, decide_eq_true h3]; exact skip 1
  have hv : pf_vld c p = true := (pf_vld_iff c p).2 ⟨by omega, by omega, by omega⟩
  obtain ⟨k, hk⟩ := groups_all x0_f0 c p hv c.toNat 1 0 (by omega) (by omega) (by omega) (fun _ => rfl) (fun hh hi => by
    obtain ⟨_, _, _, hc, hp, _⟩ := heavy_parts hh
    have := (group_spec c p 1 hh (by omega) hi).1
    have := dl_pos c p 1 hc hp (by omega)
    omega)
  refine ⟨k + 3, ?_⟩
  unfold ontimelaw45_PfairGroups.f
  rw [awake_eval (k + 1), Option.bind_some, if_pos rfl, if_neg h1, if_neg h2, decide_eq_false h3]
  simp only [ontimelaw45_PfairGroups.j0]
  rw [if_neg (by decide)]
  exact hk

end Go.Proofs.Ytbjhkcfgahbipaa.Pure
