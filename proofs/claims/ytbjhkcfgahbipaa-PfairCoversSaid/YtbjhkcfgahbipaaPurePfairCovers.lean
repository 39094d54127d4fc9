/- PfairCovers, over numbers alone: the windows of a job begin at 0, end at the period, and overlap in one slot or are adjacent. -/
import Derived.Test.YtbjhkcfgahbipaaPx18
import Derived.Test.YtbjhkcfgahbipaaAwake
namespace Go.Proofs.Ytbjhkcfgahbipaa.Pure
open Go.RowKit Go.Proofs.Ytbjhkcfgahbipaa.P Go.Proofs.Ytbjhkcfgahbipaa.Plain Go.Proofs.YtbjhkcfgahbipaaW.PrintWords
set_option linter.unusedVariables false

theorem covers_round (nm : ByteArray) (c p i last : Int) (k : Nat) (hv : pf_vld c p = true) (h1 : 1 ≤ i) (h2 : i ≤ c) (hl : last = pf_rel c p i) :
    ontimelaw45_PfairCovers.l0 (k + 5) last i nm c p = ontimelaw45_PfairCovers.l0 (k + 2) (pf_rel c p (i + 1)) (i + 1) nm c p := by
  obtain ⟨b1, b2, b3⟩ := (pf_vld_iff c p).1 hv
  have hc : 0 < c := by omega
  have hp : 0 < p := by omega
  obtain ⟨d1, d2⟩ := dl_bounds c p i hc hp h1 h2
  obtain ⟨e1, e2⟩ := rel_bounds c p i hc hp h1 h2
  have hlt := rel_lt_dl c p i hc hp
  have j3 : ontimelaw45_PfairCovers.j3 (k + 3) i false nm c p i (pf_rel c p i) (pf_dl c p i) = ontimelaw45_PfairCovers.l0 (k + 2) (pf_rel c p (i + 1)) (i + 1) nm c p := by
    simp only [ontimelaw45_PfairCovers.j3]
    rw [if_neg (by decide), pf_overlaps_eval nm c p i k, hv, decide_eq_true (show 1 ≤ i ∧ i ≤ c from ⟨h1, h2⟩), pf_wrap (x := i + 1) (by omega) (by omega), pf_wrap (x := pf_dl c p i - 1) (by omega) (by omega), rel_next c p i hc]
    simp only [Bool.true_and, Option.bind_some]
    cases pf_ov c p i <;> rfl
  have j2 : ontimelaw45_PfairCovers.j2 (k + 4) i false nm c p i (pf_rel c p i) (pf_dl c p i) = ontimelaw45_PfairCovers.l0 (k + 2) (pf_rel c p (i + 1)) (i + 1) nm c p := by
    simp only [ontimelaw45_PfairCovers.j2]
    rw [if_neg (by decide), pf_heavy_eval nm c p (k + 1), pf_wrap (x := pf_dl c p i - pf_rel c p i) (by omega) (by omega)]
    simp only [Option.bind_some]
    cases hh : pf_heavy c p
    · exact j3
    · obtain ⟨_, g1, g2, _⟩ := heavy_parts hh
      rw [if_pos rfl]
      rcases (len_heavy c p i hc g1 g2).1 with e | e
      · rw [if_pos e]; exact j3
      · rw [if_neg (by omega), e]; exact j3
  simp only [ontimelaw45_PfairCovers.l0]
  rw [if_pos h2, pf_window_eval nm c p i (k + 2) hv h1 h2]
  simp only [Option.bind_some, if_true]
  rw [if_neg (by omega)]
  by_cases hi : i = 1
  · subst hi
    rw [if_pos rfl, rel_first, if_pos rfl, if_neg (by decide)]
    rw [rel_first] at j2
    exact j2
  · rw [if_neg hi, if_pos (by omega), hl, bne_self_eq_false]
    exact j2

theorem covers_all (nm : ByteArray) (c p : Int) (hv : pf_vld c p = true) (d : Nat) : ∀ i : Int, 1 ≤ i → i ≤ c + 1 → c + 1 - i = d → ∃ k, ontimelaw45_PfairCovers.l0 (k + 2) (pf_rel c p i) i nm c p = some true := by
  obtain ⟨b1, b2, b3⟩ := (pf_vld_iff c p).1 hv
  have hc : 0 < c := by omega
  induction d with
  | zero =>
    intro i h1 h2 hd
    obtain rfl : i = c + 1 := by omega
    refine ⟨0, ?_⟩
    simp only [ontimelaw45_PfairCovers.l0]
    rw [if_neg (by omega), rel_next c p c hc, (dl_last c p hc).2, (dl_last c p hc).1]
    simp
  | succ d ih =>
    intro i h1 h2 hd
    obtain ⟨k, hk⟩ := ih (i + 1) (by omega) (by omega) (by omega)
    exact ⟨k + 3, (covers_round nm c p i _ k hv h1 (by omega) rfl).trans hk⟩

theorem PfairCovers (x0_f0 : ByteArray) (x0_f1 : Int) (x0_f2 : Int) (hg0 : (x0_f0.size ≤ maxLen ∧ (Lit.int .i64 x0_f1).wf = true ∧ (Lit.int .i64 x0_f2).wf = true)) :
    ∃ k, ontimelaw45_PfairCovers.f k x0_f0 x0_f1 x0_f2 = some true := by
  generalize x0_f1 = c
  generalize x0_f2 = p
  have skip : ∀ k, ontimelaw45_PfairCovers.j0 (k + 1) true x0_f0 c p = some true := fun k => rfl
  by_cases h1 : p > 200
  · refine ⟨2, ?_⟩
    unfold ontimelaw45_PfairCovers.f
    rw [awake_eval 0, Option.bind_some, if_pos rfl, if_pos h1]; exact skip 1
  by_cases h2 : c < 1
  · refine ⟨2, ?_⟩
    unfold ontimelaw45_PfairCovers.f
    rw [awake_eval 0, Option.bind_some, if_pos rfl, if_neg h1, if_pos h2]; exact skip 1
  by_cases h3 : c > p
  · refine ⟨2, ?_⟩
    unfold ontimelaw45_PfairCovers.f
    rw [awake_eval 0, Option.bind_some, if_pos rfl, if_neg h1, if_neg h2, decide_eq_true h3]; exact skip 1
  have hv : pf_vld c p = true := (pf_vld_iff c p).2 ⟨by omega, by omega, by omega⟩
  obtain ⟨k, hk⟩ := covers_all x0_f0 c p hv c.toNat 1 (by omega) (by omega) (by omega)
  refine ⟨k + 3, ?_⟩
  unfold ontimelaw45_PfairCovers.f
  rw [awake_eval (k + 1), Option.bind_some, if_pos rfl, if_neg h1, if_neg h2, decide_eq_false h3]
  simp only [ontimelaw45_PfairCovers.j0]
  rw [if_neg (by decide)]
  rw [rel_first] at hk
  exact hk

end Go.Proofs.Ytbjhkcfgahbipaa.Pure
