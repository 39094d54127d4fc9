/- The reference's group deadline is that of the program. -/
import Derived.Test.YtbjhkcfgahbipaaPx16
import Derived.Test.YtbjhkcfgahbipaaAwake
namespace Go.Proofs.Ytbjhkcfgahbipaa.Plain
open Go.RowKit Go.Proofs.Ytbjhkcfgahbipaa.P Go.Proofs.YtbjhkcfgahbipaaW.PrintWords
set_option linter.unusedVariables false

theorem l1_step (c p t x : Int) (k : Nat) (hh : pf_heavy c p = true) (h1 : 1 ≤ x) (h2 : x ≤ c) (ht0 : 0 ≤ t) (ht : t ≤ p) :
    ontimeref45_Group.l1 (k + 1) c p t x = if pf_end c p x = t then some t else ontimeref45_Group.l1 k c p t (x + 1) := by
  obtain ⟨hv, g1, g2, hc, hp, hp2⟩ := heavy_parts hh
  have d := dl_bounds c p x hc hp h1 h2
  have r := rel_bounds c p x hc hp h1 h2
  obtain ⟨_, l2⟩ := len_heavy c p x hc g1 g2
  simp only [ontimeref45_Group.l1]
  rw [if_pos h2, ref_window_eval c p x hv h1 h2, ref_overlaps_eval c p x hv h1 h2, pf_wrap (x := t + 1) (by omega) (by omega), pf_wrap (x := x + 1) (by omega) (by omega)]
  simp only [Option.bind_some]
  rw [pf_wrap (x := pf_dl c p x - pf_rel c p x) (by omega) (by omega)]
  unfold pf_end
  cases ho : pf_ov c p x
  · have := l2 ho
    simp only [Bool.false_eq_true, if_false]
    by_cases e : t = pf_dl c p x
    · rw [if_pos e, if_pos e.symm]
    · rw [if_neg e, if_neg (show ¬ pf_dl c p x = t from fun h => e h.symm)]
      by_cases e2 : t + 1 = pf_dl c p x
      · rw [if_pos e2, if_neg (by omega)]
      · rw [if_neg e2]
  · simp only [if_true]
    by_cases e3 : pf_dl c p x - pf_rel c p x = 3
    · rw [if_pos e3, if_pos e3]
      by_cases e : t = pf_dl c p x
      · rw [if_pos e, if_neg (by omega), if_neg (by omega)]
      · rw [if_neg e]
        by_cases e2 : t + 1 = pf_dl c p x
        · rw [if_pos e2, if_pos (by omega)]
        · rw [if_neg e2, if_neg (by omega)]
    · rw [if_neg e3, if_neg e3, if_neg (show ¬ (-1 = t) by omega)]
      simp only [ite_self]
theorem l1_hit (c p t : Int) (hh : pf_heavy c p = true) (ht0 : 0 ≤ t) (ht : t ≤ p) (m : Int) (hm : m ≤ c) (he : pf_end c p m = t) (d : Nat) :
    ∀ x : Int, 1 ≤ x → x ≤ m → m - x = d → Ev (fun k => ontimeref45_Group.l1 k c p t x) t := by
  induction d with
  | zero =>
    intro x h1 h2 hd
    obtain rfl : x = m := by omega
    exact Ev.step (fun k => (l1_step c p t x k hh h1 hm ht0 ht).trans (if_pos he)) (Ev.now t)
  | succ d ih =>
    intro x h1 h2 hd
    by_cases e : pf_end c p x = t
    · exact Ev.step (fun k => (l1_step c p t x k hh h1 (by omega) ht0 ht).trans (if_pos e)) (Ev.now t)
    · exact Ev.step (fun k => (l1_step c p t x k hh h1 (by omega) ht0 ht).trans (if_neg e)) (ih (x + 1) (by omega) (by omega) (by omega))
theorem l1_no (c p t r : Int) (hh : pf_heavy c p = true) (ht0 : 0 ≤ t) (ht : t ≤ p) (hn : ∀ m, 1 ≤ m → m ≤ c → pf_end c p m ≠ t) (hr : Ev (fun k => ontimeref45_Group.l0 k c p (t + 1)) r) (d : Nat) :
    ∀ x : Int, 1 ≤ x → x ≤ c + 1 → c + 1 - x = d → Ev (fun k => ontimeref45_Group.l1 k c p t x) r := by
  obtain ⟨hv, g1, g2, hc, hp, hp2⟩ := heavy_parts hh
  induction d with
  | zero =>
    intro x h1 h2 hd
    refine Ev.step (f := fun k => ontimeref45_Group.l0 k c p (t + 1)) (fun k => ?_) hr
    simp only [ontimeref45_Group.l1]
    rw [if_neg (by omega), pf_wrap (x := t + 1) (by omega) (by omega)]
  | succ d ih =>
    intro x h1 h2 hd
    exact Ev.step (fun k => (l1_step c p t x k hh h1 (by omega) ht0 ht).trans (if_neg (hn x h1 (by omega)))) (ih (x + 1) (by omega) (by omega) (by omega))
theorem l0_ev (c p i : Int) (hh : pf_heavy c p = true) (h1 : 1 ≤ i) (h2 : i ≤ c) (d : Nat) :
    ∀ t : Int, pf_dl c p i ≤ t → pf_group c p i - t = d → Ev (fun k => ontimeref45_Group.l0 k c p t) (pf_group c p i) := by
  obtain ⟨hv, g1, g2, hc, hp, hp2⟩ := heavy_parts hh
  have hd := dl_bounds c p i hc hp h1 h2
  have hg := group_le c p i hh h1 h2
  obtain ⟨s1, ⟨m, m1, m2, m3⟩, s3⟩ := group_spec c p i hh h1 h2
  have head : ∀ t : Int, t ≤ p → ∀ k, ontimeref45_Group.l0 (k + 1) c p t = ontimeref45_Group.l1 k c p t 1 := by
    intro t ht k
    simp only [ontimeref45_Group.l0]
    rw [if_pos ht]
  induction d with
  | zero =>
    intro t ht hd2
    obtain rfl : t = pf_group c p i := by omega
    exact Ev.step (head _ hg) (l1_hit c p _ hh (by omega) hg m m2 m3 (m - 1).toNat 1 (by omega) (by omega) (by omega))
  | succ d ih =>
    intro t ht hd2
    refine Ev.step (head _ (by omega)) (l1_no c p t _ hh (by omega) (by omega) (fun j j1 j2 e => ?_) (ih (t + 1) (by omega) (by omega)) c.toNat 1 (by omega) (by omega) (by omega))
    have := s3 j j1 j2 (by omega)
    omega
theorem ref_group_ev (c p i : Int) (hh : pf_heavy c p = true) (h1 : 1 ≤ i) (h2 : i ≤ c) : Ev (fun k => ontimeref45_Group.f k c p i) (pf_group c p i) := by
  obtain ⟨hv, g1, g2, hc, hp, hp2⟩ := heavy_parts hh
  refine Ev.congr (fun k => ?_) (l0_ev c p i hh h1 h2 (pf_group c p i - pf_dl c p i).toNat _ (Int.le_refl _) (by have := (group_spec c p i hh h1 h2).1; omega))
  unfold ontimeref45_Group.f
  rw [ref_heavy_eval c p hv, Option.bind_some, if_pos hh, ref_window_eval c p i hv h1 h2, Option.bind_some]
theorem ref_group_light (c p i : Int) (k : Nat) (hv : pf_vld c p = true) (hh : pf_heavy c p = false) : ontimeref45_Group.f k c p i = some 0 := by
  unfold ontimeref45_Group.f
  rw [ref_heavy_eval c p hv, Option.bind_some, hh]
  rfl
theorem ref_group_any (c p i : Int) (hv : pf_vld c p = true) (h1 : 1 ≤ i) (h2 : i ≤ c) : Ev (fun k => ontimeref45_Group.f k c p i) (pf_group c p i) := by
  cases hh : pf_heavy c p
  · rw [group_zero c p i hh]
    exact Ev.congr (fun k => ref_group_light c p i k hv hh) (Ev.now 0)
  · exact ref_group_ev c p i hh h1 h2
end Go.Proofs.Ytbjhkcfgahbipaa.Plain
