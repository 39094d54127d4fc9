/- The windows, b bits and group deadlines of PD2, over whole numbers: no program in sight but the functions' names. -/
import Derived.Test.YtbjhkcfgahbipaaPx10
namespace Go.Proofs.Ytbjhkcfgahbipaa.Plain
open Go.RowKit Go.Proofs.Ytbjhkcfgahbipaa.P Go.Proofs.YtbjhkcfgahbipaaW.PrintWords
set_option linter.unusedVariables false

theorem succ_mul' (i p : Int) : (i + 1) * p = i * p + p := by rw [Int.add_mul, Int.one_mul]
theorem pred_mul' (i p : Int) : (i - 1) * p = i * p - p := by rw [Int.sub_mul, Int.one_mul]
theorem lt_of_mul {a b c : Int} (hc : 0 < c) (h : a * c < b * c) : a < b := Int.lt_of_mul_lt_mul_right h (by omega)
theorem mul_le {a b c : Int} (hc : 0 ≤ c) (h : a ≤ b) : a * c ≤ b * c := Int.mul_le_mul_of_nonneg_right h hc
theorem div_spec (x c : Int) (hc : 0 < c) : x / c * c ≤ x ∧ x < x / c * c + c := by
  constructor
  · exact Int.ediv_mul_le x (by omega)
  · have := Int.lt_ediv_add_one_mul_self x hc
    rw [Int.add_mul, Int.one_mul] at this
    exact this
theorem dl_spec (c p i : Int) (hc : 0 < c) : i * p ≤ pf_dl c p i * c ∧ pf_dl c p i * c < i * p + c := by
  unfold pf_dl
  have := div_spec (i * p + c - 1) c hc
  omega
theorem rel_spec (c p i : Int) (hc : 0 < c) : pf_rel c p i * c ≤ i * p - p ∧ i * p - p < pf_rel c p i * c + c := by
  unfold pf_rel
  have := div_spec ((i - 1) * p) c hc
  rw [pred_mul'] at this ⊢
  omega
theorem ov_false (c p i : Int) (hc : 0 < c) : pf_ov c p i = false ↔ pf_dl c p i * c = i * p := by
  obtain ⟨h1, h2⟩ := dl_spec c p i hc
  unfold pf_ov
  rw [decide_eq_false_iff_not]
  constructor
  · intro h
    have h0 : i * p % c = 0 := by omega
    have := Int.emod_add_mul_ediv (i * p) c
    have e : c * (i * p / c) = i * p / c * c := Int.mul_comm _ _
    have h3 : i * p / c * c = i * p := by omega
    have h4 : i * p / c ≤ pf_dl c p i := by
      have : i * p / c * c < (pf_dl c p i + 1) * c := by rw [succ_mul']; omega
      have := lt_of_mul hc this
      omega
    have h5 : pf_dl c p i ≤ i * p / c := by
      have : pf_dl c p i * c < (i * p / c + 1) * c := by rw [succ_mul']; omega
      have := lt_of_mul hc this
      omega
    have : pf_dl c p i = i * p / c := by omega
    rw [this]
    exact h3
  · intro h
    have : i * p % c = 0 := by rw [← h]; exact Int.mul_emod_left _ _
    omega
theorem ov_true (c p i : Int) (hc : 0 < c) : pf_ov c p i = true ↔ i * p < pf_dl c p i * c := by
  obtain ⟨h1, _⟩ := dl_spec c p i hc
  have := ov_false c p i hc
  cases h : pf_ov c p i
  · rw [h] at this
    have := this.1 rfl
    constructor
    · intro h; cases h
    · intro h; omega
  · rw [h] at this
    constructor
    · intro _
      by_cases e : pf_dl c p i * c = i * p
      · have := this.2 e; cases this
      · omega
    · intro _; rfl
theorem rel_lt_dl (c p i : Int) (hc : 0 < c) (hp : 0 < p) : pf_rel c p i < pf_dl c p i := by
  have h1 := dl_spec c p i hc
  have h2 := rel_spec c p i hc
  exact lt_of_mul hc (by omega)
theorem rel_next (c p i : Int) (hc : 0 < c) : pf_rel c p (i + 1) = if pf_ov c p i then pf_dl c p i - 1 else pf_dl c p i := by
  have h1 := dl_spec c p i hc
  have h2 := rel_spec c p (i + 1) hc
  rw [succ_mul'] at h2
  cases h : pf_ov c p i
  · have h3 := (ov_false c p i hc).1 h
    have a1 : pf_rel c p (i + 1) < pf_dl c p i + 1 := lt_of_mul hc (by rw [succ_mul']; omega)
    have a2 : pf_dl c p i < pf_rel c p (i + 1) + 1 := lt_of_mul hc (by rw [succ_mul']; omega)
    simp only [Bool.false_eq_true, if_false]
    omega
  · have h3 := (ov_true c p i hc).1 h
    have a1 : pf_rel c p (i + 1) < pf_dl c p i := lt_of_mul hc (by omega)
    have a2 : pf_dl c p i - 1 < pf_rel c p (i + 1) + 1 := lt_of_mul hc (by rw [succ_mul', pred_mul']; omega)
    simp only [if_true]
    omega
theorem rel_first (c p : Int) : pf_rel c p 1 = 0 := by unfold pf_rel; simp
theorem dl_last (c p : Int) (hc : 0 < c) : pf_dl c p c = p ∧ pf_ov c p c = false := by
  have h1 := dl_spec c p c hc
  have e : c * p = p * c := Int.mul_comm _ _
  have a1 : pf_dl c p c < p + 1 := lt_of_mul hc (by rw [succ_mul']; omega)
  have a2 : p < pf_dl c p c + 1 := lt_of_mul hc (by rw [succ_mul']; omega)
  have e2 : pf_dl c p c = p := by omega
  exact ⟨e2, (ov_false c p c hc).2 (by rw [e2, e])⟩
theorem dl_gt (c p i s : Int) (hc : 0 < c) : s < pf_dl c p i ↔ s * c < i * p := by
  have h1 := dl_spec c p i hc
  constructor
  · intro h
    have := mul_le (c := c) (by omega) (show s + 1 ≤ pf_dl c p i by omega)
    rw [succ_mul'] at this
    omega
  · intro h
    exact lt_of_mul hc (by omega)
theorem rel_lt (c p i s : Int) (hc : 0 < c) : pf_rel c p i < s ↔ i * p - p < s * c := by
  have h1 := rel_spec c p i hc
  constructor
  · intro h
    have := mul_le (c := c) (by omega) (show pf_rel c p i + 1 ≤ s by omega)
    rw [succ_mul'] at this
    omega
  · intro h
    exact lt_of_mul hc (by omega)
theorem len_heavy (c p i : Int) (hc : 0 < c) (h1 : c < p) (h2 : p ≤ 2 * c) : (pf_dl c p i - pf_rel c p i = 2 ∨ pf_dl c p i - pf_rel c p i = 3) ∧ (pf_ov c p i = false → pf_dl c p i - pf_rel c p i = 2) := by
  have d := dl_spec c p i hc
  have r := rel_spec c p i hc
  have a1 : pf_rel c p i + 1 < pf_dl c p i := lt_of_mul hc (by rw [succ_mul']; omega)
  have a2 : pf_dl c p i < pf_rel c p i + 4 := lt_of_mul hc (by rw [Int.add_mul]; omega)
  refine ⟨by omega, fun h => ?_⟩
  have e := (ov_false c p i hc).1 h
  have a3 : pf_dl c p i < pf_rel c p i + 3 := lt_of_mul hc (by rw [Int.add_mul]; omega)
  omega
theorem dl_mono (c p i j : Int) (hc : 0 < c) (h1 : c < p) (hij : i < j) : pf_dl c p i < pf_dl c p j := by
  have d := dl_spec c p i hc
  have e := dl_spec c p j hc
  have := mul_le (c := p) (by omega) (show i + 1 ≤ j by omega)
  rw [succ_mul'] at this
  exact lt_of_mul hc (by omega)
theorem dl_le (c p i j : Int) (hc : 0 < c) (h1 : 0 < p) (hij : i ≤ j) : pf_dl c p i ≤ pf_dl c p j := by
  have d := dl_spec c p i hc
  have e := dl_spec c p j hc
  have := mul_le (c := p) (by omega) hij
  have : pf_dl c p i < pf_dl c p j + 1 := lt_of_mul hc (by rw [succ_mul']; omega)
  omega
theorem dl_pos (c p i : Int) (hc : 0 < c) (hp : 0 < p) (hi : 1 ≤ i) : 1 ≤ pf_dl c p i := by
  have := (dl_gt c p i 0 hc).2 (by rw [Int.zero_mul]; exact Int.mul_pos (by omega) hp)
  omega
theorem dl_bounds (c p i : Int) (hc : 0 < c) (hp : 0 < p) (h1 : 1 ≤ i) (h2 : i ≤ c) : 1 ≤ pf_dl c p i ∧ pf_dl c p i ≤ p := by
  refine ⟨dl_pos c p i hc hp h1, ?_⟩
  have := dl_le c p i c hc hp h2
  rw [(dl_last c p hc).1] at this
  exact this
theorem rel_bounds (c p i : Int) (hc : 0 < c) (hp : 0 < p) (h1 : 1 ≤ i) (h2 : i ≤ c) : 0 ≤ pf_rel c p i ∧ pf_rel c p i ≤ p := by
  constructor
  · unfold pf_rel
    exact Int.ediv_nonneg (Int.mul_nonneg (by omega) (by omega)) (by omega)
  · have := rel_lt_dl c p i hc hp
    have := dl_bounds c p i hc hp h1 h2
    omega
theorem end_last (c p : Int) (hc : 0 < c) : pf_end c p c = p := by
  unfold pf_end
  rw [(dl_last c p hc).2, (dl_last c p hc).1]
  rfl
theorem end_le (c p i : Int) (hc : 0 < c) (hp : 0 < p) (hi : 1 ≤ i) : pf_end c p i ≤ pf_dl c p i := by
  have := dl_pos c p i hc hp hi
  unfold pf_end
  split
  · split <;> omega
  · omega
theorem end_ge (c p i : Int) (h : pf_end c p i ≠ -1) : pf_dl c p i - 1 ≤ pf_end c p i := by
  unfold pf_end at h ⊢
  split
  · split
    · omega
    · rename_i h1 h2
      rw [if_pos h1, if_neg h2] at h
      exact absurd rfl h
  · omega
theorem least_of (q : Nat → Bool) : ∀ n : Nat, q n = true → ∃ r : Nat, q r = true ∧ (∀ t, t < r → q t = false) ∧ r ≤ n := by
  intro n
  induction n using Nat.strongRecOn with
  | _ n ih =>
    intro h
    by_cases e : ∃ t, t < n ∧ q t = true
    · obtain ⟨t, ht, hq⟩ := e
      obtain ⟨r, h1, h2, h3⟩ := ih t ht hq
      exact ⟨r, h1, h2, by omega⟩
    · refine ⟨n, h, fun t ht => ?_, Nat.le_refl _⟩
      cases hq : q t
      · rfl
      · exact absurd ⟨t, ht, hq⟩ e
/-- What the group deadline is: the least end of a group that is not before the deadline. -/
theorem group_spec (c p i : Int) (hh : pf_heavy c p = true) (h1 : 1 ≤ i) (h2 : i ≤ c) :
    pf_dl c p i ≤ pf_group c p i ∧ (∃ m, i ≤ m ∧ m ≤ c ∧ pf_end c p m = pf_group c p i) ∧ ∀ j, 1 ≤ j → j ≤ c → pf_dl c p i ≤ pf_end c p j → pf_group c p i ≤ pf_end c p j := by
  have hh' := hh
  unfold pf_heavy at hh'
  rw [Bool.and_eq_true, decide_eq_true_eq] at hh'
  obtain ⟨hv, g1, g2⟩ := hh'
  obtain ⟨a1, a2, a3⟩ := (pf_vld_iff c p).1 hv
  have hc : 0 < c := by omega
  have hp : 0 < p := by omega
  obtain ⟨n, hn⟩ : ∃ n : Nat, c - i = n := ⟨(c - i).toNat, by omega⟩
  have hit : pf_hit c p i n = true := pf_hit_true c p i n n (Nat.le_refl _) (by
    rw [show i + (n : Int) = c by omega, end_last c p hc]
    exact (dl_bounds c p i hc hp h1 h2).2)
  obtain ⟨r, hr, hlt, hle⟩ : ∃ r : Nat, pf_hit c p i r = true ∧ (∀ t, t < r → pf_hit c p i t = false) ∧ r ≤ n := by
    exact least_of _ n hit
  have hl : pf_least (pf_hit c p i) n 0 = r := pf_least_eq _ r n 0 (Nat.zero_le _) (by omega) (fun t _ ht => hlt t ht) (fun _ => hr)
  have hg : pf_group c p i = pf_end c p (i + (r : Int)) := by
    unfold pf_group
    rw [hh, decide_eq_true (show 1 ≤ i ∧ i ≤ c from ⟨h1, h2⟩), show (c - i).toNat = n by omega, hl]
    rfl
  have hno : ∀ t : Nat, t < r → pf_end c p (i + (t : Int)) < pf_dl c p i := by
    intro t ht
    have := hlt t ht
    by_cases e : pf_dl c p i ≤ pf_end c p (i + (t : Int))
    · rw [pf_hit_true c p i t t (Nat.le_refl _) e] at this; cases this
    · omega
  have hge : pf_dl c p i ≤ pf_end c p (i + (r : Int)) := by
    by_cases e : pf_dl c p i ≤ pf_end c p (i + (r : Int))
    · exact e
    · have := pf_hit_false c p i r (fun m hm => by
        by_cases em : m = r
        · rw [em]; omega
        · exact hno m (by omega))
      rw [this] at hr; cases hr
  refine ⟨by rw [hg]; exact hge, ⟨i + (r : Int), by omega, by omega, hg.symm⟩, fun j j1 j2 hj => ?_⟩
  rw [hg]
  have hj0 : pf_end c p j ≠ -1 := by have := dl_pos c p i hc hp h1; omega
  by_cases e1 : j < i
  · have := dl_mono c p j i hc g1 e1
    have := end_le c p j hc hp j1
    omega
  by_cases e2 : j < i + (r : Int)
  · have := hno (j - i).toNat (by omega)
    rw [show i + ((j - i).toNat : Int) = j by omega] at this
    omega
  by_cases e3 : j = i + (r : Int)
  · rw [e3]; exact Int.le_refl _
  · have := dl_mono c p (i + (r : Int)) j hc g1 (by omega)
    have := end_ge c p j hj0
    have := end_le c p (i + (r : Int)) hc hp (by omega)
    omega
theorem group_zero (c p i : Int) (h : pf_heavy c p = false) : pf_group c p i = 0 := by
  unfold pf_group
  rw [h]
  rfl
theorem group_out (c p i : Int) (h : ¬ (1 ≤ i ∧ i ≤ c)) : pf_group c p i = 0 := by
  unfold pf_group
  rw [decide_eq_false h, Bool.and_false]
  rfl
theorem heavy_parts {c p : Int} (hh : pf_heavy c p = true) : pf_vld c p = true ∧ c < p ∧ p ≤ 2 * c ∧ 0 < c ∧ 0 < p ∧ p ≤ 1000 := by
  unfold pf_heavy at hh
  rw [Bool.and_eq_true, decide_eq_true_eq] at hh
  obtain ⟨hv, g1, g2⟩ := hh
  obtain ⟨a1, a2, a3⟩ := (pf_vld_iff c p).1 hv
  exact ⟨hv, g1, g2, by omega, by omega, a3⟩
theorem group_le (c p i : Int) (hh : pf_heavy c p = true) (h1 : 1 ≤ i) (h2 : i ≤ c) : pf_group c p i ≤ p := by
  obtain ⟨hv, g1, g2, hc, hp, _⟩ := heavy_parts hh
  have := (group_spec c p i hh h1 h2).2.2 c (by omega) (Int.le_refl _) (by rw [end_last c p hc]; exact (dl_bounds c p i hc hp h1 h2).2)
  rw [end_last c p hc] at this
  exact this
end Go.Proofs.Ytbjhkcfgahbipaa.Plain
