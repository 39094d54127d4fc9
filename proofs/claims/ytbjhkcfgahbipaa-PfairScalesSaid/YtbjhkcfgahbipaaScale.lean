/- Multiplying cost and period by one number turns no window, b bit or group deadline. -/
import Derived.Test.YtbjhkcfgahbipaaPlain
namespace Go.Proofs.Ytbjhkcfgahbipaa.Plain
open Go.RowKit Go.Proofs.Ytbjhkcfgahbipaa.P Go.Proofs.YtbjhkcfgahbipaaW.PrintWords
set_option linter.unusedVariables false

theorem swap_mul (k p i : Int) : i * (k * p) = k * (i * p) := by rw [← Int.mul_assoc, Int.mul_comm i k, Int.mul_assoc]
section
variable (k c p i : Int) (hk : 0 < k) (hc : 0 < c)
include hk hc
theorem scale_dl : pf_dl (k * c) (k * p) i = pf_dl c p i := by
  have hkc : 0 < k * c := Int.mul_pos hk hc
  have a := dl_spec (k * c) (k * p) i hkc
  have b := dl_spec c p i hc
  rw [swap_mul k p i] at a
  have e1 : pf_dl (k * c) (k * p) i * (k * c) = k * (pf_dl (k * c) (k * p) i * c) := by rw [← Int.mul_assoc, Int.mul_comm _ k, Int.mul_assoc]
  rw [e1] at a
  have a1 : i * p ≤ pf_dl (k * c) (k * p) i * c := Int.le_of_mul_le_mul_left a.1 hk
  have a2 : pf_dl (k * c) (k * p) i * c < i * p + c := Int.lt_of_mul_lt_mul_left (by rw [Int.mul_add]; exact a.2) (by omega)
  have b1 : pf_dl (k * c) (k * p) i < pf_dl c p i + 1 := lt_of_mul hc (by rw [succ_mul']; omega)
  have b2 : pf_dl c p i < pf_dl (k * c) (k * p) i + 1 := lt_of_mul hc (by rw [succ_mul']; omega)
  omega
omit hc in
theorem scale_rel : pf_rel (k * c) (k * p) i = pf_rel c p i := by
  unfold pf_rel
  rw [swap_mul k p (i - 1), Int.mul_ediv_mul_of_pos _ _ hk]
theorem scale_ov : pf_ov (k * c) (k * p) i = pf_ov c p i := by
  have hkc : 0 < k * c := Int.mul_pos hk hc
  have a := ov_false (k * c) (k * p) i hkc
  have b := ov_false c p i hc
  rw [scale_dl k c p i hk hc, swap_mul k p i] at a
  have e1 : pf_dl c p i * (k * c) = k * (pf_dl c p i * c) := by rw [← Int.mul_assoc, Int.mul_comm _ k, Int.mul_assoc]
  rw [e1] at a
  have e2 : (k * (pf_dl c p i * c) = k * (i * p)) ↔ pf_dl c p i * c = i * p := ⟨fun h => Int.eq_of_mul_eq_mul_left (by omega) h, fun h => by rw [h]⟩
  rw [e2, ← b] at a
  cases h1 : pf_ov (k * c) (k * p) i <;> cases h2 : pf_ov c p i <;> rw [h1, h2] at a <;> simp at a ⊢
theorem scale_end : pf_end (k * c) (k * p) i = pf_end c p i := by
  unfold pf_end
  rw [scale_dl k c p i hk hc, scale_rel k c p i hk, scale_ov k c p i hk hc]
omit hc in
theorem scale_heavy (h1 : pf_vld c p = true) (h2 : pf_vld (k * c) (k * p) = true) : pf_heavy (k * c) (k * p) = pf_heavy c p := by
  unfold pf_heavy
  rw [h1, h2]
  congr 1
  have e : 2 * (k * c) = k * (2 * c) := by rw [← Int.mul_assoc, Int.mul_comm 2 k, Int.mul_assoc]
  rw [e]
  exact decide_eq_decide.2 ⟨fun h => ⟨Int.lt_of_mul_lt_mul_left h.1 (by omega), Int.le_of_mul_le_mul_left h.2 hk⟩, fun h => ⟨Int.mul_lt_mul_of_pos_left h.1 hk, Int.mul_le_mul_of_nonneg_left h.2 (by omega)⟩⟩
theorem scale_group (h1 : pf_vld c p = true) (h2 : pf_vld (k * c) (k * p) = true) (i1 : 1 ≤ i) (i2 : i ≤ c) : pf_group (k * c) (k * p) i = pf_group c p i := by
  have hkc : c ≤ k * c := by
    have := Int.mul_le_mul_of_nonneg_right (show 1 ≤ k by omega) (show 0 ≤ c by omega)
    rw [Int.one_mul] at this
    exact this
  cases hh : pf_heavy c p
  · rw [group_zero c p i hh, group_zero (k * c) (k * p) i (by rw [scale_heavy k c p hk h1 h2]; exact hh)]
  · have hh' : pf_heavy (k * c) (k * p) = true := by rw [scale_heavy k c p hk h1 h2]; exact hh
    obtain ⟨_, g1, g2, _, hp, _⟩ := heavy_parts hh
    obtain ⟨s1, ⟨m, m1, m2, m3⟩, s3⟩ := group_spec c p i hh i1 i2
    obtain ⟨t1, ⟨n, n1, n2, n3⟩, t3⟩ := group_spec (k * c) (k * p) i hh' i1 (by omega)
    have a := t3 m (by omega) (by omega) (by rw [scale_end k c p m hk hc, scale_dl k c p i hk hc, m3]; exact s1)
    rw [scale_end k c p m hk hc, m3] at a
    rw [scale_dl k c p i hk hc] at t1
    rw [scale_end k c p n hk hc] at n3
    by_cases e : n ≤ c
    · have b := s3 n (by omega) e (by omega)
      omega
    · have d := dl_pos c p i hc hp i1
      have b := end_ge c p n (by omega)
      have b2 := dl_mono c p c n hc g1 (by omega)
      have b3 := group_le c p i hh i1 i2
      rw [(dl_last c p hc).1] at b2
      omega
end
end Go.Proofs.Ytbjhkcfgahbipaa.Plain
