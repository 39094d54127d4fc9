/- The example of the chapter holds; the reference's small functions, told in plain words. -/
import Derived.Test.YtbjhkcfgahbipaaPx12
import Derived.Test.YtbjhkcfgahbipaaPx13
import Derived.Test.YtbjhkcfgahbipaaPx14
import Derived.Test.YtbjhkcfgahbipaaPx15
import Derived.Test.YtbjhkcfgahbipaaPlain
import Derived.Test.YtbjhkcfgahbipaaPx11
namespace Go.Proofs.Ytbjhkcfgahbipaa.Plain
open Go.RowKit Go.Proofs.Ytbjhkcfgahbipaa.P Go.Proofs.YtbjhkcfgahbipaaW.PrintWords
set_option linter.unusedVariables false

theorem awake_eval (k : Nat) : ontimelaw45_awake.f (k + 2) = some true := by
  unfold ontimelaw45_awake.f
  rw [pf_window_eval _ 5 8 2 k (by decide) (by decide) (by decide), pf_overlaps_eval _ 5 8 4 k, pf_overlaps_eval _ 5 8 5 k, pf_heavy_eval _ 5 8 k]
  rw [show pf_rel 5 8 2 = 1 by decide, show pf_dl 5 8 2 = 4 by decide, show (pf_vld 5 8 && decide ((1 : Int) ≤ 4 ∧ (4 : Int) ≤ 5) && pf_ov 5 8 4) = true by decide, show (pf_vld 5 8 && decide ((1 : Int) ≤ 5 ∧ (5 : Int) ≤ 5) && pf_ov 5 8 5) = false by decide, show pf_heavy 5 8 = true by decide]
  unfold pfair_Group.f
  rw [show pf_group 5 8 1 = 3 by decide +kernel, show pf_group 5 8 3 = 6 by decide +kernel]
  rfl
theorem ref_valid_eval (c p : Int) : ontimeref45_Valid.f c p = some (pf_vld c p) := by
  unfold ontimeref45_Valid.f pf_vld
  by_cases h1 : c ≥ 1
  · rw [if_pos h1]
    by_cases h2 : c ≤ p
    · rw [if_pos h2]
      congr 1
      exact decide_eq_decide.2 ⟨fun h => ⟨h1, h2, h⟩, fun h => h.2.2⟩
    · rw [if_neg h2, decide_eq_false (fun h => h2 h.2.1)]
  · rw [if_neg h1, decide_eq_false (fun h => h1 h.1)]
theorem ref_heavy_eval (c p : Int) (hv : pf_vld c p = true) : ontimeref45_Heavy.f c p = some (pf_heavy c p) := by
  obtain ⟨b1, b2, b3⟩ := (pf_vld_iff c p).1 hv
  unfold ontimeref45_Heavy.f pf_heavy
  rw [pf_wrap (x := 2 * c) (by omega) (by omega), hv, Bool.true_and]
  by_cases h1 : c < p
  · rw [if_pos h1]
    congr 1
    exact decide_eq_decide.2 ⟨fun h => ⟨h1, h⟩, fun h => h.2⟩
  · rw [if_neg h1, decide_eq_false (fun h => h1 h.1)]
theorem ref_window_eval (c p i : Int) (hv : pf_vld c p = true) (h1 : 1 ≤ i) (h2 : i ≤ c) : ontimeref45_Window.f c p i = some (pf_rel c p i, pf_dl c p i) := by
  obtain ⟨b1, b2, b3⟩ := (pf_vld_iff c p).1 hv
  obtain ⟨d1, d2⟩ := pf_prod (i - 1) p (by omega) (by omega) (by omega) b3
  obtain ⟨e1, e2⟩ := pf_prod i p (by omega) (by omega) (by omega) b3
  unfold ontimeref45_Window.f pf_rel pf_dl
  rw [if_neg (by omega), pf_wrap (x := i - 1) (by omega) (by omega), pf_wrap (x := (i - 1) * p) (by omega) (by omega), pf_wrap (x := i * p) (by omega) (by omega), pf_wrap (x := i * p + c) (by omega) (by omega), pf_wrap (x := i * p + c - 1) (by omega) (by omega), Int.tdiv_eq_ediv_of_nonneg (by omega), Int.tdiv_eq_ediv_of_nonneg (by omega)]
  have : 0 ≤ (i - 1) * p / c := Int.ediv_nonneg (by omega) (by omega)
  have : (i - 1) * p / c ≤ (i - 1) * p := Int.ediv_le_self _ (by omega)
  have : 0 ≤ (i * p + c - 1) / c := Int.ediv_nonneg (by omega) (by omega)
  have : (i * p + c - 1) / c ≤ i * p + c - 1 := Int.ediv_le_self _ (by omega)
  rw [pf_wrap (x := (i - 1) * p / c) (by omega) (by omega), pf_wrap (x := (i * p + c - 1) / c) (by omega) (by omega)]
theorem ref_overlaps_eval (c p i : Int) (hv : pf_vld c p = true) (h1 : 1 ≤ i) (h2 : i ≤ c) : ontimeref45_Overlaps.f c p i = some (pf_ov c p i) := by
  obtain ⟨b1, b2, b3⟩ := (pf_vld_iff c p).1 hv
  obtain ⟨e1, e2⟩ := pf_prod i p (by omega) (by omega) (by omega) b3
  unfold ontimeref45_Overlaps.f pf_ov
  rw [if_neg (by omega), pf_wrap (x := i * p) (by omega) (by omega), Int.tmod_eq_emod_of_nonneg e1]
  congr 1
  by_cases h0 : i * p % c = 0
  · rw [h0]; rfl
  · rw [decide_eq_true h0]; exact bne_iff_ne.2 h0
theorem wf64 {a : Int} (h : (Lit.int .i64 a).wf = true) : -9223372036854775808 ≤ a ∧ a ≤ 9223372036854775807 := by
  have e1 : IntKind.i64.min = -9223372036854775808 := by decide
  have e2 : IntKind.i64.max = 9223372036854775807 := by decide
  simp [Lit.wf] at h
  omega
end Go.Proofs.Ytbjhkcfgahbipaa.Plain
