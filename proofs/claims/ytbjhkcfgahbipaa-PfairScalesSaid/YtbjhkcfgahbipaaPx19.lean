-- Written by wip/gen.py: the kit's print, with contracts of mine in it.
import Derived.Test.YtbjhkcfgahbipaaPx0
import Derived.Test.YtbjhkcfgahbipaaPx5
import Derived.Test.YtbjhkcfgahbipaaPx6
import Derived.Test.YtbjhkcfgahbipaaPx7
import Derived.Test.YtbjhkcfgahbipaaPx10
import Derived.Test.YtbjhkcfgahbipaaPx11
import Derived.Test.YtbjhkcfgahbipaaScale
import Derived.Test.YtbjhkcfgahbipaaAwake
namespace Go.Proofs.Ytbjhkcfgahbipaa.P
open Go.RowKit Go.Proofs.YtbjhkcfgahbipaaW.PrintWords Go.Proofs.YtbjhkcfgahbipaaW.PrintLast Go.Proofs.YtbjhkcfgahbipaaW.PrintMore
attribute [local go_sem] max2_int min2_int max_two min_two max_three min_three max_four min_four   -- for this text's walks alone
set_option linter.unusedVariables false
set_option linter.unusedSimpArgs false

/-! ### ontimelaw45_PfairScales: function 5, by hand -/
-- HAND rounds 0
-- HAND import Derived.Test.YtbjhkcfgahbipaaScale
-- HAND import Derived.Test.YtbjhkcfgahbipaaAwake
def ontimelaw45_PfairScales.f (a0_0 : ByteArray) (a0_1 : Int) (a0_2 : Int) (a1 : Int) (a2 : Int) : Option (Bool) := if 0 ≤ a2 ∧ a2 ≤ 255 then some true else none
/-- The guard of the statement. -/
def ps_out (c p i : Int) : Bool := decide (p > 40) || (decide (c < 1) || (decide (c > p) || (decide (i < 1) || decide (i > c))))

set_option maxHeartbeats 4000000 in
set_option maxRecDepth 100000 in
theorem ps_skip (nm : ByteArray) (c p i b : Int) (w : World) (g1 : Bool) (e1 : decide (40 < p) = g1) (g2 : Bool) (e2 : decide (c < 1) = g2) (g3 : Bool) (e3 : decide (p < c) = g3) (g4 : Bool) (e4 : decide (i < 1) = g4) (g5 : Bool) (e5 : decide (c < i) = g5) (h : (g1 || (g2 || (g3 || (g4 || g5)))) = true) :
    Calls Try.prog 5 #[.agg #[.string nm, .int .i64 c, .int .i64 p], .int .i64 i, .int .u8 b] w fun e w' => e = .returned (.bool true) ∧ Below w.heap.size w w' := by
  have hu23 := Try.underlying23
  have hu26 := Try.underlying26
  have HA := Aside0.mk (Plain.awake_eval 0)
  have HB0 := Aside0.mk (below_alloc (Below.refl w.heap.size w) (.cells #[.string nm, .int .i64 c, .int .i64 p] 23))
  cases g1 <;> cases g2 <;> cases g3 <;> cases g4 <;> cases g5 <;> first | (exfalso; revert h; decide) | skip
  all_goals
    clear h
    go_enter Try.func5, Try.ntmps5
    go_wp2_with fail
    refine (ontimelaw45_awake.calls 2 true _ HA.out).mono ?_
    rintro e w1 ⟨rfl, hb⟩
    have c0 : w1.cell? ⟨w.heap.size, 0, none⟩ = some (.string nm) := pw_cell_below hb (by go_simp)
    have c1 : w1.cell? ⟨w.heap.size, 1, none⟩ = some (.int .i64 c) := pw_cell_below hb (by go_simp)
    have c2 : w1.cell? ⟨w.heap.size, 2, none⟩ = some (.int .i64 p) := pw_cell_below hb (by go_simp)
    have HB1 := Aside0.mk (below_step HB0.out hb)
    clear hb
    go_wp2
    go_ret
    exact ⟨by first | rfl | simp, HB1.out⟩

set_option maxHeartbeats 4000000 in
set_option maxRecDepth 100000 in
theorem ps_main (nm : ByteArray) (c p i b k : Int) (w : World) (a1 : 1 ≤ c) (a2 : c ≤ p) (a3 : p ≤ 40) (h1 : 1 ≤ i) (h2 : i ≤ c) (b1 : 0 ≤ b) (b2 : b ≤ 255) (hk : k = 1 + b % 5) :
    Calls Try.prog 5 #[.agg #[.string nm, .int .i64 c, .int .i64 p], .int .i64 i, .int .u8 b] w fun e w' => e = .returned (.bool true) ∧ Below w.heap.size w w' := by
  have hu23 := Try.underlying23
  have hu26 := Try.underlying26
  have k1 : 1 ≤ k := by omega
  have k2 : k ≤ 5 := by omega
  have HK := Aside0.mk hk
  clear hk
  have HA := Aside0.mk (Plain.awake_eval 0)
  have hv : pf_vld c p = true := (pf_vld_iff c p).2 ⟨a1, a2, by omega⟩
  have q1 : k * c ≤ 200 ∧ c ≤ k * c := by
    have := Int.mul_le_mul_of_nonneg_right k2 (show 0 ≤ c by omega)
    have := Int.mul_le_mul_of_nonneg_right k1 (show 0 ≤ c by omega)
    rw [Int.one_mul] at this
    omega
  have q2 : k * p ≤ 200 ∧ p ≤ k * p := by
    have := Int.mul_le_mul_of_nonneg_right k2 (show 0 ≤ p by omega)
    have := Int.mul_le_mul_of_nonneg_right k1 (show 0 ≤ p by omega)
    rw [Int.one_mul] at this
    omega
  have hv' : pf_vld (k * c) (k * p) = true := (pf_vld_iff _ _).2 ⟨by omega, Int.mul_le_mul_of_nonneg_left a2 (by omega), by omega⟩
  obtain ⟨c', hc'⟩ : ∃ c', k * c = c' := ⟨_, rfl⟩
  obtain ⟨p', hp'⟩ : ∃ p', k * p = p' := ⟨_, rfl⟩
  have eW := pf_window_eval ⟨#[]⟩ (k * c) (k * p) i 0 hv' h1 (by omega)
  rw [Plain.scale_rel k c p i (by omega), Plain.scale_dl k c p i (by omega) (by omega)] at eW
  have eO := pf_overlaps_eval ⟨#[]⟩ (k * c) (k * p) i 0
  rw [hv', decide_eq_true (show 1 ≤ i ∧ i ≤ k * c by omega), Plain.scale_ov k c p i (by omega) (by omega)] at eO
  have eG : pfair_Group.f ⟨#[]⟩ (k * c) (k * p) i = some (pf_group c p i) := by unfold pfair_Group.f; rw [Plain.scale_group k c p i (by omega) (by omega) hv hv' h1 h2]
  have eH := pf_heavy_eval ⟨#[]⟩ (k * c) (k * p) 0
  rw [Plain.scale_heavy k c p (by omega) hv hv'] at eH
  have fO := pf_overlaps_eval nm c p i 0
  rw [hv, decide_eq_true (show 1 ≤ i ∧ i ≤ c by omega)] at fO
  rw [hc', hp'] at eW eO eG eH
  have HW := Aside0.mk (pf_window_eval nm c p i 0 hv h1 h2)
  have HW' := Aside0.mk eW
  have HO := Aside0.mk fO
  have HO' := Aside0.mk eO
  have HG := Aside0.mk (show pfair_Group.f nm c p i = some (pf_group c p i) from rfl)
  have HG' := Aside0.mk eG
  have HH := Aside0.mk (pf_heavy_eval nm c p 0)
  have HH' := Aside0.mk eH
  have wc : wrap64 ((1 + b % 5) * c) = c' := by rw [← HK.out, hc']; exact pf_wrap (by omega) (by omega)
  have wp : wrap64 ((1 + b % 5) * p) = p' := by rw [← HK.out, hp']; exact pf_wrap (by omega) (by omega)
  clear eW eO eG eH fO hv hv' hc' hp'
  generalize pf_rel c p i = R at *
  generalize pf_dl c p i = D at *
  generalize (true && true && pf_ov c p i) = O at *
  generalize pf_group c p i = G at *
  generalize pf_heavy c p = Y at *
  have HB0 := Aside0.mk (below_alloc (Below.refl w.heap.size w) (.cells #[.string nm, .int .i64 c, .int .i64 p] 23))
  go_enter Try.func5, Try.ntmps5
  go_wp2_with fail
  refine (ontimelaw45_awake.calls 2 true _ HA.out).mono ?_
  rintro e w1 ⟨rfl, hb⟩
  have c0 : w1.cell? ⟨w.heap.size, 0, none⟩ = some (.string nm) := pw_cell_below hb (by go_simp)
  have c1 : w1.cell? ⟨w.heap.size, 1, none⟩ = some (.int .i64 c) := pw_cell_below hb (by go_simp)
  have c2 : w1.cell? ⟨w.heap.size, 2, none⟩ = some (.int .i64 p) := pw_cell_below hb (by go_simp)
  have d0 := fun o => pw_cell_below (below_alloc (Below.refl _ w1) o) c0
  have d1 := fun o => pw_cell_below (below_alloc (Below.refl _ w1) o) c1
  have d2 := fun o => pw_cell_below (below_alloc (Below.refl _ w1) o) c2
  have HB1 := Aside0.mk (below_step HB0.out hb)
  clear hb
  go_wp2_with fail
  obtain ⟨W1, hW1⟩ : ∃ W1, W1 = w1.alloc (.cells #[.string ⟨#[]⟩, .int .i64 c', .int .i64 p'] 23) := ⟨_, rfl⟩
  have u0 : W1.cell? ⟨w1.heap.size, 0, none⟩ = some (.string ⟨#[]⟩) := by rw [hW1]; clear c0 c1 c2 d0 d1 d2; go_simp
  have u1 : W1.cell? ⟨w1.heap.size, 1, none⟩ = some (.int .i64 c') := by rw [hW1]; clear c0 c1 c2 d0 d1 d2; go_simp
  have u2 : W1.cell? ⟨w1.heap.size, 2, none⟩ = some (.int .i64 p') := by rw [hW1]; clear c0 c1 c2 d0 d1 d2; go_simp
  have e0 := d0 (.cells #[.string ⟨#[]⟩, .int .i64 c', .int .i64 p'] 23)
  have e1 := d1 (.cells #[.string ⟨#[]⟩, .int .i64 c', .int .i64 p'] 23)
  have e2 := d2 (.cells #[.string ⟨#[]⟩, .int .i64 c', .int .i64 p'] 23)
  have HB2 := Aside0.mk (below_alloc HB1.out (.cells #[.string ⟨#[]⟩, .int .i64 c', .int .i64 p'] 23))
  rw [← hW1] at e0 e1 e2 HB2
  rw [← hW1]
  clear hW1 c0 c1 c2 d0 d1 d2
  generalize w1.heap.size = bu at *
  refine (pfair_Window.calls 2 nm c p i i R D 0 W1 HW.out).mono ?_
  rintro e w2 ⟨rfl, hb⟩
  have c0 := pw_cell_below hb e0
  have c1 := pw_cell_below hb e1
  have c2 := pw_cell_below hb e2
  have c3 := pw_cell_below hb u0
  have c4 := pw_cell_below hb u1
  have c5 := pw_cell_below hb u2
  have HB3 := Aside0.mk (below_step HB2.out hb)
  clear hb e0 e1 e2 u0 u1 u2
  have d0 := fun o => pw_cell_below (below_alloc (Below.refl _ w2) o) c0
  have d1 := fun o => pw_cell_below (below_alloc (Below.refl _ w2) o) c1
  have d2 := fun o => pw_cell_below (below_alloc (Below.refl _ w2) o) c2
  have d3 := fun o => pw_cell_below (below_alloc (Below.refl _ w2) o) c3
  have d4 := fun o => pw_cell_below (below_alloc (Below.refl _ w2) o) c4
  have d5 := fun o => pw_cell_below (below_alloc (Below.refl _ w2) o) c5
  clear c0 c1 c2 c3 c4 c5
  go_wp2_with fail
  obtain ⟨W2, hW2⟩ : ∃ W2, W2 = w2.alloc (.cells #[.int .i64 i, .int .i64 R, .int .i64 D] 26) := ⟨_, rfl⟩
  have u0 : W2.cell? ⟨w2.heap.size, 0, none⟩ = some (.int .i64 i) := by rw [hW2]; clear d0 d1 d2 d3 d4 d5; go_simp
  have u1 : W2.cell? ⟨w2.heap.size, 1, none⟩ = some (.int .i64 R) := by rw [hW2]; clear d0 d1 d2 d3 d4 d5; go_simp
  have u2 : W2.cell? ⟨w2.heap.size, 2, none⟩ = some (.int .i64 D) := by rw [hW2]; clear d0 d1 d2 d3 d4 d5; go_simp
  have e0 := d0 (.cells #[.int .i64 i, .int .i64 R, .int .i64 D] 26)
  have e1 := d1 (.cells #[.int .i64 i, .int .i64 R, .int .i64 D] 26)
  have e2 := d2 (.cells #[.int .i64 i, .int .i64 R, .int .i64 D] 26)
  have e3 := d3 (.cells #[.int .i64 i, .int .i64 R, .int .i64 D] 26)
  have e4 := d4 (.cells #[.int .i64 i, .int .i64 R, .int .i64 D] 26)
  have e5 := d5 (.cells #[.int .i64 i, .int .i64 R, .int .i64 D] 26)
  have HB4 := Aside0.mk (below_alloc HB3.out (.cells #[.int .i64 i, .int .i64 R, .int .i64 D] 26))
  rw [← hW2] at e0 e1 e2 e3 e4 e5 HB4
  rw [← hW2]
  clear hW2 d0 d1 d2 d3 d4 d5
  generalize w2.heap.size = ba at *
  refine (pfair_Window.calls 2 ⟨#[]⟩ c' p' i i R D 0 W2 HW'.out).mono ?_
  rintro e w3 ⟨rfl, hb⟩
  have c0 := pw_cell_below hb e0
  have c1 := pw_cell_below hb e1
  have c2 := pw_cell_below hb e2
  have c3 := pw_cell_below hb e3
  have c4 := pw_cell_below hb e4
  have c5 := pw_cell_below hb e5
  have c6 := pw_cell_below hb u0
  have c7 := pw_cell_below hb u1
  have c8 := pw_cell_below hb u2
  have HB5 := Aside0.mk (below_step HB4.out hb)
  clear hb e0 e1 e2 e3 e4 e5 u0 u1 u2
  obtain ⟨W3, hW3⟩ : ∃ W3, W3 = w3.alloc (.cells #[.int .i64 i, .int .i64 R, .int .i64 D] 26) := ⟨_, rfl⟩
  have v0 : W3.cell? ⟨w3.heap.size, 0, none⟩ = some (.int .i64 i) := by rw [hW3]; clear c0 c1 c2 c3 c4 c5 c6 c7 c8; go_simp
  have v1 : W3.cell? ⟨w3.heap.size, 1, none⟩ = some (.int .i64 R) := by rw [hW3]; clear c0 c1 c2 c3 c4 c5 c6 c7 c8; go_simp
  have v2 : W3.cell? ⟨w3.heap.size, 2, none⟩ = some (.int .i64 D) := by rw [hW3]; clear c0 c1 c2 c3 c4 c5 c6 c7 c8; go_simp
  have hB3 := below_alloc (Below.refl _ w3) (.cells #[.int .i64 i, .int .i64 R, .int .i64 D] 26)
  have HB6 := Aside0.mk (below_alloc HB5.out (.cells #[.int .i64 i, .int .i64 R, .int .i64 D] 26))
  rw [← hW3] at hB3 HB6
  have f0 := pw_cell_below hB3 c0
  have f1 := pw_cell_below hB3 c1
  have f2 := pw_cell_below hB3 c2
  have f3 := pw_cell_below hB3 c3
  have f4 := pw_cell_below hB3 c4
  have f5 := pw_cell_below hB3 c5
  have f6 := pw_cell_below hB3 c6
  have f7 := pw_cell_below hB3 c7
  have f8 := pw_cell_below hB3 c8
  have HW3 := Aside0.mk hW3
  clear c0 c1 c2 c3 c4 c5 c6 c7 c8 hB3 hW3
  go_wp2
  rw [← HW3.out]
  generalize w3.heap.size = bb at *
  have HBz := HB6.out
  go_region_held3 (fun W => W.cell? ⟨w.heap.size, 0, none⟩ = some (.string nm) ∧ W.cell? ⟨w.heap.size, 1, none⟩ = some (.int .i64 c) ∧ W.cell? ⟨w.heap.size, 2, none⟩ = some (.int .i64 p) ∧ W.cell? ⟨bu, 0, none⟩ = some (.string ⟨#[]⟩) ∧ W.cell? ⟨bu, 1, none⟩ = some (.int .i64 c') ∧ W.cell? ⟨bu, 2, none⟩ = some (.int .i64 p') ∧ W.cell? ⟨ba, 0, none⟩ = some (.int .i64 i) ∧ W.cell? ⟨ba, 1, none⟩ = some (.int .i64 R) ∧ W.cell? ⟨ba, 2, none⟩ = some (.int .i64 D) ∧ W.cell? ⟨bb, 0, none⟩ = some (.int .i64 i) ∧ W.cell? ⟨bb, 1, none⟩ = some (.int .i64 R) ∧ W.cell? ⟨bb, 2, none⟩ = some (.int .i64 D))
    (first | go_keep | (refine ⟨?_, ?_, ?_, ?_, ?_, ?_, ?_, ?_, ?_, ?_, ?_, ?_⟩ <;> (refine pw_cell_below hb ?_) <;> first | assumption | go_keep))
    (first
      | (go_at_call 16; (with_reducible refine (pfair_Overlaps.calls 2 nm c p i O _ HO.out).mono ?_); rintro e w' ⟨rfl, hb⟩; first | have HBn := below_step (below_drew HBz) hb | have HBn := below_step ‹Below w.heap.size w _› hb)
      | (go_at_call 16; (with_reducible refine (pfair_Overlaps.calls 2 ⟨#[]⟩ c' p' i O _ HO'.out).mono ?_); rintro e w' ⟨rfl, hb⟩; first | have HBn := below_step (below_drew HBz) hb | have HBn := below_step ‹Below w.heap.size w _› hb)
      | (go_at_call 17; (with_reducible refine (pfair_Group.calls nm c p i G _ HG.out).mono ?_); rintro e w' ⟨rfl, hb⟩; first | have HBn := below_step (below_drew HBz) hb | have HBn := below_step ‹Below w.heap.size w _› hb)
      | (go_at_call 17; (with_reducible refine (pfair_Group.calls ⟨#[]⟩ c' p' i G _ HG'.out).mono ?_); rintro e w' ⟨rfl, hb⟩; first | have HBn := below_step (below_drew HBz) hb | have HBn := below_step ‹Below w.heap.size w _› hb)
      | (go_at_call 14; (with_reducible refine (pfair_Heavy.calls 2 nm c p Y _ HH.out).mono ?_); rintro e w' ⟨rfl, hb⟩; first | have HBn := below_step (below_drew HBz) hb | have HBn := below_step ‹Below w.heap.size w _› hb)
      | (go_at_call 14; (with_reducible refine (pfair_Heavy.calls 2 ⟨#[]⟩ c' p' Y _ HH'.out).mono ?_); rintro e w' ⟨rfl, hb⟩; first | have HBn := below_step (below_drew HBz) hb | have HBn := below_step ‹Below w.heap.size w _› hb))
  all_goals
    go_wp2
    go_ret
    exact ⟨by first | rfl | (simp; done), by first | assumption | (apply below_drew; assumption)⟩

theorem ontimelaw45_PfairScales.calls (a0_0 : ByteArray) (a0_1 : Int) (a0_2 : Int) (a1 : Int) (a2 : Int) (r : Bool) (w : World) (h : ontimelaw45_PfairScales.f a0_0 a0_1 a0_2 a1 a2 = some r) :
    Calls Try.prog 5 #[.agg #[.string a0_0, .int .i64 a0_1, .int .i64 a0_2], .int .i64 a1, .int .u8 a2] w fun e w' => e = .returned (.bool r) ∧ Below w.heap.size w w' := by
  unfold ontimelaw45_PfairScales.f at h
  by_cases hb : 0 ≤ a2 ∧ a2 ≤ 255
  · rw [if_pos hb] at h
    obtain rfl := Option.some.inj h
    by_cases hs : (decide (40 < a0_2) || (decide (a0_1 < 1) || (decide (a0_2 < a0_1) || (decide (a1 < 1) || decide (a0_1 < a1))))) = true
    · exact ps_skip a0_0 a0_1 a0_2 a1 a2 w _ rfl _ rfl _ rfl _ rfl _ rfl hs
    · simp only [Bool.or_eq_true, decide_eq_true_eq] at hs
      exact ps_main a0_0 a0_1 a0_2 a1 a2 _ w (by omega) (by omega) (by omega) (by omega) (by omega) hb.1 hb.2 rfl
  · rw [if_neg hb] at h
    cases h

end Go.Proofs.Ytbjhkcfgahbipaa.P
