-- Written by wip/gen.py: the kit's print, with contracts of mine in it.
import Derived.Test.YtbjhkcfgahbipaaPx0
import Derived.Test.YtbjhkcfgahbipaaPx5
import Derived.Test.YtbjhkcfgahbipaaPx6
import Derived.Test.YtbjhkcfgahbipaaPx7
import Derived.Test.YtbjhkcfgahbipaaPx10
import Derived.Test.YtbjhkcfgahbipaaPx11
import Derived.Test.YtbjhkcfgahbipaaPx12
import Derived.Test.YtbjhkcfgahbipaaPx13
import Derived.Test.YtbjhkcfgahbipaaPx14
import Derived.Test.YtbjhkcfgahbipaaPx15
import Derived.Test.YtbjhkcfgahbipaaPx16
import Derived.Test.YtbjhkcfgahbipaaRefGroup
namespace Go.Proofs.Ytbjhkcfgahbipaa.P
open Go.RowKit Go.Proofs.YtbjhkcfgahbipaaW.PrintWords Go.Proofs.YtbjhkcfgahbipaaW.PrintLast Go.Proofs.YtbjhkcfgahbipaaW.PrintMore
attribute [local go_sem] max2_int min2_int max_two min_two max_three min_three max_four min_four   -- for this text's walks alone
set_option linter.unusedVariables false
set_option linter.unusedSimpArgs false

/-! ### ontimelaw45_PfairWindow: function 3, by hand -/
-- HAND rounds 0
-- HAND import Derived.Test.YtbjhkcfgahbipaaRefGroup
def ontimelaw45_PfairWindow.f (a0_0 : ByteArray) (a0_1 : Int) (a0_2 : Int) (a1 : Int) : Option (Bool) := some true
theorem pw_cd {w w' : World} {B n : Nat} {a : Addr} {v : Value} (hb : Below B (w.drewN n) w') (hB : B = (w.drewN n).heap.size) (h : w.cell? a = some v) : w'.cell? a = some v := by
  subst hB
  exact pw_cell_below hb h

set_option maxHeartbeats 4000000 in
set_option maxRecDepth 100000 in
/-- The task is not valid, or the index is out of range. -/
theorem pw_invalid (nm : ByteArray) (c p i : Int) (w : World) (hv : pf_vld c p = false) (hg : (false && decide (1 ≤ i ∧ i ≤ c)) = false) :
    Calls Try.prog 3 #[.agg #[.string nm, .int .i64 c, .int .i64 p], .int .i64 i] w fun e w' => e = .returned (.bool true) ∧ Below w.heap.size w w' := by
  have hu23 := Try.underlying23
  have hu26 := Try.underlying26
  have HA := Aside0.mk (Plain.awake_eval 0)
  have hno := pf_window_no nm c p i 0 (by rw [hv]; exact hg)
  rw [hv] at hno
  have hov := pf_overlaps_eval nm c p i 0
  rw [hv, hg, Bool.false_and] at hov
  have hgr : pfair_Group.f nm c p i = some 0 := by
    unfold pfair_Group.f
    cases h1 : decide (1 ≤ i ∧ i ≤ c)
    · rw [Plain.group_out c p i (of_decide_eq_false h1)]
    · rw [h1, Bool.and_true] at hg
      rw [Plain.group_zero c p i (by unfold pf_heavy; rw [hv, hg]; rfl)]
  have hhv := pf_heavy_eval nm c p 0
  have hrv := Plain.ref_valid_eval c p
  rw [hv] at hrv
  have HV := Aside0.mk hv
  have HOV := Aside0.mk hov
  have HGR := Aside0.mk hgr
  have HHV := Aside0.mk hhv
  have HRV := Aside0.mk hrv
  have HNO := Aside0.mk hno
  have HG := Aside0.mk hg
  clear hv hov hgr hhv hrv hno hg
  have HB0 := Aside0.mk (below_alloc (Below.refl w.heap.size w) (.cells #[.string nm, .int .i64 c, .int .i64 p] 23))
  have hY : pf_heavy c p = false := by unfold pf_heavy; rw [HV.out]; rfl
  rw [hY] at HHV
  clear hY
  ·
    go_enter Try.func3, Try.ntmps3
    go_wp2_with fail
    refine (ontimelaw45_awake.calls 2 true _ HA.out).mono ?_
    rintro e w1 ⟨rfl, hb⟩
    have c0 : w1.cell? ⟨w.heap.size, 0, none⟩ = some (.string nm) := pw_cell_below hb (by go_simp)
    have c1 : w1.cell? ⟨w.heap.size, 1, none⟩ = some (.int .i64 c) := pw_cell_below hb (by go_simp)
    have c2 : w1.cell? ⟨w.heap.size, 2, none⟩ = some (.int .i64 p) := pw_cell_below hb (by go_simp)
    have HB1 := Aside0.mk (below_step HB0.out hb)
    clear hb
    go_wp2_with fail
    refine (pfair_Window.calls 2 nm c p i _ _ _ _ _ HNO.out).mono ?_
    rintro e w2 ⟨rfl, hb⟩
    have HB2 := Aside0.mk (below_step HB1.out hb)
    have d0 := fun o => pw_cell_below (below_alloc hb o) c0
    have d1 := fun o => pw_cell_below (below_alloc hb o) c1
    have d2 := fun o => pw_cell_below (below_alloc hb o) c2
    clear hb c0 c1 c2
    go_wp2_with fail
    obtain ⟨W2, hW2⟩ : ∃ W2, W2 = w2.alloc (.cells #[.int .i64 0, .int .i64 0, .int .i64 0] 26) := ⟨_, rfl⟩
    have u0 : W2.cell? ⟨w2.heap.size, 0, none⟩ = some (.int .i64 0) := by rw [hW2]; clear d0 d1 d2; go_simp
    have u1 : W2.cell? ⟨w2.heap.size, 1, none⟩ = some (.int .i64 0) := by rw [hW2]; clear d0 d1 d2; go_simp
    have u2 : W2.cell? ⟨w2.heap.size, 2, none⟩ = some (.int .i64 0) := by rw [hW2]; clear d0 d1 d2; go_simp
    have e0 := d0 (.cells #[.int .i64 0, .int .i64 0, .int .i64 0] 26)
    have e1 := d1 (.cells #[.int .i64 0, .int .i64 0, .int .i64 0] 26)
    have e2 := d2 (.cells #[.int .i64 0, .int .i64 0, .int .i64 0] 26)
    have HB3 := Aside0.mk (below_alloc HB2.out (.cells #[.int .i64 0, .int .i64 0, .int .i64 0] 26))
    rw [← hW2] at e0 e1 e2 HB3
    rw [← hW2]
    clear hW2 d0 d1 d2
    generalize w2.heap.size = ba at *
    refine (ontimeref45_Valid.calls c p _ W2 HRV.out).mono ?_
    rintro e w3 ⟨rfl, ⟨nd, rfl⟩⟩
    go_wp2_with fail
    refine (pfair_Heavy.calls 2 nm c p false _ HHV.out).mono ?_
    rintro e w3 ⟨rfl, hb⟩
    have c0 : w3.cell? ⟨w.heap.size, 0, none⟩ = some (.string nm) := pw_cell_below hb (by simpa using e0)
    have c1 : w3.cell? ⟨w.heap.size, 1, none⟩ = some (.int .i64 c) := pw_cell_below hb (by simpa using e1)
    have c2 : w3.cell? ⟨w.heap.size, 2, none⟩ = some (.int .i64 p) := pw_cell_below hb (by simpa using e2)
    have c3 : w3.cell? ⟨ba, 0, none⟩ = some (.int .i64 0) := pw_cell_below hb (by simpa using u0)
    have c4 : w3.cell? ⟨ba, 1, none⟩ = some (.int .i64 0) := pw_cell_below hb (by simpa using u1)
    have c5 : w3.cell? ⟨ba, 2, none⟩ = some (.int .i64 0) := pw_cell_below hb (by simpa using u2)
    have HB4 := Aside0.mk (below_step (pw_below_drewN HB3.out nd) hb)
    clear hb e0 e1 e2 u0 u1 u2
    skip
    go_wp2_with fail
    refine (pfair_Overlaps.calls 2 nm c p i false _ HOV.out).mono ?_
    rintro e w4 ⟨rfl, hb⟩
    have d0 : w4.cell? ⟨w.heap.size, 0, none⟩ = some (.string nm) := pw_cell_below hb (by simpa using c0)
    have d1 : w4.cell? ⟨w.heap.size, 1, none⟩ = some (.int .i64 c) := pw_cell_below hb (by simpa using c1)
    have d2 : w4.cell? ⟨w.heap.size, 2, none⟩ = some (.int .i64 p) := pw_cell_below hb (by simpa using c2)
    have HB5 := Aside0.mk (below_step (by first | exact HB4.out | exact pw_below_drewN HB4.out _) hb)
    clear hb c0 c1 c2 c3 c4 c5
    go_wp2_with fail
    refine (pfair_Group.calls nm c p i 0 _ HGR.out).mono ?_
    rintro e w5 ⟨rfl, hb⟩
    have HB6 := Aside0.mk (below_step HB5.out hb)
    clear hb
    go_wp2
    go_ret
    exact ⟨by first | rfl | (simp; done), HB6.out⟩

set_option maxHeartbeats 4000000 in
set_option maxRecDepth 100000 in
/-- The task is not valid, or the index is out of range. -/
theorem pw_range (nm : ByteArray) (c p i : Int) (w : World) (hv : pf_vld c p = true) (hg : (true && decide (1 ≤ i ∧ i ≤ c)) = false) (g4 : Bool) (e4 : decide (i < 1) = g4) (g5 : Bool) (e5 : decide (c < i) = g5) :
    Calls Try.prog 3 #[.agg #[.string nm, .int .i64 c, .int .i64 p], .int .i64 i] w fun e w' => e = .returned (.bool true) ∧ Below w.heap.size w w' := by
  have hu23 := Try.underlying23
  have hu26 := Try.underlying26
  have HA := Aside0.mk (Plain.awake_eval 0)
  have hno := pf_window_no nm c p i 0 (by rw [hv]; exact hg)
  rw [hv] at hno
  have hov := pf_overlaps_eval nm c p i 0
  rw [hv, hg, Bool.false_and] at hov
  have hgr : pfair_Group.f nm c p i = some 0 := by
    unfold pfair_Group.f
    cases h1 : decide (1 ≤ i ∧ i ≤ c)
    · rw [Plain.group_out c p i (of_decide_eq_false h1)]
    · rw [h1, Bool.and_true] at hg
      rw [Plain.group_zero c p i (by unfold pf_heavy; rw [hv, hg]; rfl)]
  have hhv := pf_heavy_eval nm c p 0
  have hrv := Plain.ref_valid_eval c p
  rw [hv] at hrv
  have HV := Aside0.mk hv
  have HOV := Aside0.mk hov
  have HGR := Aside0.mk hgr
  have HHV := Aside0.mk hhv
  have HRV := Aside0.mk hrv
  have HNO := Aside0.mk hno
  have HG := Aside0.mk hg
  have HRH := Aside0.mk (Plain.ref_heavy_eval c p hv)
  clear hv hov hgr hhv hrv hno hg
  have HB0 := Aside0.mk (below_alloc (Below.refl w.heap.size w) (.cells #[.string nm, .int .i64 c, .int .i64 p] 23))
  have HF := Aside0.mk (show g4 = false → g5 = true from fun h2 => by
    have := HG.out
    rw [Bool.true_and] at this
    have := of_decide_eq_false this
    rw [h2] at e4
    have := of_decide_eq_false e4
    rw [← e5]
    exact decide_eq_true (by omega))
  generalize pf_heavy c p = Y at *
  cases g4 <;> cases g5 <;> first | (exfalso; exact absurd (HF.out rfl) (by decide)) | skip
  all_goals
    go_enter Try.func3, Try.ntmps3
    go_wp2_with fail
    refine (ontimelaw45_awake.calls 2 true _ HA.out).mono ?_
    rintro e w1 ⟨rfl, hb⟩
    have c0 : w1.cell? ⟨w.heap.size, 0, none⟩ = some (.string nm) := pw_cell_below hb (by go_simp)
    have c1 : w1.cell? ⟨w.heap.size, 1, none⟩ = some (.int .i64 c) := pw_cell_below hb (by go_simp)
    have c2 : w1.cell? ⟨w.heap.size, 2, none⟩ = some (.int .i64 p) := pw_cell_below hb (by go_simp)
    have HB1 := Aside0.mk (below_step HB0.out hb)
    clear hb
    go_wp2_with fail
    refine (pfair_Window.calls 2 nm c p i _ _ _ _ _ HNO.out).mono ?_
    rintro e w2 ⟨rfl, hb⟩
    have HB2 := Aside0.mk (below_step HB1.out hb)
    have d0 := fun o => pw_cell_below (below_alloc hb o) c0
    have d1 := fun o => pw_cell_below (below_alloc hb o) c1
    have d2 := fun o => pw_cell_below (below_alloc hb o) c2
    clear hb c0 c1 c2
    go_wp2_with fail
    obtain ⟨W2, hW2⟩ : ∃ W2, W2 = w2.alloc (.cells #[.int .i64 0, .int .i64 0, .int .i64 0] 26) := ⟨_, rfl⟩
    have u0 : W2.cell? ⟨w2.heap.size, 0, none⟩ = some (.int .i64 0) := by rw [hW2]; clear d0 d1 d2; go_simp
    have u1 : W2.cell? ⟨w2.heap.size, 1, none⟩ = some (.int .i64 0) := by rw [hW2]; clear d0 d1 d2; go_simp
    have u2 : W2.cell? ⟨w2.heap.size, 2, none⟩ = some (.int .i64 0) := by rw [hW2]; clear d0 d1 d2; go_simp
    have e0 := d0 (.cells #[.int .i64 0, .int .i64 0, .int .i64 0] 26)
    have e1 := d1 (.cells #[.int .i64 0, .int .i64 0, .int .i64 0] 26)
    have e2 := d2 (.cells #[.int .i64 0, .int .i64 0, .int .i64 0] 26)
    have HB3 := Aside0.mk (below_alloc HB2.out (.cells #[.int .i64 0, .int .i64 0, .int .i64 0] 26))
    rw [← hW2] at e0 e1 e2 HB3
    rw [← hW2]
    clear hW2 d0 d1 d2
    generalize w2.heap.size = ba at *
    refine (ontimeref45_Valid.calls c p _ W2 HRV.out).mono ?_
    rintro e w3 ⟨rfl, ⟨nd, rfl⟩⟩
    go_wp2_with fail
    refine (pfair_Heavy.calls 2 nm c p Y _ HHV.out).mono ?_
    rintro e w3 ⟨rfl, hb⟩
    have c0 : w3.cell? ⟨w.heap.size, 0, none⟩ = some (.string nm) := pw_cell_below hb (by simpa using e0)
    have c1 : w3.cell? ⟨w.heap.size, 1, none⟩ = some (.int .i64 c) := pw_cell_below hb (by simpa using e1)
    have c2 : w3.cell? ⟨w.heap.size, 2, none⟩ = some (.int .i64 p) := pw_cell_below hb (by simpa using e2)
    have c3 : w3.cell? ⟨ba, 0, none⟩ = some (.int .i64 0) := pw_cell_below hb (by simpa using u0)
    have c4 : w3.cell? ⟨ba, 1, none⟩ = some (.int .i64 0) := pw_cell_below hb (by simpa using u1)
    have c5 : w3.cell? ⟨ba, 2, none⟩ = some (.int .i64 0) := pw_cell_below hb (by simpa using u2)
    have HB4 := Aside0.mk (below_step (pw_below_drewN HB3.out nd) hb)
    clear hb e0 e1 e2 u0 u1 u2
    go_wp2_with fail
    refine (ontimeref45_Heavy.calls c p Y w3 HRH.out).mono ?_
    rintro e w' ⟨rfl, ⟨nd2, rfl⟩⟩
    go_wp2_with fail
    refine (pfair_Overlaps.calls 2 nm c p i false _ HOV.out).mono ?_
    rintro e w4 ⟨rfl, hb⟩
    have d0 : w4.cell? ⟨w.heap.size, 0, none⟩ = some (.string nm) := pw_cell_below hb (by simpa using c0)
    have d1 : w4.cell? ⟨w.heap.size, 1, none⟩ = some (.int .i64 c) := pw_cell_below hb (by simpa using c1)
    have d2 : w4.cell? ⟨w.heap.size, 2, none⟩ = some (.int .i64 p) := pw_cell_below hb (by simpa using c2)
    have HB5 := Aside0.mk (below_step (by first | exact HB4.out | exact pw_below_drewN HB4.out _) hb)
    clear hb c0 c1 c2 c3 c4 c5
    go_wp2_with fail
    refine (pfair_Group.calls nm c p i 0 _ HGR.out).mono ?_
    rintro e w5 ⟨rfl, hb⟩
    have HB6 := Aside0.mk (below_step HB5.out hb)
    clear hb
    go_wp2
    go_ret
    exact ⟨by first | rfl | (simp; done), HB6.out⟩
set_option maxHeartbeats 4000000 in
set_option maxRecDepth 100000 in
/-- The task is valid, and the index in range. -/
theorem pw_good_far (nm : ByteArray) (c p i : Int) (w : World) (hv : pf_vld c p = true) (h1 : 1 ≤ i) (h2 : i ≤ c) (hg : decide (120 < p) = true) :
    Calls Try.prog 3 #[.agg #[.string nm, .int .i64 c, .int .i64 p], .int .i64 i] w fun e w' => e = .returned (.bool true) ∧ Below w.heap.size w w' := by
  have hu23 := Try.underlying23
  have hu26 := Try.underlying26
  have HA := Aside0.mk (Plain.awake_eval 0)
  have HW := Aside0.mk (pf_window_eval nm c p i 0 hv h1 h2)
  have HRW := Aside0.mk (Plain.ref_window_eval c p i hv h1 h2)
  have hov := pf_overlaps_eval nm c p i 0
  rw [hv, decide_eq_true (show 1 ≤ i ∧ i ≤ c from ⟨h1, h2⟩), Bool.true_and, Bool.true_and] at hov
  have HOV := Aside0.mk hov
  have HRO := Aside0.mk (Plain.ref_overlaps_eval c p i hv h1 h2)
  have HGR := Aside0.mk (show pfair_Group.f nm c p i = some (pf_group c p i) from rfl)
  obtain ⟨K, hK⟩ := (Plain.ref_group_any c p i hv h1 h2).rounds
  have HRG := Aside0.mk hK
  have HHV := Aside0.mk (pf_heavy_eval nm c p 0)
  have HRH := Aside0.mk (Plain.ref_heavy_eval c p hv)
  have hrv := Plain.ref_valid_eval c p
  rw [hv] at hrv
  have HRV := Aside0.mk hrv
  clear hv hov hK hrv
  have HB0 := Aside0.mk (below_alloc (Below.refl w.heap.size w) (.cells #[.string nm, .int .i64 c, .int .i64 p] 23))
  generalize pf_heavy c p = Y at *
  generalize pf_rel c p i = R at *
  generalize pf_dl c p i = D at *
  generalize pf_ov c p i = O at *
  generalize pf_group c p i = G at *
  ·
    go_enter Try.func3, Try.ntmps3
    go_wp2_with fail
    refine (ontimelaw45_awake.calls 2 true _ HA.out).mono ?_
    rintro e w1 ⟨rfl, hb⟩
    have c0 : w1.cell? ⟨w.heap.size, 0, none⟩ = some (.string nm) := pw_cell_below hb (by go_simp)
    have c1 : w1.cell? ⟨w.heap.size, 1, none⟩ = some (.int .i64 c) := pw_cell_below hb (by go_simp)
    have c2 : w1.cell? ⟨w.heap.size, 2, none⟩ = some (.int .i64 p) := pw_cell_below hb (by go_simp)
    have HB1 := Aside0.mk (below_step HB0.out hb)
    clear hb
    go_wp2_with fail
    refine (pfair_Window.calls 2 nm c p i _ _ _ _ _ HW.out).mono ?_
    rintro e w2 ⟨rfl, hb⟩
    have HB2 := Aside0.mk (below_step HB1.out hb)
    have d0 := fun o => pw_cell_below (below_alloc hb o) c0
    have d1 := fun o => pw_cell_below (below_alloc hb o) c1
    have d2 := fun o => pw_cell_below (below_alloc hb o) c2
    clear hb c0 c1 c2
    go_wp2_with fail
    obtain ⟨W2, hW2⟩ : ∃ W2, W2 = w2.alloc (.cells #[.int .i64 i, .int .i64 R, .int .i64 D] 26) := ⟨_, rfl⟩
    have u0 : W2.cell? ⟨w2.heap.size, 0, none⟩ = some (.int .i64 i) := by rw [hW2]; clear d0 d1 d2; go_simp
    have u1 : W2.cell? ⟨w2.heap.size, 1, none⟩ = some (.int .i64 R) := by rw [hW2]; clear d0 d1 d2; go_simp
    have u2 : W2.cell? ⟨w2.heap.size, 2, none⟩ = some (.int .i64 D) := by rw [hW2]; clear d0 d1 d2; go_simp
    have e0 := d0 (.cells #[.int .i64 i, .int .i64 R, .int .i64 D] 26)
    have e1 := d1 (.cells #[.int .i64 i, .int .i64 R, .int .i64 D] 26)
    have e2 := d2 (.cells #[.int .i64 i, .int .i64 R, .int .i64 D] 26)
    have HB3 := Aside0.mk (below_alloc HB2.out (.cells #[.int .i64 i, .int .i64 R, .int .i64 D] 26))
    rw [← hW2] at e0 e1 e2 HB3
    rw [← hW2]
    clear hW2 d0 d1 d2
    generalize w2.heap.size = ba at *
    refine (ontimeref45_Valid.calls c p _ W2 HRV.out).mono ?_
    rintro e w3 ⟨rfl, ⟨nd, rfl⟩⟩
    go_wp2_with fail
    refine (pfair_Heavy.calls 2 nm c p Y _ HHV.out).mono ?_
    rintro e w3 ⟨rfl, hb⟩
    have c0 : w3.cell? ⟨w.heap.size, 0, none⟩ = some (.string nm) := pw_cell_below hb (by simpa using e0)
    have c1 : w3.cell? ⟨w.heap.size, 1, none⟩ = some (.int .i64 c) := pw_cell_below hb (by simpa using e1)
    have c2 : w3.cell? ⟨w.heap.size, 2, none⟩ = some (.int .i64 p) := pw_cell_below hb (by simpa using e2)
    have c3 : w3.cell? ⟨ba, 0, none⟩ = some (.int .i64 i) := pw_cell_below hb (by simpa using u0)
    have c4 : w3.cell? ⟨ba, 1, none⟩ = some (.int .i64 R) := pw_cell_below hb (by simpa using u1)
    have c5 : w3.cell? ⟨ba, 2, none⟩ = some (.int .i64 D) := pw_cell_below hb (by simpa using u2)
    have HB4 := Aside0.mk (below_step (pw_below_drewN HB3.out nd) hb)
    clear hb e0 e1 e2 u0 u1 u2
    go_wp2_with fail
    refine (ontimeref45_Heavy.calls c p Y w3 HRH.out).mono ?_
    rintro e w' ⟨rfl, ⟨nd2, rfl⟩⟩
    go_wp2_with fail
    refine (ontimeref45_Window.calls c p i R D _ HRW.out).mono ?_
    rintro e w' ⟨rfl, ⟨nd3, rfl⟩⟩
    go_wp2
    obtain ⟨W3, hW3⟩ : ∃ W3, W3 = w3.drewN (nd2 + nd3) := ⟨_, rfl⟩
    have f0 : W3.cell? ⟨w.heap.size, 0, none⟩ = some (.string nm) := by rw [hW3]; simpa using c0
    have f1 : W3.cell? ⟨w.heap.size, 1, none⟩ = some (.int .i64 c) := by rw [hW3]; simpa using c1
    have f2 : W3.cell? ⟨w.heap.size, 2, none⟩ = some (.int .i64 p) := by rw [hW3]; simpa using c2
    have f3 : W3.cell? ⟨ba, 0, none⟩ = some (.int .i64 i) := by rw [hW3]; simpa using c3
    have f4 : W3.cell? ⟨ba, 1, none⟩ = some (.int .i64 R) := by rw [hW3]; simpa using c4
    have f5 : W3.cell? ⟨ba, 2, none⟩ = some (.int .i64 D) := by rw [hW3]; simpa using c5
    have HB5 := pw_below_drewN HB4.out (nd2 + nd3)
    rw [← hW3] at HB5
    rw [← hW3]
    clear hW3 c0 c1 c2 c3 c4 c5
    go_region_held3 (fun W => W.cell? ⟨w.heap.size, 0, none⟩ = some (.string nm) ∧ W.cell? ⟨w.heap.size, 1, none⟩ = some (.int .i64 c) ∧ W.cell? ⟨w.heap.size, 2, none⟩ = some (.int .i64 p) ∧ W.cell? ⟨ba, 0, none⟩ = some (.int .i64 i) ∧ W.cell? ⟨ba, 1, none⟩ = some (.int .i64 R) ∧ W.cell? ⟨ba, 2, none⟩ = some (.int .i64 D))
      (first | go_keep | (refine ⟨?_, ?_, ?_, ?_, ?_, ?_⟩ <;> (refine pw_cell_below hb ?_) <;> first | assumption | go_keep))
      (first
        | (go_at_call 16; (with_reducible refine (pfair_Overlaps.calls 2 nm c p i O _ HOV.out).mono ?_); rintro e w' ⟨rfl, hb⟩; have HB6 := Aside0.mk (below_step (below_drew HB5) hb))
        | (go_at_call 19; (with_reducible refine (ontimeref45_Overlaps.calls c p i O _ HRO.out).mono ?_); rintro e w' ⟨rfl, ⟨nd4, rfl⟩⟩))
    all_goals go_wp2
    all_goals
      obtain ⟨W4, hW4⟩ : ∃ W4, W4 = w'.drewN nd4 := ⟨_, rfl⟩
      have HB7 := pw_below_drewN HB6.out nd4
      have hS : (w'.drewN nd4).cell? ⟨w.heap.size, 0, none⟩ = some (.string nm) ∧ (w'.drewN nd4).cell? ⟨w.heap.size, 1, none⟩ = some (.int .i64 c) ∧ (w'.drewN nd4).cell? ⟨w.heap.size, 2, none⟩ = some (.int .i64 p) ∧ (w'.drewN nd4).cell? ⟨ba, 0, none⟩ = some (.int .i64 i) ∧ (w'.drewN nd4).cell? ⟨ba, 1, none⟩ = some (.int .i64 R) ∧ (w'.drewN nd4).cell? ⟨ba, 2, none⟩ = some (.int .i64 D) := by assumption
      rw [← hW4] at HB7 hS
      rw [← hW4]
      clear f0 f1 f2 f3 f4 f5 hW4
      obtain ⟨f0, f1, f2, _, _, _⟩ := hS
      go_quiet (fail)
      go_wp2
      go_ret
      exact ⟨by first | rfl | (simp; done), by first | exact pw_below_drewN HB7 _ | exact below_drew HB7⟩

set_option maxHeartbeats 4000000 in
set_option maxRecDepth 100000 in
/-- The task is valid, and the index in range. -/
theorem pw_good_near (nm : ByteArray) (c p i : Int) (w : World) (hv : pf_vld c p = true) (h1 : 1 ≤ i) (h2 : i ≤ c) (hg : decide (120 < p) = false) :
    Calls Try.prog 3 #[.agg #[.string nm, .int .i64 c, .int .i64 p], .int .i64 i] w fun e w' => e = .returned (.bool true) ∧ Below w.heap.size w w' := by
  have hu23 := Try.underlying23
  have hu26 := Try.underlying26
  have HA := Aside0.mk (Plain.awake_eval 0)
  have HW := Aside0.mk (pf_window_eval nm c p i 0 hv h1 h2)
  have HRW := Aside0.mk (Plain.ref_window_eval c p i hv h1 h2)
  have hov := pf_overlaps_eval nm c p i 0
  rw [hv, decide_eq_true (show 1 ≤ i ∧ i ≤ c from ⟨h1, h2⟩), Bool.true_and, Bool.true_and] at hov
  have HOV := Aside0.mk hov
  have HRO := Aside0.mk (Plain.ref_overlaps_eval c p i hv h1 h2)
  have HGR := Aside0.mk (show pfair_Group.f nm c p i = some (pf_group c p i) from rfl)
  obtain ⟨K, hK⟩ := (Plain.ref_group_any c p i hv h1 h2).rounds
  have HRG := Aside0.mk hK
  have HHV := Aside0.mk (pf_heavy_eval nm c p 0)
  have HRH := Aside0.mk (Plain.ref_heavy_eval c p hv)
  have hrv := Plain.ref_valid_eval c p
  rw [hv] at hrv
  have HRV := Aside0.mk hrv
  clear hv hov hK hrv
  have HB0 := Aside0.mk (below_alloc (Below.refl w.heap.size w) (.cells #[.string nm, .int .i64 c, .int .i64 p] 23))
  generalize pf_heavy c p = Y at *
  generalize pf_rel c p i = R at *
  generalize pf_dl c p i = D at *
  generalize pf_ov c p i = O at *
  generalize pf_group c p i = G at *
  ·
    go_enter Try.func3, Try.ntmps3
    go_wp2_with fail
    refine (ontimelaw45_awake.calls 2 true _ HA.out).mono ?_
    rintro e w1 ⟨rfl, hb⟩
    have c0 : w1.cell? ⟨w.heap.size, 0, none⟩ = some (.string nm) := pw_cell_below hb (by go_simp)
    have c1 : w1.cell? ⟨w.heap.size, 1, none⟩ = some (.int .i64 c) := pw_cell_below hb (by go_simp)
    have c2 : w1.cell? ⟨w.heap.size, 2, none⟩ = some (.int .i64 p) := pw_cell_below hb (by go_simp)
    have HB1 := Aside0.mk (below_step HB0.out hb)
    clear hb
    go_wp2_with fail
    refine (pfair_Window.calls 2 nm c p i _ _ _ _ _ HW.out).mono ?_
    rintro e w2 ⟨rfl, hb⟩
    have HB2 := Aside0.mk (below_step HB1.out hb)
    have d0 := fun o => pw_cell_below (below_alloc hb o) c0
    have d1 := fun o => pw_cell_below (below_alloc hb o) c1
    have d2 := fun o => pw_cell_below (below_alloc hb o) c2
    clear hb c0 c1 c2
    go_wp2_with fail
    obtain ⟨W2, hW2⟩ : ∃ W2, W2 = w2.alloc (.cells #[.int .i64 i, .int .i64 R, .int .i64 D] 26) := ⟨_, rfl⟩
    have u0 : W2.cell? ⟨w2.heap.size, 0, none⟩ = some (.int .i64 i) := by rw [hW2]; clear d0 d1 d2; go_simp
    have u1 : W2.cell? ⟨w2.heap.size, 1, none⟩ = some (.int .i64 R) := by rw [hW2]; clear d0 d1 d2; go_simp
    have u2 : W2.cell? ⟨w2.heap.size, 2, none⟩ = some (.int .i64 D) := by rw [hW2]; clear d0 d1 d2; go_simp
    have e0 := d0 (.cells #[.int .i64 i, .int .i64 R, .int .i64 D] 26)
    have e1 := d1 (.cells #[.int .i64 i, .int .i64 R, .int .i64 D] 26)
    have e2 := d2 (.cells #[.int .i64 i, .int .i64 R, .int .i64 D] 26)
    have HB3 := Aside0.mk (below_alloc HB2.out (.cells #[.int .i64 i, .int .i64 R, .int .i64 D] 26))
    rw [← hW2] at e0 e1 e2 HB3
    rw [← hW2]
    clear hW2 d0 d1 d2
    generalize w2.heap.size = ba at *
    refine (ontimeref45_Valid.calls c p _ W2 HRV.out).mono ?_
    rintro e w3 ⟨rfl, ⟨nd, rfl⟩⟩
    go_wp2_with fail
    refine (pfair_Heavy.calls 2 nm c p Y _ HHV.out).mono ?_
    rintro e w3 ⟨rfl, hb⟩
    have c0 : w3.cell? ⟨w.heap.size, 0, none⟩ = some (.string nm) := pw_cell_below hb (by simpa using e0)
    have c1 : w3.cell? ⟨w.heap.size, 1, none⟩ = some (.int .i64 c) := pw_cell_below hb (by simpa using e1)
    have c2 : w3.cell? ⟨w.heap.size, 2, none⟩ = some (.int .i64 p) := pw_cell_below hb (by simpa using e2)
    have c3 : w3.cell? ⟨ba, 0, none⟩ = some (.int .i64 i) := pw_cell_below hb (by simpa using u0)
    have c4 : w3.cell? ⟨ba, 1, none⟩ = some (.int .i64 R) := pw_cell_below hb (by simpa using u1)
    have c5 : w3.cell? ⟨ba, 2, none⟩ = some (.int .i64 D) := pw_cell_below hb (by simpa using u2)
    have HB4 := Aside0.mk (below_step (pw_below_drewN HB3.out nd) hb)
    clear hb e0 e1 e2 u0 u1 u2
    go_wp2_with fail
    refine (ontimeref45_Heavy.calls c p Y w3 HRH.out).mono ?_
    rintro e w' ⟨rfl, ⟨nd2, rfl⟩⟩
    go_wp2_with fail
    refine (ontimeref45_Window.calls c p i R D _ HRW.out).mono ?_
    rintro e w' ⟨rfl, ⟨nd3, rfl⟩⟩
    go_wp2
    obtain ⟨W3, hW3⟩ : ∃ W3, W3 = w3.drewN (nd2 + nd3) := ⟨_, rfl⟩
    have f0 : W3.cell? ⟨w.heap.size, 0, none⟩ = some (.string nm) := by rw [hW3]; simpa using c0
    have f1 : W3.cell? ⟨w.heap.size, 1, none⟩ = some (.int .i64 c) := by rw [hW3]; simpa using c1
    have f2 : W3.cell? ⟨w.heap.size, 2, none⟩ = some (.int .i64 p) := by rw [hW3]; simpa using c2
    have f3 : W3.cell? ⟨ba, 0, none⟩ = some (.int .i64 i) := by rw [hW3]; simpa using c3
    have f4 : W3.cell? ⟨ba, 1, none⟩ = some (.int .i64 R) := by rw [hW3]; simpa using c4
    have f5 : W3.cell? ⟨ba, 2, none⟩ = some (.int .i64 D) := by rw [hW3]; simpa using c5
    have HB5 := pw_below_drewN HB4.out (nd2 + nd3)
    rw [← hW3] at HB5
    rw [← hW3]
    clear hW3 c0 c1 c2 c3 c4 c5
    go_region_held3 (fun W => W.cell? ⟨w.heap.size, 0, none⟩ = some (.string nm) ∧ W.cell? ⟨w.heap.size, 1, none⟩ = some (.int .i64 c) ∧ W.cell? ⟨w.heap.size, 2, none⟩ = some (.int .i64 p) ∧ W.cell? ⟨ba, 0, none⟩ = some (.int .i64 i) ∧ W.cell? ⟨ba, 1, none⟩ = some (.int .i64 R) ∧ W.cell? ⟨ba, 2, none⟩ = some (.int .i64 D))
      (first | go_keep | (refine ⟨?_, ?_, ?_, ?_, ?_, ?_⟩ <;> (refine pw_cell_below hb ?_) <;> first | assumption | go_keep))
      (first
        | (go_at_call 16; (with_reducible refine (pfair_Overlaps.calls 2 nm c p i O _ HOV.out).mono ?_); rintro e w' ⟨rfl, hb⟩; have HB6 := Aside0.mk (below_step (below_drew HB5) hb))
        | (go_at_call 19; (with_reducible refine (ontimeref45_Overlaps.calls c p i O _ HRO.out).mono ?_); rintro e w' ⟨rfl, ⟨nd4, rfl⟩⟩))
    all_goals go_wp2
    all_goals
      obtain ⟨W4, hW4⟩ : ∃ W4, W4 = w'.drewN nd4 := ⟨_, rfl⟩
      have HB7 := pw_below_drewN HB6.out nd4
      have hS : (w'.drewN nd4).cell? ⟨w.heap.size, 0, none⟩ = some (.string nm) ∧ (w'.drewN nd4).cell? ⟨w.heap.size, 1, none⟩ = some (.int .i64 c) ∧ (w'.drewN nd4).cell? ⟨w.heap.size, 2, none⟩ = some (.int .i64 p) ∧ (w'.drewN nd4).cell? ⟨ba, 0, none⟩ = some (.int .i64 i) ∧ (w'.drewN nd4).cell? ⟨ba, 1, none⟩ = some (.int .i64 R) ∧ (w'.drewN nd4).cell? ⟨ba, 2, none⟩ = some (.int .i64 D) := by assumption
      rw [← hW4] at HB7 hS
      rw [← hW4]
      clear f0 f1 f2 f3 f4 f5 hW4
      obtain ⟨f0, f1, f2, _, _, _⟩ := hS
      go_region_held3 (fun W => W.cell? ⟨w.heap.size, 0, none⟩ = some (.string nm) ∧ W.cell? ⟨w.heap.size, 1, none⟩ = some (.int .i64 c) ∧ W.cell? ⟨w.heap.size, 2, none⟩ = some (.int .i64 p))
        (first | go_keep | (refine ⟨?_, ?_, ?_⟩ <;> (refine pw_cell_below hb ?_) <;> first | assumption | go_keep))
        (first
          | (go_at_call 17; (with_reducible refine (pfair_Group.calls nm c p i G _ HGR.out).mono ?_); rintro e w' ⟨rfl, hb⟩; have HB8 := Aside0.mk (below_step (below_drew HB7) hb))
          | (go_at_call 20; (with_reducible refine (ontimeref45_Group.calls K c p i G _ HRG.out).mono ?_); rintro e w' ⟨rfl, ⟨nd5, rfl⟩⟩))
      all_goals go_wp2
      all_goals go_ret
      all_goals exact ⟨by first | rfl | (simp; done), by first | exact pw_below_drewN HB8.out _ | exact HB8.out⟩

theorem ontimelaw45_PfairWindow.calls (a0_0 : ByteArray) (a0_1 : Int) (a0_2 : Int) (a1 : Int) (r : Bool) (w : World) (h : ontimelaw45_PfairWindow.f a0_0 a0_1 a0_2 a1 = some r) :
    Calls Try.prog 3 #[.agg #[.string a0_0, .int .i64 a0_1, .int .i64 a0_2], .int .i64 a1] w fun e w' => e = .returned (.bool r) ∧ Below w.heap.size w w' := by
  obtain rfl := Option.some.inj h
  cases hv : pf_vld a0_1 a0_2
  · exact pw_invalid a0_0 a0_1 a0_2 a1 w hv rfl
  · cases hg : decide (1 ≤ a1 ∧ a1 ≤ a0_1)
    · exact pw_range a0_0 a0_1 a0_2 a1 w hv hg _ rfl _ rfl
    · have := of_decide_eq_true hg
      cases hd : decide (120 < a0_2)
      · exact pw_good_near a0_0 a0_1 a0_2 a1 w hv this.1 this.2 hd
      · exact pw_good_far a0_0 a0_1 a0_2 a1 w hv this.1 this.2 hd

end Go.Proofs.Ytbjhkcfgahbipaa.P
