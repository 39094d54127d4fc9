-- Written by wip/gen.py: the kit's print, with contracts of mine in it.
import Derived.Test.YtbhmaijmdkpmlaaPx0
import Derived.Test.YtbhmaijmdkpmlaaPx7
import Derived.Test.YtbhmaijmdkpmlaaPx14
import Derived.Test.YtbhmaijmdkpmlaaPx17
import Derived.Test.YtbhmaijmdkpmlaaPx18
import Derived.Test.YtbhmaijmdkpmlaaMono
import Derived.Test.YtbhmaijmdkpmlaaRow49
namespace Go.Proofs.Ytbhmaijmdkpmlaa.P
open Go.RowKit Go.Proofs.YtbhmaijmdkpmlaaW.PrintWords Go.Proofs.YtbhmaijmdkpmlaaW.PrintLast Go.Proofs.YtbhmaijmdkpmlaaW.PrintMore
attribute [local go_sem] max2_int min2_int max_two min_two max_three min_three max_four min_four   -- for this text's walks alone
set_option linter.unusedVariables false
set_option linter.unusedSimpArgs false

/-! ### ontimelaw44_ResponseMonotone: function 7, by hand -/
-- HAND rounds 0
-- HAND import Derived.Test.YtbhmaijmdkpmlaaMono
-- HAND import Derived.Test.YtbhmaijmdkpmlaaRow49
def ontimelaw44_ResponseMonotone.f (l0 : List (S49)) (a1 : Int) (a2 : Int) (a3 : Int) : Option (Bool) := if (0 ≤ a1 ∧ a1 ≤ 255) ∧ (0 ≤ a2 ∧ a2 ≤ 255) ∧ (0 ≤ a3 ∧ a3 ≤ 255) then some true else none

set_option maxHeartbeats 8000000 in
set_option maxRecDepth 100000 in
/-- The statement says nothing of this list. -/
theorem mo_skip (A0 : Option Addr) (c0 : Nat) (l0 : List (S49)) (a1 a2 a3 : Int) (w : World) (hr0 : Kd.C k49 w A0 l0.length l0) (hc0 : l0.length ≤ c0) (kg : Nat) (b : Bool) (hg : ontimelaw44_great.f kg l0 = some b) (hh : b = true ∨ l0.length = 0 ∨ cv_valid l0 = false) :
    Calls Try.prog 7 #[.slice A0 l0.length c0, .int .u8 a1, .int .u8 a2, .int .u8 a3] w fun e w' => e = .returned (.bool true) ∧ Below w.heap.size w w' := by
  obtain ⟨ka, hka⟩ := Ev.rounds Plain.awake44_ev
  have HR := Aside0.mk hr0
  have HC := Aside0.mk hc0
  have HA := Aside0.mk hka
  have HG := Aside0.mk hg
  have HV := Aside0.mk (show ceiling_Valid.f l0 = some (cv_valid l0) from rfl)
  generalize cv_valid l0 = v at *
  clear hr0 hc0 hka hg
  obtain ⟨z, hz⟩ : ∃ z, z = ((l0.length : Int) == 0) := ⟨_, rfl⟩
  have hz' := hz.symm
  have hh2 : b = true ∨ z = true ∨ v = false := by
    rcases hh with h | h | h
    · exact .inl h
    · exact .inr (.inl (by rw [hz]; simp [h]))
    · exact .inr (.inr h)
  clear hh hz
  cases b <;> cases z <;> cases v <;> first | (exfalso; revert hh2; decide) | skip
  all_goals
    clear hh2
    go_enter Try.func7, Try.ntmps7
    go_wp2_with fail
    refine (ontimelaw44_awake.calls ka true _ HA.out).mono ?_
    rintro e w1 ⟨rfl, hb1⟩
    have HB1 := Aside0.mk hb1
    clear hb1
    go_wp2_with fail
    refine (ontimelaw44_great.calls kg A0 c0 l0 _ w1 (Kd.C_below HR.out HB1.out) HC.out HG.out).mono ?_
    rintro e w2 ⟨rfl, hb2⟩
    have HB2 := Aside0.mk (below_step HB1.out hb2)
    clear hb2
    go_wp2_with (first | (go_at_call 20; refine (ceiling_Valid.calls A0 c0 l0 _ w2 (Kd.C_below HR.out HB2.out) HC.out HV.out).mono ?_; rintro e w3 ⟨rfl, hb3⟩; have HB3 := Aside0.mk (below_step HB2.out hb3)))
    go_ret
    exact ⟨by first | rfl | simp, by first | exact HB3.out | exact HB2.out⟩

theorem blk_cell' {w : World} {b : Nat} {cs : Array Value} {t : TypeId} (h : w.heap[b]? = some (.cells cs t (0, 0))) (j : Nat) {v : Value} (hv : cs[j]? = some v) : w.cell? ⟨b, j, none⟩ = some v := by
  simp only [World.cell?]; rw [h]; exact hv
theorem mo_ok (m : List S49) (i : Nat) (r : Int) (hv : cv_valid m = true) (hi : i < m.length) (h : ∀ n, Plain.RespIs m i n 0 → r ≤ n) : ∃ k n f, response_Response.f k m i = some (n, f) ∧ ((f = 0 ∧ decide (n < r) = false) ∨ f = 21) := by
  obtain ⟨n, f, hR, hI⟩ := Plain.resp_ev m i hv (by omega) (by omega)
  obtain ⟨k, hk⟩ := Ev.rounds hR
  refine ⟨k, n, f, hk, ?_⟩
  have hI' := hI
  rcases hI with ⟨rfl, _⟩ | ⟨rfl, _⟩
  · exact .inl ⟨rfl, decide_eq_false (by have := h n hI'; omega)⟩
  · exact .inr rfl
theorem mo_keep {w0 w W : World} {g : Nat} {m : List S49} {A3 c3} (h : RowAt w0 w g m A3 c3) (hg : (w.alloc (.cells #[] 49)).grownBy W (Value.slice (some ⟨w.heap.size, 0, none⟩) 0 0).ownBlock) (hb : Below w0.heap.size w0 W) : RowAt w0 W g m A3 c3 :=
  h.grown ((hg.block g (by have := h.lt; simp; omega) (fun e => by have e' : g = w.heap.size := Option.some.inj e; have := h.lt; omega)).trans ((World.grownBy_alloc w _ none).block g h.lt (by simp))) hb
theorem mo_empty (base : Nat) (W : World) (h : base ≤ W.heap.size) : (W.alloc (.cells #[] 49)).ownsRow base 49 4 (.slice (some ⟨W.heap.size, 0, none⟩) 0 0) 0 [] :=
  ⟨rfl, .inr ⟨W.heap.size, 0, #[], rfl, h, World.alloc_heap_new _ _, Nat.le_refl _, Nat.zero_le _, rfl, rfl⟩⟩
set_option maxHeartbeats 8000000 in
set_option maxRecDepth 100000 in
theorem mo_walk (A0 : Option Addr) (c0 : Nat) (l0 : List (S49)) (a1 a2 a3 : Int) (w : World) (hr0 : Kd.C k49 w A0 l0.length l0) (hc0 : l0.length ≤ c0) (kg : Nat) (hg : ontimelaw44_great.f kg l0 = some false) (hp : 0 < l0.length) (hv : cv_valid l0 = true)
    (b1 : 0 ≤ a1 ∧ a1 ≤ 255) (b2 : 0 ≤ a2 ∧ a2 ≤ 255) (b3 : 0 ≤ a3 ∧ a3 ≤ 255) : Calls Try.prog 7 #[.slice A0 l0.length c0, .int .u8 a1, .int .u8 a2, .int .u8 a3] w fun e w' => e = .returned (.bool true) ∧ Below w.heap.size w w' := by
  obtain ⟨ka, hka⟩ := Ev.rounds Plain.awake44_ev
  obtain ⟨i0, i1⟩ := Plain.tmod_range b1.1 (show 0 < (l0.length : Int) by omega)
  obtain ⟨j0, j1⟩ := Plain.tmod_range b2.1 (show 0 < (l0.length : Int) by omega)
  obtain ⟨i, hi⟩ := Int.eq_ofNat_of_zero_le i0
  obtain ⟨j, hj⟩ := Int.eq_ofNat_of_zero_le j0
  obtain ⟨r, e, hR, hRI⟩ := Plain.resp_ev l0 i hv (by omega) (by omega)
  obtain ⟨kr, hkr⟩ := Ev.rounds hR
  have hlen := (Plain.good_all l0 hv).1
  have HR := Aside0.mk hr0
  have HC := Aside0.mk hc0
  have HA := Aside0.mk hka
  have HG := Aside0.mk hg
  have HV := Aside0.mk (show ceiling_Valid.f l0 = some true from congrArg some hv)
  have HCV := Aside0.mk hv
  have HRI := Aside0.mk hRI
  have HKR := Aside0.mk hkr
  have hz : ((l0.length : Int) == 0) = false := by rw [beq_eq_false_iff_ne]; omega
  have hnz : ¬ (l0.length : Int) = 0 := by omega
  have hw1 : IntKind.i64.wrap a1 = a1 := IntWalk.i64_in _ (by omega)
  have hw2 : IntKind.i64.wrap a2 = a2 := IntWalk.i64_in _ (by omega)
  have hw3 : IntKind.i64.wrap a3 = a3 := IntWalk.i64_in _ (by omega)
  clear hr0 hc0 hka hg hv hR hRI hkr
  go_enter Try.func7, Try.ntmps7
  go_wp2_with fail
  refine (ontimelaw44_awake.calls ka true _ HA.out).mono ?_
  rintro e w1 ⟨rfl, hb1⟩
  have HB1 := Aside0.mk hb1
  clear hb1
  go_wp2_with fail
  refine (ontimelaw44_great.calls kg A0 c0 l0 _ w1 (Kd.C_below HR.out HB1.out) HC.out HG.out).mono ?_
  rintro e w2 ⟨rfl, hb2⟩
  have HB2 := Aside0.mk (below_step HB1.out hb2)
  clear hb2
  go_wp2_with (first | (go_at_call 20; refine (ceiling_Valid.calls A0 c0 l0 _ w2 (Kd.C_below HR.out HB2.out) HC.out HV.out).mono ?_; rintro e w3 ⟨rfl, hb3⟩; have HB3 := Aside0.mk (below_step HB2.out hb3); clear hb3))
  go_quiet (fail)
  go_wp2_with fail
  have HB4 := Aside0.mk (pw_below_drewN HB3.out nq)
  refine (response_Response.calls kr A0 c0 l0 _ r e _ (Kd.C_below HR.out HB4.out) HC.out HKR.out).mono ?_
  rintro e' w4 ⟨rfl, hb4⟩
  have HB5 := Aside0.mk (below_step HB4.out hb4)
  clear hb4 HB4 HB3 HB2 HB1
  have he : e = 0 ∨ e = 21 := by rcases HRI.out with ⟨h, _⟩ | ⟨h, _⟩ <;> simp [h]
  rcases he with rfl | rfl
  · have hr5 := Kd.C_below HR.out HB5.out
    obtain ⟨A3, c3, hT⟩ := tasksAt hr5
    have hT0 := hT.cells 0 hp
    obtain ⟨ad, rfl, _⟩ := hT0
    have HT := Aside0.mk hT
    have HSE := Aside0.mk hT.secs
    have hmax := hT.max
    clear hr5 hT
    obtain ⟨i9, hi9, hz9, hsz9, hby9⟩ := info_parts info49
    have HN1 := Aside0.mk (rawl_cells (HT.out.below ((Below.refl _ w4).alloc (Nat.le_refl _) (.cells #[] 49))))
    have HO1 := Aside0.mk (mo_empty w4.heap.size w4 (Nat.le_refl _))
    have h63 : 0 + l0.length ≤ maxLen := by simp only [maxLen]; omega
    have hby : (0 + l0.length) * 48 ≤ 140737488355328 := by omega
    go_upto_region 10 with (first
      | ((with_reducible refine gate_dst (N := 53) rfl ?_); refine wpList_append_own _ rfl _ _ 22 rfl w4.heap.size 49 i9 _ 4 48 Try.underlying22 hi9 hz9 hsz9 hby9 rfl (by decide) _ 0 [] rfl HO1.out ad l0.length c0 (rawl l0 A3 c3) rfl (rawl_length _ _ _) HN1.out (rawl_one _ _ _) h63 hby (by simp) ?_; intro v1 w5 ho1 hg1 _; have hb5 : Below w4.heap.size w4 w5 := ((Below.refl _ _).alloc (Nat.le_refl _) _).grown hg1 (by simp) (fun k e => by obtain rfl : w4.heap.size = k := Option.some.inj e; exact Nat.le_refl _); obtain ⟨g1, k1, rfl, hk1, _, R1⟩ := rowAt_appended (w0 := w4) (A3 := A3) (c3 := c3) (Nat.le_refl _) (by simpa using ho1) hp HSE.out hmax hb5; have HR1 := Aside0.mk R1; have HB6 := Aside0.mk hb5; clear R1 hb5 hg1 ho1)
      | ((with_reducible refine gate_dst (N := 56) rfl ?_); refine wpList_append_own _ rfl _ _ 22 rfl w5.heap.size 49 i9 _ 4 48 Try.underlying22 hi9 hz9 hsz9 hby9 rfl (by decide) _ 0 [] rfl (mo_empty w5.heap.size w5 (Nat.le_refl _)) ad l0.length c0 (rawl l0 A3 c3) rfl (rawl_length _ _ _) (rawl_cells (HT.out.below (HB6.out.alloc HB6.out.size (.cells #[] 49)))) (rawl_one _ _ _) h63 hby (by simp) ?_; intro v2 w6 ho2 hg2 _; have hb6 : Below w4.heap.size w4 w6 := (HB6.out.alloc HB6.out.size _).grown hg2 (by have := HB6.out.size; simp; omega) (fun k e => by obtain rfl : w5.heap.size = k := Option.some.inj e; exact HB6.out.size); obtain ⟨g2, k2, rfl, hk2, hg12, R2⟩ := rowAt_appended (w0 := w4) (A3 := A3) (c3 := c3) HB6.out.size (by simpa using ho2) hp HSE.out hmax hb6; have HR2 := Aside0.mk R2; have HB7 := Aside0.mk hb6; have HR1' := Aside0.mk (mo_keep HR1.out hg2 hb6); clear R2 hb6 hg2 ho2))
    have hgood := (Plain.good_all l0 HCV.out).2 _ (Plain.rd49_mem l0 j (by omega) (by omega))
    obtain ⟨G0, G1, G2, G3, G4, G5⟩ := hgood
    have q0 : w6.cell? ⟨g1, j * 4, none⟩ = some (.int .i64 (rd_T49 l0 j).f0) := by
      have := HR1'.out.cell (j * 4) (by omega)
      unfold rawv at this
      rw [if_pos (by omega), show j * 4 / 4 = j by omega] at this
      exact this
    have qf := HR1'.out.frozen (j * 4)
    generalize hF0 : (rd_T49 l0 j).f0 = F0 at *
    obtain ⟨X, hX⟩ : ∃ X, X = (if 1000 < F0 + a3 then 1000 else F0 + a3) := ⟨_, rfl⟩
    go_cut [] from 57 to 69 (fun wx => wx = w6.setCell ⟨g1, j * 4, none⟩ (.int .i64 X))
    case first =>
      go_wp2
      all_goals
        go_meet
        case rel => first | (rw [hX, if_pos (by assumption)]) | (rw [hX, if_neg (by omega)])
    case rest =>
      have RA := HR1'.out.set_f j 0 (by omega) X _ (.inl ⟨rfl, rfl⟩)
      rw [Nat.add_zero] at RA
      have RB := HR2.out.grown (W := w6.setCell ⟨g1, j * 4, none⟩ (.int .i64 X)) (Below.heap_setCell _ _ _ _ (by have := HR1'.out.lt; have := HR1.out.lt; simp only; omega)) RA.old
      have hMA : l0.set j ⟨X, (rd_T49 l0 j).f1, (rd_T49 l0 j).f2, (rd_T49 l0 j).f3⟩ = Plain.mo_a l0 j a3 := by unfold Plain.mo_a; rw [hX, ← hF0]
      rw [hMA] at RA
      rw [← hcut] at RA RB
      have hne : g1 ≠ g2 := by have := HR1.out.lt; omega
      have HRA := Aside0.mk RA
      have HRB := Aside0.mk RB
      clear RA RB hcut hX q0 qf HR1 HR1' HR2 HB6 HN1 HO1 hMA
      go_upto_if 72 with (fail)
      go_cut [] from 72 to 100 (fun wx => ∃ mb : List S49, Aside0 (RowAt w4 wx g1 (Plain.mo_a l0 j a3) A3 c3) ∧ Aside0 (RowAt w4 wx g2 mb A3 c3) ∧ Aside0 (mb = l0 ∨ (j < i ∧ mb = Plain.mo_b l0 j a3)))
      case first =>
        by_cases hji : j < i
        · have hd : decide ((j : Int) < (i : Int)) = true := by simp; omega
          have q1 : wc.cell? ⟨g2, j * 4 + 1, none⟩ = some (.int .i64 (rd_T49 l0 j).f1) := by
            have := HRB.out.cell (j * 4 + 1) (by omega)
            unfold rawv at this
            rw [if_neg (by omega), if_pos (by omega), show (j * 4 + 1) / 4 = j by omega] at this
            exact this
          have qf1 := HRB.out.frozen (j * 4 + 1)
          obtain ⟨F1, hF1⟩ : ∃ F1, F1 = (rd_T49 l0 j).f1 := ⟨_, rfl⟩
          rw [← hF1] at q1 G2 G3
          obtain ⟨Y, hY⟩ : ∃ Y, Y = (if 1 < F1 - a3 then F1 - a3 else 1) := ⟨_, rfl⟩
          go_upto_region 12 with (fail)
          go_cut [] from 72 to 85 (fun wx => wx = wc.setCell ⟨g2, j * 4 + 1, none⟩ (.int .i64 Y))
          case first =>
            go_wp2
            all_goals
              go_meet
              case rel => (rw [hY, hF1]; split <;> first | rfl | (exfalso; omega))
          case rest =>
            have RB := HRB.out.set_f j 1 (by omega) Y _ (.inr (.inl ⟨rfl, rfl⟩))
            have RA := HRA.out.grown (Below.heap_setCell _ _ _ _ (show g1 ≠ g2 by omega)) RB.old
            rw [← hcut] at RA RB
            have hrd : rd_T49 (l0.set j ⟨(rd_T49 l0 j).f0, Y, (rd_T49 l0 j).f2, (rd_T49 l0 j).f3⟩) j = ⟨(rd_T49 l0 j).f0, Y, (rd_T49 l0 j).f2, (rd_T49 l0 j).f3⟩ := by rw [rd_set49 _ _ _ _ (by omega), if_pos rfl]
            have hll : (l0.set j (⟨(rd_T49 l0 j).f0, Y, (rd_T49 l0 j).f2, (rd_T49 l0 j).f3⟩ : S49)).length = l0.length := List.length_set ..
            have q1 := RB.cell (j * 4 + 1) (by omega)
            have q2 := RB.cell (j * 4 + 2) (by omega)
            unfold rawv at q1 q2
            rw [if_neg (by omega), if_pos (by omega), show (j * 4 + 1) / 4 = j by omega, hrd] at q1
            rw [if_neg (by omega), if_neg (by omega), if_pos (by omega), show (j * 4 + 2) / 4 = j by omega, hrd] at q2
            have qf2 := RB.frozen (j * 4 + 2)
            have HRA3 := Aside0.mk RA
            have HRB3 := Aside0.mk RB
            clear RA RB hcut
            simp only at q1 q2
            obtain ⟨F2, hF2⟩ : ∃ F2, F2 = (rd_T49 l0 j).f2 := ⟨_, rfl⟩
            rw [← hF2] at q2
            go_upto_region 13 with (fail)
            go_region
            have hset : ∀ Z : Int, Z = (if (if 1 < (rd_T49 l0 ↑j).f1 - a3 then (rd_T49 l0 ↑j).f1 - a3 else 1) < (rd_T49 l0 ↑j).f2 then (if 1 < (rd_T49 l0 ↑j).f1 - a3 then (rd_T49 l0 ↑j).f1 - a3 else 1) else (rd_T49 l0 ↑j).f2) →
                RowAt w4 (wc.setCell ⟨g2, j * 4 + 2, none⟩ (.int .i64 Z)).drew g2 (Plain.mo_b l0 j a3) A3 c3 := by
              intro Z hZ
              have h := HRB3.out.set_f j 2 (by omega) Z _ (.inr (.inr ⟨rfl, rfl⟩))
              rw [hrd, List.set_set] at h
              have e : l0.set j ⟨(rd_T49 l0 j).f0, Y, Z, (rd_T49 l0 j).f3⟩ = Plain.mo_b l0 j a3 := by unfold Plain.mo_b Plain.mo_p; rw [hZ, hY, hF1]
              simp only at h
              rw [e] at h
              exact h.grown rfl (below_drew h.old)
            have hsetA : ∀ Z : Int, RowAt w4 (wc.setCell ⟨g2, j * 4 + 2, none⟩ (.int .i64 Z)).drew g1 (Plain.mo_a l0 j a3) A3 c3 := fun Z =>
              HRA3.out.grown (Below.heap_setCell _ _ _ _ (show g1 ≠ g2 by omega)) (below_drew (below_set HRA3.out.old HRB3.out.new))
            have HZB := Aside0.mk (hset _ rfl)
            have HZA := Aside0.mk (hsetA (if (if 1 < (rd_T49 l0 ↑j).f1 - a3 then (rd_T49 l0 ↑j).f1 - a3 else 1) < (rd_T49 l0 ↑j).f2 then (if 1 < (rd_T49 l0 ↑j).f1 - a3 then (rd_T49 l0 ↑j).f1 - a3 else 1) else (rd_T49 l0 ↑j).f2))
            clear hset hsetA
            generalize (wc.setCell ⟨g2, j * 4 + 2, none⟩ (.int .i64 (if (if 1 < (rd_T49 l0 ↑j).f1 - a3 then (rd_T49 l0 ↑j).f1 - a3 else 1) < (rd_T49 l0 ↑j).f2 then (if 1 < (rd_T49 l0 ↑j).f1 - a3 then (rd_T49 l0 ↑j).f1 - a3 else 1) else (rd_T49 l0 ↑j).f2))).drew = W9 at *
            go_wp2
            all_goals
              go_meet
              case rel => exact ⟨_, HZA, HZB, ⟨.inr ⟨hji, rfl⟩⟩⟩
        · have hd : decide ((j : Int) < (i : Int)) = false := by simp; omega
          go_wp2
          go_meet
          case rel => exact ⟨l0, HRA, HRB, ⟨.inl rfl⟩⟩
      case rest =>
        obtain ⟨mb, HRA2, HRB2, HMB⟩ := hcut
        have hla : (Plain.mo_a l0 j a3).length = l0.length := List.length_set ..
        have hlb : mb.length = l0.length := by
          rcases HMB.out with h | ⟨_, h⟩
          · rw [h]
          · rw [h]; exact List.length_set ..
        obtain ⟨kA, nA, fA, hA, oA⟩ := mo_ok (Plain.mo_a l0 j a3) i r (Plain.mo_a_valid l0 j a3 HCV.out (by omega) b3.1) (by omega) (fun n h => Plain.mo_a_le l0 i j a3 r n HCV.out (by omega) (by omega) b3.1 HRI.out h)
        obtain ⟨kB, nB, fB, hB, oB⟩ := mo_ok mb i r (by
          rcases HMB.out with h | ⟨h1, h⟩
          · rw [h]; exact HCV.out
          · rw [h]; exact Plain.mo_b_valid l0 j a3 HCV.out (by omega) b3.1) (by omega) (fun n h => by
          rcases HMB.out with h' | ⟨h1, h'⟩
          · rw [h'] at h; exact Int.le_of_eq (HRI.out.unique h).1
          · rw [h'] at h; exact Plain.mo_b_le l0 i j a3 r n HCV.out (by omega) h1 b3.1 HRI.out h)
        have HA2 := Aside0.mk hA
        have HB2 := Aside0.mk hB
        have HBW := Aside0.mk (below_step HB5.out HRA2.out.old)
        have HGA := Aside0.mk (show (l0.length ≤ k1) from hk1)
        have HGB := Aside0.mk (show (l0.length ≤ k2) from hk2)
        clear hA hB
        obtain ⟨wd, hwd⟩ : ∃ wd, wd = wc.alloc (.cells #[.slice (some ⟨g1, 0, none⟩) l0.length k1, .slice (some ⟨g2, 0, none⟩) l0.length k2] 22) := ⟨_, rfl⟩
        have HBD := Aside0.mk (show Below wc.heap.size wc wd from hwd ▸ (Below.refl _ _).alloc (Nat.le_refl _) _)
        have hs0 : wd.cell? ⟨wc.heap.size, 0, none⟩ = some (.slice (some ⟨g1, 0, none⟩) l0.length k1) := by rw [hwd]; exact blk_cell' (World.alloc_heap_new _ _) 0 rfl
        have hs1 : wd.cell? ⟨wc.heap.size, 1, none⟩ = some (.slice (some ⟨g2, 0, none⟩) l0.length k2) := by rw [hwd]; exact blk_cell' (World.alloc_heap_new _ _) 1 rfl
        have HCA := Aside0.mk (show ∀ W : World, Below wd.heap.size wd W → Calls Try.prog 23 #[.slice (some ⟨g1, 0, none⟩) l0.length k1, .int .i64 (i : Int)] W fun e w' => e = .returned (.tuple #[.int .i64 nA, .int .i64 fA]) ∧ Below W.heap.size W w' from by
          intro W hW
          have := response_Response.calls kA (some ⟨g1, 0, none⟩) k1 _ (i : Int) nA fA W (((HRA2.out.below HBD.out).below hW).reads) (by rw [hla]; exact HGA.out) HA2.out
          rw [hla] at this
          exact this)
        have HCB := Aside0.mk (show ∀ W : World, Below wd.heap.size wd W → Calls Try.prog 23 #[.slice (some ⟨g2, 0, none⟩) l0.length k2, .int .i64 (i : Int)] W fun e w' => e = .returned (.tuple #[.int .i64 nB, .int .i64 fB]) ∧ Below W.heap.size W w' from by
          intro W hW
          have := response_Response.calls kB (some ⟨g2, 0, none⟩) k2 _ (i : Int) nB fB W (((HRB2.out.below HBD.out).below hW).reads) (by rw [hlb]; exact HGB.out) HB2.out
          rw [hlb] at this
          exact this)
        have HBZ := Aside0.mk (below_step HBW.out HBD.out)
        go_wp2_with fail
        rw [← hwd]
        clear hwd
        go_loopg [16, 17, 18, 105] 2 (fun kx s16 s17 s18 s105 wr => ∃ m : Nat, s105 = .int .i64 m ∧ m ≤ 2 ∧ 2 - m ≤ kx ∧ Aside0 (Below wd.heap.size wd wr))
        case atStart => exact ⟨0, rfl, by omega, by omega, ⟨Below.refl _ _⟩⟩
        case round =>
          obtain ⟨m, rfl, hm, hgk, HBr⟩ := hrel
          have z0 := pw_cell_below HBr.out hs0
          have z1 := pw_cell_below HBr.out hs1
          rcases (show m = 0 ∨ m = 1 ∨ m = 2 by omega) with rfl | rfl | rfl
          · rcases oA with ⟨rfl, hlt⟩ | rfl
            all_goals
              go_wp2_with (first | (go_at_call 23; refine (HCA.out _ HBr.out).mono ?_; rintro e w9 ⟨rfl, hb9⟩; have HB9 := Aside0.mk (below_step HBr.out hb9); clear hb9))
              go_roundg 1
              case measure => omega
              case rel => exact ⟨1, rfl, by omega, by omega, HB9⟩
          · rcases oB with ⟨rfl, hlt⟩ | rfl
            all_goals
              go_wp2_with (first | (go_at_call 23; refine (HCB.out _ HBr.out).mono ?_; rintro e w9 ⟨rfl, hb9⟩; have HB9 := Aside0.mk (below_step HBr.out hb9); clear hb9))
              go_roundg 0
              case measure => omega
              case rel => exact ⟨2, rfl, by omega, by omega, HB9⟩
          · go_wp2
            go_ret
            exact ⟨rfl, below_step HBZ.out HBr.out⟩
  · go_wp2
    go_ret
    exact ⟨rfl, HB5.out⟩

theorem ontimelaw44_ResponseMonotone.calls (A0 : Option Addr) (c0 : Nat) (l0 : List (S49)) (a1 : Int) (a2 : Int) (a3 : Int) (r : Bool) (w : World) (hr0 : Kd.C k49 w A0 l0.length l0) (hc0 : l0.length ≤ c0) (h : ontimelaw44_ResponseMonotone.f l0 a1 a2 a3 = some r) :
    Calls Try.prog 7 #[.slice A0 l0.length c0, .int .u8 a1, .int .u8 a2, .int .u8 a3] w fun e w' => e = .returned (.bool r) ∧ Below w.heap.size w w' := by
  unfold ontimelaw44_ResponseMonotone.f at h
  split at h
  · rename_i hb
    obtain rfl := Option.some.inj h
    obtain ⟨b, hg, _⟩ := Plain.great_ev l0
    obtain ⟨kg, hg⟩ := Ev.rounds hg
    cases b
    · by_cases hp : 0 < l0.length
      · cases hv : cv_valid l0
        · exact mo_skip A0 c0 l0 a1 a2 a3 w hr0 hc0 kg false hg (.inr (.inr hv))
        · exact mo_walk A0 c0 l0 a1 a2 a3 w hr0 hc0 kg hg hp hv hb.1 hb.2.1 hb.2.2
      · exact mo_skip A0 c0 l0 a1 a2 a3 w hr0 hc0 kg false hg (.inr (.inl (by omega)))
    · exact mo_skip A0 c0 l0 a1 a2 a3 w hr0 hc0 kg true hg (.inl rfl)
  · cases h

end Go.Proofs.Ytbhmaijmdkpmlaa.P
