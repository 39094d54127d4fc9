-- Written by wip/gen.py: the kit's print, with contracts of mine in it.
import Derived.Test.YtbhmaijmdkpmlaaPx0
namespace Go.Proofs.Ytbhmaijmdkpmlaa.P
open Go.RowKit Go.Proofs.YtbhmaijmdkpmlaaW.PrintWords Go.Proofs.YtbhmaijmdkpmlaaW.PrintLast Go.Proofs.YtbhmaijmdkpmlaaW.PrintMore
attribute [local go_sem] max2_int min2_int max_two min_two max_three min_three max_four min_four   -- for this text's walks alone
set_option linter.unusedVariables false
set_option linter.unusedSimpArgs false

/-! ### ontimeref44_Interference: function 28 -/
def ontimeref44_Interference.l0 : Nat → List (S93) → Int → Int → Int → Int → Option (Int)
  | 0, _, _, _, _, _ => none
  | k + 1, x0, x1, x2, x7, x8 => if x8 < x1 then (if 0 ≤ x8 then (if x8 < (x0.length : Int) then (if ((rd_T93 x0 x8).f1) = 0 then (none) else (ontimeref44_Interference.l0 k x0 x1 x2 (wrap64 (x7 + (wrap64 ((wrap64 (Int.tdiv (wrap64 ((wrap64 (x2 + ((rd_T93 x0 x8).f1))) - 1)) ((rd_T93 x0 x8).f1))) * ((rd_T93 x0 x8).f0))))) (wrap64 (x8 + 1)))) else (none)) else (none)) else (some x7)
def ontimeref44_Interference.f (k : Nat) (l0 : List (S93)) (a1 : Int) (a2 : Int) : Option (Int) := ontimeref44_Interference.l0 k l0 a1 a2 0 0
theorem ontimeref44_Interference.mono_l : ∀ k, (∀ y0 y1 y2 y3 y4, LeO (ontimeref44_Interference.l0 k y0 y1 y2 y3 y4) (ontimeref44_Interference.l0 (k + 1) y0 y1 y2 y3 y4))
  | 0 => fun _ _ _ _ _ r h => by simp [ontimeref44_Interference.l0] at h
  | k + 1 => by
    have ih0 := ontimeref44_Interference.mono_l k
    · intro y0 y1 y2 y3 y4
      unfold ontimeref44_Interference.l0
      repeat' first
      | (with_reducible exact ih0 _ _ _ _ _)
      | (with_reducible exact LeO.refl _)
      | (with_reducible exact LeO.none _)
      | (with_reducible refine LeO.ite ?_ ?_)
      | (with_reducible refine LeO.bind ?_ (fun _ => ?_))
      | exact ih0 _ _ _ _ _
      | exact LeO.none _
      | refine LeO.ite ?_ ?_
      | refine LeO.bind ?_ (fun _ => ?_)
theorem ontimeref44_Interference.mono : ∀ a0 a1 a2 k, LeO (ontimeref44_Interference.f k a0 a1 a2) (ontimeref44_Interference.f (k + 1) a0 a1 a2) := by
  intro a0 a1 a2 k
  have ih0 := ontimeref44_Interference.mono_l k
  unfold ontimeref44_Interference.f
  repeat' first
      | (with_reducible exact ih0 _ _ _ _ _)
      | (with_reducible exact LeO.refl _)
      | (with_reducible exact LeO.none _)
      | (with_reducible refine LeO.ite ?_ ?_)
      | (with_reducible refine LeO.bind ?_ (fun _ => ?_))
      | exact ih0 _ _ _ _ _
      | exact LeO.none _
      | refine LeO.ite ?_ ?_
      | refine LeO.bind ?_ (fun _ => ?_)
set_option maxHeartbeats 8000000 in
set_option maxRecDepth 100000 in
theorem ontimeref44_Interference.calls (k : Nat) (A0 : Option Addr) (c0 : Nat) (l0 : List (S93)) (a1 : Int) (a2 : Int) (r : Int) (w : World) (hr0 : Kd.C k93 w A0 l0.length l0) (hc0 : l0.length ≤ c0) (h : ontimeref44_Interference.f k l0 a1 a2 = some r) :
    Calls Try.prog 28 #[.slice A0 l0.length c0, .int .i64 a1, .int .i64 a2] w fun e w' => e = .returned (.int .i64 r) ∧ Drawn0 w w' := by
  have HR0 := Aside0.mk hr0
  have HC0 := Aside0.mk hc0
  clear hr0 hc0
  have H : (ontimeref44_Interference.l0 k l0 a1 a2 0 0) = some r := h
  clear h
  have H' := Aside0.mk H
  clear H
  go_enter Try.func28, Try.ntmps28
  go_wp2
  repeat (go_quiet (fail); try go_wp2)
  go_loopg [7, 8] k (fun kq v7 v8 w' => ∃ (x7_1 : Int) (x8_1 : Int), v7 = .int .i64 x7_1 ∧ v8 = .int .i64 x8_1 ∧ Aside0 (ontimeref44_Interference.l0 kq l0 a1 a2 x7_1 x8_1 = some r) ∧ Aside0 (kq ≤ k) ∧ Drawn0 w w')
  case atStart => exact ⟨(0), (0), (by first | rfl | (simp; done) | (simp [*]; done)), (by first | rfl | (simp; done) | (simp [*]; done)), H', ⟨Nat.le_refl _⟩, by repeat (first | exact Drawn0.refl _ | apply Drawn0.step)⟩
  case round =>
    clear H'
    try clear c2
    try clear p2
    obtain ⟨x7_1, x8_1, rfl, rfl, HA, HK1, ⟨m1, rfl⟩⟩ := hrel
    cases gk with
    | zero => exact absurd HA.out (by simp [ontimeref44_Interference.l0])
    | succ k1 =>
      have H := HA.out
      clear HA
      simp only [ontimeref44_Interference.l0] at H
      by_cases c4 : x8_1 < a1
      · rw [if_pos c4] at H
        have c4b0 : decide (x8_1 < a1) = true := decide_eq_true c4
        clear c4
        by_cases c5 : 0 ≤ x8_1
        · rw [if_pos c5] at H
          have c5b0 : decide (0 ≤ x8_1) = true := decide_eq_true c5
          clear c5
          by_cases c6 : x8_1 < (l0.length : Int)
          · rw [if_pos c6] at H
            have c6b0 : decide (x8_1 < (l0.length : Int)) = true := decide_eq_true c6
            clear c6
            by_cases c7 : ((rd_T93 l0 x8_1).f1) = 0
            · rw [if_pos c7] at H
              exact absurd H (by simp)
            · rw [if_neg c7] at H
              have c7b0 : (((rd_T93 l0 x8_1).f1) == 0) = false := beq_eq_false_iff_ne.mpr c7
              have c7b1 : (((rd_T93 l0 x8_1).f1) != 0) = true := bne_iff_ne.mpr c7
              have H' := Aside0.mk H
              clear H
              have p208 : 0 ≤ (x8_1 : Int) := of_decide_eq_true (by first | (with_reducible assumption) | assumption)
              have q208 : x8_1 < (l0.length : Int) := of_decide_eq_true (by first | (with_reducible assumption) | assumption)
              obtain ⟨ad208, A208_3, c208_3, e208, hx208_0, hx208_1, hx208_2, hx208_3, hl208_3, hi208_3⟩ := at_T93 HR0.out x8_1 p208 q208
              cases e208
              have HR208_3 := Aside0.mk hi208_3
              have HC208_3 := Aside0.mk hl208_3
              clear hi208_3 hl208_3
              replace p208 := eq_true p208
              replace q208 := eq_true q208
              have p209 : 0 ≤ (x8_1 : Int) := of_decide_eq_true (by first | (with_reducible assumption) | assumption)
              have q209 : x8_1 < (l0.length : Int) := of_decide_eq_true (by first | (with_reducible assumption) | assumption)
              obtain ⟨ad209, A209_3, c209_3, e209, hx209_0, hx209_1, hx209_2, hx209_3, hl209_3, hi209_3⟩ := at_T93 HR0.out x8_1 p209 q209
              obtain rfl : ad208 = ad209 := (by injection e209)
              have HR209_3 := Aside0.mk hi209_3
              have HC209_3 := Aside0.mk hl209_3
              clear hi209_3 hl209_3
              replace p209 := eq_true p209
              replace q209 := eq_true q209
              have ea_ := Option.some.inj (hx208_3.symm.trans hx209_3)
              injection ea_ with ea_ en_ ec_
              subst ea_
              subst ec_
              clear en_
              have p210 : 0 ≤ (x8_1 : Int) := of_decide_eq_true (by first | (with_reducible assumption) | assumption)
              have q210 : x8_1 < (l0.length : Int) := of_decide_eq_true (by first | (with_reducible assumption) | assumption)
              obtain ⟨ad210, A210_3, c210_3, e210, hx210_0, hx210_1, hx210_2, hx210_3, hl210_3, hi210_3⟩ := at_T93 HR0.out x8_1 p210 q210
              obtain rfl : ad208 = ad210 := (by injection e210)
              have HR210_3 := Aside0.mk hi210_3
              have HC210_3 := Aside0.mk hl210_3
              clear hi210_3 hl210_3
              replace p210 := eq_true p210
              replace q210 := eq_true q210
              have ea_ := Option.some.inj (hx208_3.symm.trans hx210_3)
              injection ea_ with ea_ en_ ec_
              subst ea_
              subst ec_
              clear en_
              go_wp2
              repeat (go_quiet (fail); try go_wp2)
              go_roundg k1
              case measure => have := HK1.out; omega
              case rel => exact ⟨(wrap64 (x7_1 + (wrap64 ((wrap64 (Int.tdiv (wrap64 ((wrap64 (a2 + ((rd_T93 l0 x8_1).f1))) - 1)) ((rd_T93 l0 x8_1).f1))) * ((rd_T93 l0 x8_1).f0))))), (wrap64 (x8_1 + 1)), (by first | rfl | (simp; done) | (simp [*]; done)), (by first | rfl | (simp; done) | (simp [*]; done)), H', ⟨by have := HK1.out; omega⟩, by repeat (first | exact Drawn0.refl _ | apply Drawn0.step)⟩
          · rw [if_neg c6] at H
            exact absurd H (by simp)
        · rw [if_neg c5] at H
          exact absurd H (by simp)
      · rw [if_neg c4] at H
        have c4b0 : decide (x8_1 < a1) = false := decide_eq_false c4
        clear c4
        obtain rfl := Option.some.inj H
        go_wp2
        repeat (go_quiet (fail); try go_wp2)
        go_ret
        exact ⟨by first | rfl | (simp; done) | (simp [*]; done), by repeat (first | exact Drawn0.refl _ | apply Drawn0.step)⟩

end Go.Proofs.Ytbhmaijmdkpmlaa.P
