-- Written by wip/gen.py: the kit's print, with contracts of mine in it.
import Derived.Test.YtbjhkcfgahbipaaPx0
import Derived.Test.YtbjhkcfgahbipaaPx13
import Derived.Test.YtbjhkcfgahbipaaPx14
import Derived.Test.YtbjhkcfgahbipaaPx15
namespace Go.Proofs.Ytbjhkcfgahbipaa.P
open Go.RowKit Go.Proofs.YtbjhkcfgahbipaaW.PrintWords Go.Proofs.YtbjhkcfgahbipaaW.PrintLast Go.Proofs.YtbjhkcfgahbipaaW.PrintMore
attribute [local go_sem] max2_int min2_int max_two min_two max_three min_three max_four min_four   -- for this text's walks alone
set_option linter.unusedVariables false
set_option linter.unusedSimpArgs false

/-! ### ontimeref45_Group: function 20 -/
mutual
def ontimeref45_Group.l0 : Nat → Int → Int → Int → Option (Int)
  | 0, _, _, _ => none
  | k + 1, x0, x1, x9 => if x9 ≤ x1 then (ontimeref45_Group.l1 k x0 x1 x9 1) else (some x1)
def ontimeref45_Group.l1 : Nat → Int → Int → Int → Int → Option (Int)
  | 0, _, _, _, _ => none
  | k + 1, x0, x1, x9, x10 => if x10 ≤ x0 then ((ontimeref45_Window.f x0 x1 x10).bind fun bt142 => (if x9 = bt142.2 then ((ontimeref45_Overlaps.f x0 x1 x10).bind fun t144 => (if t144 = true then (if (wrap64 (x9 + 1)) = bt142.2 then (if (wrap64 (bt142.2 - bt142.1)) = 3 then (some x9) else (ontimeref45_Group.l1 k x0 x1 x9 (wrap64 (x10 + 1)))) else (ontimeref45_Group.l1 k x0 x1 x9 (wrap64 (x10 + 1)))) else (some x9))) else (if (wrap64 (x9 + 1)) = bt142.2 then (if (wrap64 (bt142.2 - bt142.1)) = 3 then (some x9) else (ontimeref45_Group.l1 k x0 x1 x9 (wrap64 (x10 + 1)))) else (ontimeref45_Group.l1 k x0 x1 x9 (wrap64 (x10 + 1)))))) else (ontimeref45_Group.l0 k x0 x1 (wrap64 (x9 + 1)))
end
def ontimeref45_Group.f (k : Nat) (a0 : Int) (a1 : Int) (a2 : Int) : Option (Int) := (ontimeref45_Heavy.f a0 a1).bind fun t139 => (if t139 = true then ((ontimeref45_Window.f a0 a1 a2).bind fun bt140 => (ontimeref45_Group.l0 k a0 a1 bt140.2)) else (some 0))
theorem ontimeref45_Group.mono_l : ∀ k, (∀ y0 y1 y2, LeO (ontimeref45_Group.l0 k y0 y1 y2) (ontimeref45_Group.l0 (k + 1) y0 y1 y2)) ∧ (∀ y0 y1 y2 y3, LeO (ontimeref45_Group.l1 k y0 y1 y2 y3) (ontimeref45_Group.l1 (k + 1) y0 y1 y2 y3))
  | 0 => ⟨fun _ _ _ r h => by simp [ontimeref45_Group.l0] at h, fun _ _ _ _ r h => by simp [ontimeref45_Group.l1] at h⟩
  | k + 1 => by
    obtain ⟨ih0, ih1⟩ := ontimeref45_Group.mono_l k
    refine ⟨?_, ?_⟩
    · intro y0 y1 y2
      unfold ontimeref45_Group.l0
      repeat' first
      | (with_reducible exact ih0 _ _ _)
      | (with_reducible exact ih1 _ _ _ _)
      | (with_reducible exact LeO.refl _)
      | (with_reducible exact LeO.none _)
      | (with_reducible refine LeO.ite ?_ ?_)
      | (with_reducible refine LeO.bind ?_ (fun _ => ?_))
      | exact ih0 _ _ _
      | exact ih1 _ _ _ _
      | exact LeO.none _
      | refine LeO.ite ?_ ?_
      | refine LeO.bind ?_ (fun _ => ?_)
    · intro y0 y1 y2 y3
      unfold ontimeref45_Group.l1
      repeat' first
      | (with_reducible exact ih0 _ _ _)
      | (with_reducible exact ih1 _ _ _ _)
      | (with_reducible exact LeO.refl _)
      | (with_reducible exact LeO.none _)
      | (with_reducible refine LeO.ite ?_ ?_)
      | (with_reducible refine LeO.bind ?_ (fun _ => ?_))
      | exact ih0 _ _ _
      | exact ih1 _ _ _ _
      | exact LeO.none _
      | refine LeO.ite ?_ ?_
      | refine LeO.bind ?_ (fun _ => ?_)
theorem ontimeref45_Group.mono : ∀ a0 a1 a2 k, LeO (ontimeref45_Group.f k a0 a1 a2) (ontimeref45_Group.f (k + 1) a0 a1 a2) := by
  intro a0 a1 a2 k
  obtain ⟨ih0, ih1⟩ := ontimeref45_Group.mono_l k
  unfold ontimeref45_Group.f
  repeat' first
      | (with_reducible exact ih0 _ _ _)
      | (with_reducible exact ih1 _ _ _ _)
      | (with_reducible exact LeO.refl _)
      | (with_reducible exact LeO.none _)
      | (with_reducible refine LeO.ite ?_ ?_)
      | (with_reducible refine LeO.bind ?_ (fun _ => ?_))
      | exact ih0 _ _ _
      | exact ih1 _ _ _ _
      | exact LeO.none _
      | refine LeO.ite ?_ ?_
      | refine LeO.bind ?_ (fun _ => ?_)
set_option maxHeartbeats 8000000 in
set_option maxRecDepth 100000 in
theorem ontimeref45_Group.calls (k : Nat) (a0 : Int) (a1 : Int) (a2 : Int) (r : Int) (w : World) (h : ontimeref45_Group.f k a0 a1 a2 = some r) :
    Calls Try.prog 20 #[.int .i64 a0, .int .i64 a1, .int .i64 a2] w fun e w' => e = .returned (.int .i64 r) ∧ Drawn0 w w' := by
  have H : ((ontimeref45_Heavy.f a0 a1).bind fun t139 => (if t139 = true then ((ontimeref45_Window.f a0 a1 a2).bind fun bt140 => (ontimeref45_Group.l0 k a0 a1 bt140.2)) else (some 0))) = some r := h
  clear h
  replace H := Option.bind_eq_some_iff.mp H
  obtain ⟨t139, A40, H⟩ := H
  replace H : (if t139 = true then ((ontimeref45_Window.f a0 a1 a2).bind fun bt140 => (ontimeref45_Group.l0 k a0 a1 bt140.2)) else (some 0)) = some r := H
  have A4 := Aside0.mk A40
  clear A40
  by_cases c5 : t139 = true
  · subst c5
    have H1 : ((ontimeref45_Window.f a0 a1 a2).bind fun bt140 => (ontimeref45_Group.l0 k a0 a1 bt140.2)) = some r := by rw [if_pos rfl] at H; exact H
    clear H
    have H := H1
    clear H1
    replace H := Option.bind_eq_some_iff.mp H
    obtain ⟨⟨t140, t141⟩, A60, H⟩ := H
    replace H : (ontimeref45_Group.l0 k a0 a1 t141) = some r := H
    have A6 := Aside0.mk A60
    clear A60
    have H' := Aside0.mk H
    clear H
    go_enter Try.func20, Try.ntmps20
    go_wp2_with (first | ((with_reducible refine gate_callee (f := 15) rfl ?_); refine goesL_ (some 15) rfl rfl Try.func15 (by kernel_rfl) rfl #[.int .i64 a0, .int .i64 a1] rfl (by (try simp only [List.map_toArray, List.map_cons, List.map_nil]); first | done | rfl | (simp only [List.length_drop, List.length_take]; rfl)) ?_; (with_reducible refine (ontimeref45_Heavy.calls a0 a1 true _ A4.out).mono ?_); rintro e w' ⟨rfl, ⟨nd, rfl⟩⟩; refine ⟨_, rfl, ?_⟩) | ((with_reducible refine gate_callee (f := 18) rfl ?_); refine goesL_ (some 21) rfl rfl Try.func18 (by kernel_rfl) rfl #[.int .i64 a0, .int .i64 a1, .int .i64 a2] rfl (by (try simp only [List.map_toArray, List.map_cons, List.map_nil]); first | done | rfl | (simp only [List.length_drop, List.length_take]; rfl)) ?_; (with_reducible refine (ontimeref45_Window.calls a0 a1 a2 t140 t141 _ A6.out).mono ?_); rintro e w' ⟨rfl, ⟨nd, rfl⟩⟩; refine ⟨_, rfl, ?_⟩))
    go_loopg [9] k (fun kq v9 w' => ∃ (x9_1 : Int), v9 = .int .i64 x9_1 ∧ Aside0 (ontimeref45_Group.l0 kq a0 a1 x9_1 = some r) ∧ Aside0 (kq ≤ k) ∧ Drawn0 w w')
    case atStart => exact ⟨(t141), (by first | rfl | (simp; done) | (simp [*]; done)), H', ⟨Nat.le_refl _⟩, by repeat (first | exact Drawn0.refl _ | apply Drawn0.step)⟩
    case round =>
      clear H'
      try clear c1
      try clear c2
      try clear p2
      try clear c5
      obtain ⟨x9_1, rfl, HA, HK1, ⟨m1, rfl⟩⟩ := hrel
      cases gk with
      | zero => exact absurd HA.out (by simp [ontimeref45_Group.l0])
      | succ k1 =>
        have H := HA.out
        clear HA
        simp only [ontimeref45_Group.l0] at H
        by_cases c7 : x9_1 ≤ a1
        · rw [if_pos c7] at H
          have c7b0 : decide (x9_1 ≤ a1) = true := decide_eq_true c7
          clear c7
          have H' := Aside0.mk H
          clear H
          go_wp2
          go_loopg [10] k1 (fun kq v10 w' => ∃ (x10_2 : Int), v10 = .int .i64 x10_2 ∧ Aside0 (ontimeref45_Group.l1 kq a0 a1 x9_1 x10_2 = some r) ∧ Aside0 (kq ≤ k1) ∧ Drawn0 w w')
          case atStart => exact ⟨(1), (by first | rfl | (simp; done) | (simp [*]; done)), H', ⟨Nat.le_refl _⟩, by repeat (first | exact Drawn0.refl _ | apply Drawn0.step)⟩
          case round =>
            clear H'
            try clear c1
            try clear c2
            try clear p2
            try clear c5
            try clear c7
            try clear c7b0
            try clear p2
            obtain ⟨x10_2, rfl, HA, HK2, ⟨m2, rfl⟩⟩ := hrel
            cases gk with
            | zero => exact absurd HA.out (by simp [ontimeref45_Group.l1])
            | succ k2 =>
              have H := HA.out
              clear HA
              simp only [ontimeref45_Group.l1] at H
              by_cases c8 : x10_2 ≤ a0
              · rw [if_pos c8] at H
                have c8b0 : decide (x10_2 ≤ a0) = true := decide_eq_true c8
                clear c8
                replace H := Option.bind_eq_some_iff.mp H
                obtain ⟨⟨t142, t143⟩, A90, H⟩ := H
                replace H : (if x9_1 = t143 then ((ontimeref45_Overlaps.f a0 a1 x10_2).bind fun t144 => (if t144 = true then (if (wrap64 (x9_1 + 1)) = t143 then (if (wrap64 (t143 - t142)) = 3 then (some x9_1) else (ontimeref45_Group.l1 k2 a0 a1 x9_1 (wrap64 (x10_2 + 1)))) else (ontimeref45_Group.l1 k2 a0 a1 x9_1 (wrap64 (x10_2 + 1)))) else (some x9_1))) else (if (wrap64 (x9_1 + 1)) = t143 then (if (wrap64 (t143 - t142)) = 3 then (some x9_1) else (ontimeref45_Group.l1 k2 a0 a1 x9_1 (wrap64 (x10_2 + 1)))) else (ontimeref45_Group.l1 k2 a0 a1 x9_1 (wrap64 (x10_2 + 1))))) = some r := H
                have A9 := Aside0.mk A90
                clear A90
                by_cases c10 : x9_1 = t143
                · rw [if_pos c10] at H
                  have c10b0 : (x9_1 == t143) = true := beq_iff_eq.mpr c10
                  have c10b1 : (x9_1 != t143) = false := bne_eq_false_iff_eq.mpr c10
                  clear c10
                  replace H := Option.bind_eq_some_iff.mp H
                  obtain ⟨t144, A110, H⟩ := H
                  replace H : (if t144 = true then (if (wrap64 (x9_1 + 1)) = t143 then (if (wrap64 (t143 - t142)) = 3 then (some x9_1) else (ontimeref45_Group.l1 k2 a0 a1 x9_1 (wrap64 (x10_2 + 1)))) else (ontimeref45_Group.l1 k2 a0 a1 x9_1 (wrap64 (x10_2 + 1)))) else (some x9_1)) = some r := H
                  have A11 := Aside0.mk A110
                  clear A110
                  by_cases c12 : t144 = true
                  · subst c12
                    have H1 : (if (wrap64 (x9_1 + 1)) = t143 then (if (wrap64 (t143 - t142)) = 3 then (some x9_1) else (ontimeref45_Group.l1 k2 a0 a1 x9_1 (wrap64 (x10_2 + 1)))) else (ontimeref45_Group.l1 k2 a0 a1 x9_1 (wrap64 (x10_2 + 1)))) = some r := by rw [if_pos rfl] at H; exact H
                    clear H
                    have H := H1
                    clear H1
                    by_cases c13 : (wrap64 (x9_1 + 1)) = t143
                    · rw [if_pos c13] at H
                      have c13b0 : ((wrap64 (x9_1 + 1)) == t143) = true := beq_iff_eq.mpr c13
                      have c13b1 : ((wrap64 (x9_1 + 1)) != t143) = false := bne_eq_false_iff_eq.mpr c13
                      clear c13
                      by_cases c14 : (wrap64 (t143 - t142)) = 3
                      · rw [if_pos c14] at H
                        have c14b0 : ((wrap64 (t143 - t142)) == 3) = true := beq_iff_eq.mpr c14
                        have c14b1 : ((wrap64 (t143 - t142)) != 3) = false := bne_eq_false_iff_eq.mpr c14
                        clear c14
                        obtain rfl := Option.some.inj H
                        go_wp2_with (first | ((with_reducible refine gate_callee (f := 18) rfl ?_); refine goesL_ (some 39) rfl rfl Try.func18 (by kernel_rfl) rfl #[.int .i64 a0, .int .i64 a1, .int .i64 x10_2] rfl (by (try simp only [List.map_toArray, List.map_cons, List.map_nil]); first | done | rfl | (simp only [List.length_drop, List.length_take]; rfl)) ?_; (with_reducible refine (ontimeref45_Window.calls a0 a1 x10_2 t142 t143 _ A9.out).mono ?_); rintro e w' ⟨rfl, ⟨nd, rfl⟩⟩; refine ⟨_, rfl, ?_⟩) | (go_at_call 19; (with_reducible refine (ontimeref45_Overlaps.calls a0 a1 x10_2 true _ A11.out).mono ?_); rintro e w' ⟨rfl, ⟨nd, rfl⟩⟩))
                        go_ret
                        exact ⟨by first | rfl | (simp; done) | (simp [*]; done), by repeat (first | exact Drawn0.refl _ | apply Drawn0.step)⟩
                      · rw [if_neg c14] at H
                        have c14b0 : ((wrap64 (t143 - t142)) == 3) = false := beq_eq_false_iff_ne.mpr c14
                        have c14b1 : ((wrap64 (t143 - t142)) != 3) = true := bne_iff_ne.mpr c14
                        have H' := Aside0.mk H
                        clear H
                        go_wp2_with (first | ((with_reducible refine gate_callee (f := 18) rfl ?_); refine goesL_ (some 39) rfl rfl Try.func18 (by kernel_rfl) rfl #[.int .i64 a0, .int .i64 a1, .int .i64 x10_2] rfl (by (try simp only [List.map_toArray, List.map_cons, List.map_nil]); first | done | rfl | (simp only [List.length_drop, List.length_take]; rfl)) ?_; (with_reducible refine (ontimeref45_Window.calls a0 a1 x10_2 t142 t143 _ A9.out).mono ?_); rintro e w' ⟨rfl, ⟨nd, rfl⟩⟩; refine ⟨_, rfl, ?_⟩) | (go_at_call 19; (with_reducible refine (ontimeref45_Overlaps.calls a0 a1 x10_2 true _ A11.out).mono ?_); rintro e w' ⟨rfl, ⟨nd, rfl⟩⟩))
                        go_roundg k2
                        case measure => have := HK1.out; have := HK2.out; omega
                        case rel => exact ⟨(wrap64 (x10_2 + 1)), (by first | rfl | (simp; done) | (simp [*]; done)), H', ⟨by have := HK1.out; have := HK2.out; omega⟩, by repeat (first | exact Drawn0.refl _ | apply Drawn0.step)⟩
                    · rw [if_neg c13] at H
                      have c13b0 : ((wrap64 (x9_1 + 1)) == t143) = false := beq_eq_false_iff_ne.mpr c13
                      have c13b1 : ((wrap64 (x9_1 + 1)) != t143) = true := bne_iff_ne.mpr c13
                      have H' := Aside0.mk H
                      clear H
                      go_wp2_with (first | ((with_reducible refine gate_callee (f := 18) rfl ?_); refine goesL_ (some 39) rfl rfl Try.func18 (by kernel_rfl) rfl #[.int .i64 a0, .int .i64 a1, .int .i64 x10_2] rfl (by (try simp only [List.map_toArray, List.map_cons, List.map_nil]); first | done | rfl | (simp only [List.length_drop, List.length_take]; rfl)) ?_; (with_reducible refine (ontimeref45_Window.calls a0 a1 x10_2 t142 t143 _ A9.out).mono ?_); rintro e w' ⟨rfl, ⟨nd, rfl⟩⟩; refine ⟨_, rfl, ?_⟩) | (go_at_call 19; (with_reducible refine (ontimeref45_Overlaps.calls a0 a1 x10_2 true _ A11.out).mono ?_); rintro e w' ⟨rfl, ⟨nd, rfl⟩⟩))
                      go_roundg k2
                      case measure => have := HK1.out; have := HK2.out; omega
                      case rel => exact ⟨(wrap64 (x10_2 + 1)), (by first | rfl | (simp; done) | (simp [*]; done)), H', ⟨by have := HK1.out; have := HK2.out; omega⟩, by repeat (first | exact Drawn0.refl _ | apply Drawn0.step)⟩
                  · replace c12 := Bool.eq_false_iff.mpr c12
                    subst c12
                    have H1 : (some x9_1) = some r := by rw [if_neg (show ¬ (false = true) by decide)] at H; exact H
                    clear H
                    have H := H1
                    clear H1
                    obtain rfl := Option.some.inj H
                    go_wp2_with (first | ((with_reducible refine gate_callee (f := 18) rfl ?_); refine goesL_ (some 39) rfl rfl Try.func18 (by kernel_rfl) rfl #[.int .i64 a0, .int .i64 a1, .int .i64 x10_2] rfl (by (try simp only [List.map_toArray, List.map_cons, List.map_nil]); first | done | rfl | (simp only [List.length_drop, List.length_take]; rfl)) ?_; (with_reducible refine (ontimeref45_Window.calls a0 a1 x10_2 t142 t143 _ A9.out).mono ?_); rintro e w' ⟨rfl, ⟨nd, rfl⟩⟩; refine ⟨_, rfl, ?_⟩) | (go_at_call 19; (with_reducible refine (ontimeref45_Overlaps.calls a0 a1 x10_2 false _ A11.out).mono ?_); rintro e w' ⟨rfl, ⟨nd, rfl⟩⟩))
                    go_ret
                    exact ⟨by first | rfl | (simp; done) | (simp [*]; done), by repeat (first | exact Drawn0.refl _ | apply Drawn0.step)⟩
                · rw [if_neg c10] at H
                  have c10b0 : (x9_1 == t143) = false := beq_eq_false_iff_ne.mpr c10
                  have c10b1 : (x9_1 != t143) = true := bne_iff_ne.mpr c10
                  by_cases c15 : (wrap64 (x9_1 + 1)) = t143
                  · rw [if_pos c15] at H
                    have c15b0 : ((wrap64 (x9_1 + 1)) == t143) = true := beq_iff_eq.mpr c15
                    have c15b1 : ((wrap64 (x9_1 + 1)) != t143) = false := bne_eq_false_iff_eq.mpr c15
                    clear c15
                    by_cases c16 : (wrap64 (t143 - t142)) = 3
                    · rw [if_pos c16] at H
                      have c16b0 : ((wrap64 (t143 - t142)) == 3) = true := beq_iff_eq.mpr c16
                      have c16b1 : ((wrap64 (t143 - t142)) != 3) = false := bne_eq_false_iff_eq.mpr c16
                      clear c16
                      obtain rfl := Option.some.inj H
                      go_wp2_with (first | ((with_reducible refine gate_callee (f := 18) rfl ?_); refine goesL_ (some 39) rfl rfl Try.func18 (by kernel_rfl) rfl #[.int .i64 a0, .int .i64 a1, .int .i64 x10_2] rfl (by (try simp only [List.map_toArray, List.map_cons, List.map_nil]); first | done | rfl | (simp only [List.length_drop, List.length_take]; rfl)) ?_; (with_reducible refine (ontimeref45_Window.calls a0 a1 x10_2 t142 t143 _ A9.out).mono ?_); rintro e w' ⟨rfl, ⟨nd, rfl⟩⟩; refine ⟨_, rfl, ?_⟩))
                      go_ret
                      exact ⟨by first | rfl | (simp; done) | (simp [*]; done), by repeat (first | exact Drawn0.refl _ | apply Drawn0.step)⟩
                    · rw [if_neg c16] at H
                      have c16b0 : ((wrap64 (t143 - t142)) == 3) = false := beq_eq_false_iff_ne.mpr c16
                      have c16b1 : ((wrap64 (t143 - t142)) != 3) = true := bne_iff_ne.mpr c16
                      have H' := Aside0.mk H
                      clear H
                      go_wp2_with (first | ((with_reducible refine gate_callee (f := 18) rfl ?_); refine goesL_ (some 39) rfl rfl Try.func18 (by kernel_rfl) rfl #[.int .i64 a0, .int .i64 a1, .int .i64 x10_2] rfl (by (try simp only [List.map_toArray, List.map_cons, List.map_nil]); first | done | rfl | (simp only [List.length_drop, List.length_take]; rfl)) ?_; (with_reducible refine (ontimeref45_Window.calls a0 a1 x10_2 t142 t143 _ A9.out).mono ?_); rintro e w' ⟨rfl, ⟨nd, rfl⟩⟩; refine ⟨_, rfl, ?_⟩))
                      go_roundg k2
                      case measure => have := HK1.out; have := HK2.out; omega
                      case rel => exact ⟨(wrap64 (x10_2 + 1)), (by first | rfl | (simp; done) | (simp [*]; done)), H', ⟨by have := HK1.out; have := HK2.out; omega⟩, by repeat (first | exact Drawn0.refl _ | apply Drawn0.step)⟩
                  · rw [if_neg c15] at H
                    have c15b0 : ((wrap64 (x9_1 + 1)) == t143) = false := beq_eq_false_iff_ne.mpr c15
                    have c15b1 : ((wrap64 (x9_1 + 1)) != t143) = true := bne_iff_ne.mpr c15
                    have H' := Aside0.mk H
                    clear H
                    go_wp2_with (first | ((with_reducible refine gate_callee (f := 18) rfl ?_); refine goesL_ (some 39) rfl rfl Try.func18 (by kernel_rfl) rfl #[.int .i64 a0, .int .i64 a1, .int .i64 x10_2] rfl (by (try simp only [List.map_toArray, List.map_cons, List.map_nil]); first | done | rfl | (simp only [List.length_drop, List.length_take]; rfl)) ?_; (with_reducible refine (ontimeref45_Window.calls a0 a1 x10_2 t142 t143 _ A9.out).mono ?_); rintro e w' ⟨rfl, ⟨nd, rfl⟩⟩; refine ⟨_, rfl, ?_⟩))
                    go_roundg k2
                    case measure => have := HK1.out; have := HK2.out; omega
                    case rel => exact ⟨(wrap64 (x10_2 + 1)), (by first | rfl | (simp; done) | (simp [*]; done)), H', ⟨by have := HK1.out; have := HK2.out; omega⟩, by repeat (first | exact Drawn0.refl _ | apply Drawn0.step)⟩
              · rw [if_neg c8] at H
                have c8b0 : decide (x10_2 ≤ a0) = false := decide_eq_false c8
                clear c8
                have H' := Aside0.mk H
                clear H
                go_wp2
                go_roundg k2
                case measure => have := HK1.out; have := HK2.out; omega
                case rel => exact ⟨(wrap64 (x9_1 + 1)), (by first | rfl | (simp; done) | (simp [*]; done)), H', ⟨by have := HK1.out; have := HK2.out; omega⟩, by repeat (first | exact Drawn0.refl _ | apply Drawn0.step)⟩
        · rw [if_neg c7] at H
          have c7b0 : decide (x9_1 ≤ a1) = false := decide_eq_false c7
          clear c7
          obtain rfl := Option.some.inj H
          go_wp2
          go_ret
          exact ⟨by first | rfl | (simp; done) | (simp [*]; done), by repeat (first | exact Drawn0.refl _ | apply Drawn0.step)⟩
  · replace c5 := Bool.eq_false_iff.mpr c5
    subst c5
    have H1 : (some 0) = some r := by rw [if_neg (show ¬ (false = true) by decide)] at H; exact H
    clear H
    have H := H1
    clear H1
    obtain rfl := Option.some.inj H
    go_enter Try.func20, Try.ntmps20
    go_wp2_with (first | ((with_reducible refine gate_callee (f := 15) rfl ?_); refine goesL_ (some 15) rfl rfl Try.func15 (by kernel_rfl) rfl #[.int .i64 a0, .int .i64 a1] rfl (by (try simp only [List.map_toArray, List.map_cons, List.map_nil]); first | done | rfl | (simp only [List.length_drop, List.length_take]; rfl)) ?_; (with_reducible refine (ontimeref45_Heavy.calls a0 a1 false _ A4.out).mono ?_); rintro e w' ⟨rfl, ⟨nd, rfl⟩⟩; refine ⟨_, rfl, ?_⟩))
    go_ret
    exact ⟨by first | rfl | (simp; done) | (simp [*]; done), by repeat (first | exact Drawn0.refl _ | apply Drawn0.step)⟩

end Go.Proofs.Ytbjhkcfgahbipaa.P
