/- The example of the chapter holds; 'great' answers. -/
import Derived.Test.YtbhmaijmdkpmlaaPx17
import Derived.Test.YtbhmaijmdkpmlaaPx18
import Derived.Test.YtbhmaijmdkpmlaaResp
namespace Go.Proofs.Ytbhmaijmdkpmlaa.Plain
open Go.RowKit Go.Proofs.Ytbhmaijmdkpmlaa.P Go.Proofs.YtbhmaijmdkpmlaaW.PrintWords
set_option linter.unusedVariables false
set_option maxRecDepth 100000

theorem awake44_ev : Ev (fun k => ontimelaw44_awake.f k) true := Ev.of (fun k => ontimelaw44_awake.mono k) (k := 30) (by decide +kernel)
theorem great_loop (l : List S49) (hl : l.length ≤ 8) : ∀ (d i : Nat), l.length - i = d → ∃ b, Ev (fun k => ontimelaw44_great.l0 k l (l.length : Int) (i : Int)) b := by
  intro d
  induction d with
  | zero =>
    intro i h
    refine ⟨false, Ev.step (f := fun _ => some false) (fun k => ?_) (Ev.now _)⟩
    simp only [ontimelaw44_great.l0]
    rw [if_neg (by omega)]
  | succ d ih =>
    intro i h
    by_cases c : (((rd_T49 l (i : Int)).f3).length : Int) > 10
    · refine ⟨true, Ev.step (f := fun _ => some true) (fun k => ?_) (Ev.now _)⟩
      simp only [ontimelaw44_great.l0]
      rw [if_pos (by omega), if_pos (by omega), if_pos (by omega), if_pos c]
    · obtain ⟨b, hb⟩ := ih (i + 1) (by omega)
      refine ⟨b, Ev.step (fun k => ?_) hb⟩
      simp only [ontimelaw44_great.l0]
      rw [if_pos (by omega), if_pos (by omega), if_pos (by omega), if_neg c, cv_wrap (by omega) (by omega)]
      rfl
theorem great_ev (l : List S49) : ∃ b, Ev (fun k => ontimelaw44_great.f k l) b ∧ (b = false → l.length ≤ 8) := by
  by_cases h : (l.length : Int) > 8
  · exact ⟨true, Ev.congr (fun k => by unfold ontimelaw44_great.f; rw [if_pos h]) (Ev.now _), fun e => by cases e⟩
  · obtain ⟨b, hb⟩ := great_loop l (by omega) _ 0 rfl
    exact ⟨b, Ev.congr (fun k => by unfold ontimelaw44_great.f; rw [if_neg h]; rfl) hb, fun _ => by omega⟩
theorem u8_range {x : Int} (h : (Lit.int .u8 x).wf = true) : 0 ≤ x ∧ x ≤ 255 := by
  have e1 : IntKind.u8.min = 0 := by decide
  have e2 : IntKind.u8.max = 255 := by decide
  simp only [Lit.wf, e1, e2, Bool.and_eq_true, decide_eq_true_eq] at h
  omega
theorem u16_range {x : Int} (h : (Lit.int .u16 x).wf = true) : 0 ≤ x ∧ x ≤ 65535 := by
  have e1 : IntKind.u16.min = 0 := by decide
  have e2 : IntKind.u16.max = 65535 := by decide
  simp only [Lit.wf, e1, e2, Bool.and_eq_true, decide_eq_true_eq] at h
  omega
theorem tmod_range {x m : Int} (h0 : 0 ≤ x) (hm : 0 < m) : 0 ≤ Int.tmod x m ∧ Int.tmod x m < m := by
  rw [Int.tmod_eq_emod_of_nonneg h0]
  exact ⟨Int.emod_nonneg _ (by omega), Int.emod_lt_of_pos _ hm⟩
theorem inter_eq (l : List S49) (i w : Int) (hv : cv_valid l = true) (h0 : 0 ≤ i) (h1 : i < l.length) (w0 : 0 ≤ w) (w1 : w ≤ 100000) : Ev (fun k => response_Interference.f k l i w) (rs_sum w (l.take i.toNat)) := by
  have := inter_ev l i w
  unfold rs_inter at this
  rw [hv, Bool.true_and, decide_eq_true ⟨h0, h1⟩, Bool.true_and, decide_eq_true (by omega), if_pos rfl] at this
  exact this
end Go.Proofs.Ytbhmaijmdkpmlaa.Plain
