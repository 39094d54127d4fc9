/- ResponseWindows, over lists of numbers alone. -/
import Derived.Test.YtbhmaijmdkpmlaaPx42
import Derived.Test.YtbhmaijmdkpmlaaAwake44
namespace Go.Proofs.Ytbhmaijmdkpmlaa.Pure
open Go.RowKit Go.Proofs.Ytbhmaijmdkpmlaa.P Go.Proofs.Ytbhmaijmdkpmlaa.Plain Go.Proofs.YtbhmaijmdkpmlaaW.PrintWords
set_option linter.unusedVariables false

theorem windows_body (l : List S49) (a1 a2 a3 : Int) (hv : cv_valid l = true) (hl : 0 < l.length) (b1 : 0 ≤ a1 ∧ a1 ≤ 255) (b2 : 0 ≤ a2 ∧ a2 ≤ 65535) (b3 : 0 ≤ a3 ∧ a3 ≤ 65535) : Ev (fun k => ontimelaw44_ResponseWindows.j0 k l a1 a2 a3 false) true := by
  obtain ⟨i0, i1⟩ := tmod_range b1.1 (show 0 < (l.length : Int) by omega)
  obtain ⟨v0, v1⟩ := tmod_range b2.1 (show 0 < (40000 : Int) by omega)
  obtain ⟨w0, w1⟩ := tmod_range b3.1 (show 0 < (40000 : Int) by omega)
  obtain ⟨hlen, hg⟩ := good_all l hv
  refine Ev.step (fun k => by simp only [ontimelaw44_ResponseWindows.j0]; rw [if_neg (by decide), if_neg (by omega), cv_wrap (x := a1) (by omega) (by omega), cv_wrap (x := a2) (by omega) (by omega), cv_wrap (x := a3) (by omega) (by omega), cv_wrap (x := Int.tmod a2 40000 + Int.tmod a3 40000) (by omega) (by omega)]) ?_
  generalize Int.tmod a1 l.length = i at *
  generalize Int.tmod a2 40000 = v at *
  generalize Int.tmod a3 40000 = w at *
  have gt : ∀ t ∈ l.take i.toNat, GoodT t := fun t ht => hg t (List.mem_of_mem_take ht)
  have s1 := sum_mono (show v ≤ v + w by omega) _ gt
  have s2 := sum_mono (show w ≤ v + w by omega) _ gt
  have s3 := sum_add (v := v) (w := w) _ gt
  have s4 := sum_zero _ gt
  have n1 := sum_nonneg v0 _ gt
  have n2 := sum_nonneg w0 _ gt
  have m1 := sum_le v0 (by omega) _ gt
  have m2 := sum_le w0 (by omega) _ gt
  rw [List.length_take] at m1 m2
  have out : Ev (fun k => response_Interference.f k l i 100001) (-1) := by
    have := inter_ev l i 100001
    unfold rs_inter at this
    rw [decide_eq_false (show ¬ ((0 : Int) ≤ 100001 ∧ (100001 : Int) ≤ 100000) by omega), Bool.and_false, if_neg (by decide)] at this
    exact this
  refine Ev.bind (inter_eq l i v hv i0 i1 v0 (by omega)) (Ev.bind (inter_eq l i w hv i0 i1 w0 (by omega)) (Ev.bind (inter_eq l i (v + w) hv i0 i1 (by omega) (by omega)) (Ev.bind (inter_eq l i 0 hv i0 i1 (by omega) (by omega)) ?_)))
  rw [s4, cv_wrap (x := rs_sum v (l.take i.toNat) + rs_sum w (l.take i.toNat)) (by omega) (by omega)]
  refine Ev.congr (fun k => by rw [if_pos rfl, if_pos (by omega), if_pos (by omega), if_pos s3]) ?_
  by_cases hi : i > 0
  · refine Ev.congr (fun k => if_pos hi) (Ev.bind out (Ev.now _))
  · obtain rfl : i = 0 := by omega
    exact Ev.congr (fun k => (if_neg hi).trans (if_pos rfl)) (Ev.bind out (Ev.now _))

theorem ResponseWindows (l0 : List S49) (a1 : Int) (a2 : Int) (a3 : Int) (y0 : l0.length * 48 ≤ 140737488351232) (hm0 : l0.length ≤ maxLen) (hg0 : ∀ y ∈ l0, ((Lit.int .i64 y.f0).wf = true ∧ (Lit.int .i64 y.f1).wf = true ∧ (Lit.int .i64 y.f2).wf = true ∧ (y.f3.length ≤ maxLen ∧ ∀ z ∈ y.f3, ((Lit.int .i64 z.f0).wf = true ∧ (Lit.int .i64 z.f1).wf = true ∧ (Lit.int .i64 z.f2).wf = true)))) (w1 : (Lit.int .u8 a1).wf = true) (w2 : (Lit.int .u16 a2).wf = true) (w3 : (Lit.int .u16 a3).wf = true) :
    ∃ k, ontimelaw44_ResponseWindows.f k l0 a1 a2 a3 = some true := by
  have skip : Ev (fun k => ontimelaw44_ResponseWindows.j0 k l0 a1 a2 a3 true) true := Ev.step (f := fun _ => some true) (fun k => by simp only [ontimelaw44_ResponseWindows.j0, if_true]) (Ev.now _)
  refine Ev.rounds (?_ : Ev _ true)
  unfold ontimelaw44_ResponseWindows.f
  refine Ev.bind awake44_ev ?_
  refine Ev.congr (fun k => if_pos rfl) ?_
  obtain ⟨b, hb, _⟩ := great_ev l0
  refine Ev.bind hb ?_
  cases b
  · refine Ev.congr (fun k => if_neg (by decide)) ?_
    by_cases h0 : (l0.length : Int) = 0
    · exact Ev.congr (fun k => if_pos h0) skip
    · refine Ev.congr (fun k => (if_neg h0).trans (by unfold ceiling_Valid.f; rw [Option.bind_some])) ?_
      cases hv : cv_valid l0
      · exact skip
      · exact windows_body l0 a1 a2 a3 hv (by omega) (u8_range w1) (u16_range w2) (u16_range w3)
  · exact Ev.congr (fun k => if_pos rfl) skip
end Go.Proofs.Ytbhmaijmdkpmlaa.Pure
