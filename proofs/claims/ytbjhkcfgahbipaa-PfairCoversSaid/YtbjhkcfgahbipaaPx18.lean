-- Written by wip/gen.py: the kit's print, with contracts of mine in it.
import Derived.Test.YtbjhkcfgahbipaaPx0
import Derived.Test.YtbjhkcfgahbipaaPx5
import Derived.Test.YtbjhkcfgahbipaaPx6
import Derived.Test.YtbjhkcfgahbipaaPx7
import Derived.Test.YtbjhkcfgahbipaaPx11
namespace Go.Proofs.Ytbjhkcfgahbipaa.P
open Go.RowKit Go.Proofs.YtbjhkcfgahbipaaW.PrintWords Go.Proofs.YtbjhkcfgahbipaaW.PrintLast Go.Proofs.YtbjhkcfgahbipaaW.PrintMore
attribute [local go_sem] max2_int min2_int max_two min_two max_three min_three max_four min_four   -- for this text's walks alone
set_option linter.unusedVariables false
set_option linter.unusedSimpArgs false

/-! ### ontimelaw45_PfairCovers: function 4 -/
mutual
def ontimelaw45_PfairCovers.j0 : Nat → Bool → ByteArray → Int → Int → Option (Bool)
  | 0, _, _, _, _ => none
  | k + 1, x24, x166000, x166001, x166002 => if x24 = true then (some true) else (ontimelaw45_PfairCovers.l0 k 0 1 x166000 x166001 x166002)
def ontimelaw45_PfairCovers.l0 : Nat → Int → Int → ByteArray → Int → Int → Option (Bool)
  | 0, _, _, _, _, _ => none
  | k + 1, x3, x4, x166000, x166001, x166002 => if x4 ≤ x166001 then ((pfair_Window.f k x166000 x166001 x166002 x4).bind fun bt167 => (if bt167.2.2.2 = 0 then (if bt167.1 = x4 then (if bt167.2.2.1 ≤ bt167.2.1 then (ontimelaw45_PfairCovers.j2 k x4 true x166000 x166001 x166002 bt167.1 bt167.2.1 bt167.2.2.1) else (if x4 = 1 then (if bt167.2.1 = 0 then (if x4 > 1 then (ontimelaw45_PfairCovers.j2 k x4 (bt167.2.1 != x3) x166000 x166001 x166002 bt167.1 bt167.2.1 bt167.2.2.1) else (ontimelaw45_PfairCovers.j2 k x4 false x166000 x166001 x166002 bt167.1 bt167.2.1 bt167.2.2.1)) else (ontimelaw45_PfairCovers.j2 k x4 true x166000 x166001 x166002 bt167.1 bt167.2.1 bt167.2.2.1)) else (if x4 > 1 then (ontimelaw45_PfairCovers.j2 k x4 (bt167.2.1 != x3) x166000 x166001 x166002 bt167.1 bt167.2.1 bt167.2.2.1) else (ontimelaw45_PfairCovers.j2 k x4 false x166000 x166001 x166002 bt167.1 bt167.2.1 bt167.2.2.1)))) else (ontimelaw45_PfairCovers.j2 k x4 true x166000 x166001 x166002 bt167.1 bt167.2.1 bt167.2.2.1)) else (ontimelaw45_PfairCovers.j2 k x4 true x166000 x166001 x166002 bt167.1 bt167.2.1 bt167.2.2.1))) else (some (x3 == x166002))
def ontimelaw45_PfairCovers.j2 : Nat → Int → Bool → ByteArray → Int → Int → Int → Int → Int → Option (Bool)
  | 0, _, _, _, _, _, _, _, _ => none
  | k + 1, x4, x70, x166000, x166001, x166002, x172000, x172001, x172002 => if x70 = true then (some false) else ((pfair_Heavy.f k x166000 x166001 x166002).bind fun t172 => (if t172 = true then (if (wrap64 (x172002 - x172001)) = 2 then (ontimelaw45_PfairCovers.j3 k x4 false x166000 x166001 x166002 x172000 x172001 x172002) else (ontimelaw45_PfairCovers.j3 k x4 ((wrap64 (x172002 - x172001)) != 3) x166000 x166001 x166002 x172000 x172001 x172002)) else (ontimelaw45_PfairCovers.j3 k x4 false x166000 x166001 x166002 x172000 x172001 x172002)))
def ontimelaw45_PfairCovers.j3 : Nat → Int → Bool → ByteArray → Int → Int → Int → Int → Int → Option (Bool)
  | 0, _, _, _, _, _, _, _, _ => none
  | k + 1, x4, x85, x166000, x166001, x166002, x172000, x172001, x172002 => if x85 = true then (some false) else ((pfair_Overlaps.f k x166000 x166001 x166002 x4).bind fun t173 => (if t173 = true then (ontimelaw45_PfairCovers.l0 k (wrap64 (x172002 - 1)) (wrap64 (x4 + 1)) x166000 x166001 x166002) else (ontimelaw45_PfairCovers.l0 k x172002 (wrap64 (x4 + 1)) x166000 x166001 x166002)))
end
def ontimelaw45_PfairCovers.f (k : Nat) (a0_0 : ByteArray) (a0_1 : Int) (a0_2 : Int) : Option (Bool) := (ontimelaw45_awake.f k).bind fun t166 => (if t166 = true then (if a0_2 > 200 then (ontimelaw45_PfairCovers.j0 k true a0_0 a0_1 a0_2) else (if a0_1 < 1 then (ontimelaw45_PfairCovers.j0 k true a0_0 a0_1 a0_2) else (ontimelaw45_PfairCovers.j0 k (decide (a0_1 > a0_2)) a0_0 a0_1 a0_2))) else (some false))
theorem ontimelaw45_PfairCovers.mono_l : ∀ k, (∀ y0 y1 y2 y3, LeO (ontimelaw45_PfairCovers.j0 k y0 y1 y2 y3) (ontimelaw45_PfairCovers.j0 (k + 1) y0 y1 y2 y3)) ∧ (∀ y0 y1 y2 y3 y4, LeO (ontimelaw45_PfairCovers.l0 k y0 y1 y2 y3 y4) (ontimelaw45_PfairCovers.l0 (k + 1) y0 y1 y2 y3 y4)) ∧ (∀ y0 y1 y2 y3 y4 y5 y6 y7, LeO (ontimelaw45_PfairCovers.j2 k y0 y1 y2 y3 y4 y5 y6 y7) (ontimelaw45_PfairCovers.j2 (k + 1) y0 y1 y2 y3 y4 y5 y6 y7)) ∧ (∀ y0 y1 y2 y3 y4 y5 y6 y7, LeO (ontimelaw45_PfairCovers.j3 k y0 y1 y2 y3 y4 y5 y6 y7) (ontimelaw45_PfairCovers.j3 (k + 1) y0 y1 y2 y3 y4 y5 y6 y7))
  | 0 => ⟨fun _ _ _ _ r h => by simp [ontimelaw45_PfairCovers.j0] at h, fun _ _ _ _ _ r h => by simp [ontimelaw45_PfairCovers.l0] at h, fun _ _ _ _ _ _ _ _ r h => by simp [ontimelaw45_PfairCovers.j2] at h, fun _ _ _ _ _ _ _ _ r h => by simp [ontimelaw45_PfairCovers.j3] at h⟩
  | k + 1 => by
    obtain ⟨ih0, ih1, ih2, ih3⟩ := ontimelaw45_PfairCovers.mono_l k
    refine ⟨?_, ?_, ?_, ?_⟩
    · intro y0 y1 y2 y3
      unfold ontimelaw45_PfairCovers.j0
      repeat' first
      | (with_reducible exact ih0 _ _ _ _)
      | (with_reducible exact ih1 _ _ _ _ _)
      | (with_reducible exact ih2 _ _ _ _ _ _ _ _)
      | (with_reducible exact ih3 _ _ _ _ _ _ _ _)
      | (with_reducible exact ontimelaw45_awake.mono _)
      | (with_reducible exact pfair_Heavy.mono _ _ _ _)
      | (with_reducible exact pfair_Overlaps.mono _ _ _ _ _)
      | (with_reducible exact pfair_Window.mono _ _ _ _ _)
      | (with_reducible exact LeO.refl _)
      | (with_reducible exact LeO.none _)
      | (with_reducible refine LeO.ite ?_ ?_)
      | (with_reducible refine LeO.bind ?_ (fun _ => ?_))
      | exact ih0 _ _ _ _
      | exact ih1 _ _ _ _ _
      | exact ih2 _ _ _ _ _ _ _ _
      | exact ih3 _ _ _ _ _ _ _ _
      | exact ontimelaw45_awake.mono _
      | exact pfair_Heavy.mono _ _ _ _
      | exact pfair_Overlaps.mono _ _ _ _ _
      | exact pfair_Window.mono _ _ _ _ _
      | exact LeO.none _
      | refine LeO.ite ?_ ?_
      | refine LeO.bind ?_ (fun _ => ?_)
    · intro y0 y1 y2 y3 y4
      unfold ontimelaw45_PfairCovers.l0
      repeat' first
      | (with_reducible exact ih0 _ _ _ _)
      | (with_reducible exact ih1 _ _ _ _ _)
      | (with_reducible exact ih2 _ _ _ _ _ _ _ _)
      | (with_reducible exact ih3 _ _ _ _ _ _ _ _)
      | (with_reducible exact ontimelaw45_awake.mono _)
      | (with_reducible exact pfair_Heavy.mono _ _ _ _)
      | (with_reducible exact pfair_Overlaps.mono _ _ _ _ _)
      | (with_reducible exact pfair_Window.mono _ _ _ _ _)
      | (with_reducible exact LeO.refl _)
      | (with_reducible exact LeO.none _)
      | (with_reducible refine LeO.ite ?_ ?_)
      | (with_reducible refine LeO.bind ?_ (fun _ => ?_))
      | exact ih0 _ _ _ _
      | exact ih1 _ _ _ _ _
      | exact ih2 _ _ _ _ _ _ _ _
      | exact ih3 _ _ _ _ _ _ _ _
      | exact ontimelaw45_awake.mono _
      | exact pfair_Heavy.mono _ _ _ _
      | exact pfair_Overlaps.mono _ _ _ _ _
      | exact pfair_Window.mono _ _ _ _ _
      | exact LeO.none _
      | refine LeO.ite ?_ ?_
      | refine LeO.bind ?_ (fun _ => ?_)
    · intro y0 y1 y2 y3 y4 y5 y6 y7
      unfold ontimelaw45_PfairCovers.j2
      repeat' first
      | (with_reducible exact ih0 _ _ _ _)
      | (with_reducible exact ih1 _ _ _ _ _)
      | (with_reducible exact ih2 _ _ _ _ _ _ _ _)
      | (with_reducible exact ih3 _ _ _ _ _ _ _ _)
      | (with_reducible exact ontimelaw45_awake.mono _)
      | (with_reducible exact pfair_Heavy.mono _ _ _ _)
      | (with_reducible exact pfair_Overlaps.mono _ _ _ _ _)
      | (with_reducible exact pfair_Window.mono _ _ _ _ _)
      | (with_reducible exact LeO.refl _)
      | (with_reducible exact LeO.none _)
      | (with_reducible refine LeO.ite ?_ ?_)
      | (with_reducible refine LeO.bind ?_ (fun _ => ?_))
      | exact ih0 _ _ _ _
      | exact ih1 _ _ _ _ _
      | exact ih2 _ _ _ _ _ _ _ _
      | exact ih3 _ _ _ _ _ _ _ _
      | exact ontimelaw45_awake.mono _
      | exact pfair_Heavy.mono _ _ _ _
      | exact pfair_Overlaps.mono _ _ _ _ _
      | exact pfair_Window.mono _ _ _ _ _
      | exact LeO.none _
      | refine LeO.ite ?_ ?_
      | refine LeO.bind ?_ (fun _ => ?_)
    · intro y0 y1 y2 y3 y4 y5 y6 y7
      unfold ontimelaw45_PfairCovers.j3
      repeat' first
      | (with_reducible exact ih0 _ _ _ _)
      | (with_reducible exact ih1 _ _ _ _ _)
      | (with_reducible exact ih2 _ _ _ _ _ _ _ _)
      | (with_reducible exact ih3 _ _ _ _ _ _ _ _)
      | (with_reducible exact ontimelaw45_awake.mono _)
      | (with_reducible exact pfair_Heavy.mono _ _ _ _)
      | (with_reducible exact pfair_Overlaps.mono _ _ _ _ _)
      | (with_reducible exact pfair_Window.mono _ _ _ _ _)
      | (with_reducible exact LeO.refl _)
      | (with_reducible exact LeO.none _)
      | (with_reducible refine LeO.ite ?_ ?_)
      | (with_reducible refine LeO.bind ?_ (fun _ => ?_))
      | exact ih0 _ _ _ _
      | exact ih1 _ _ _ _ _
      | exact ih2 _ _ _ _ _ _ _ _
      | exact ih3 _ _ _ _ _ _ _ _
      | exact ontimelaw45_awake.mono _
      | exact pfair_Heavy.mono _ _ _ _
      | exact pfair_Overlaps.mono _ _ _ _ _
      | exact pfair_Window.mono _ _ _ _ _
      | exact LeO.none _
      | refine LeO.ite ?_ ?_
      | refine LeO.bind ?_ (fun _ => ?_)
theorem ontimelaw45_PfairCovers.mono : ∀ a0 a1 a2 k, LeO (ontimelaw45_PfairCovers.f k a0 a1 a2) (ontimelaw45_PfairCovers.f (k + 1) a0 a1 a2) := by
  intro a0 a1 a2 k
  obtain ⟨ih0, ih1, ih2, ih3⟩ := ontimelaw45_PfairCovers.mono_l k
  unfold ontimelaw45_PfairCovers.f
  repeat' first
      | (with_reducible exact ih0 _ _ _ _)
      | (with_reducible exact ih1 _ _ _ _ _)
      | (with_reducible exact ih2 _ _ _ _ _ _ _ _)
      | (with_reducible exact ih3 _ _ _ _ _ _ _ _)
      | (with_reducible exact ontimelaw45_awake.mono _)
      | (with_reducible exact pfair_Heavy.mono _ _ _ _)
      | (with_reducible exact pfair_Overlaps.mono _ _ _ _ _)
      | (with_reducible exact pfair_Window.mono _ _ _ _ _)
      | (with_reducible exact LeO.refl _)
      | (with_reducible exact LeO.none _)
      | (with_reducible refine LeO.ite ?_ ?_)
      | (with_reducible refine LeO.bind ?_ (fun _ => ?_))
      | exact ih0 _ _ _ _
      | exact ih1 _ _ _ _ _
      | exact ih2 _ _ _ _ _ _ _ _
      | exact ih3 _ _ _ _ _ _ _ _
      | exact ontimelaw45_awake.mono _
      | exact pfair_Heavy.mono _ _ _ _
      | exact pfair_Overlaps.mono _ _ _ _ _
      | exact pfair_Window.mono _ _ _ _ _
      | exact LeO.none _
      | refine LeO.ite ?_ ?_
      | refine LeO.bind ?_ (fun _ => ?_)
set_option maxHeartbeats 8000000 in
set_option maxRecDepth 100000 in
theorem ontimelaw45_PfairCovers.calls (k : Nat) (a0_0 : ByteArray) (a0_1 : Int) (a0_2 : Int) (r : Bool) (w : World) (h : ontimelaw45_PfairCovers.f k a0_0 a0_1 a0_2 = some r) :
    Calls Try.prog 4 #[.agg #[.string a0_0, .int .i64 a0_1, .int .i64 a0_2]] w fun e w' => e = .returned (.bool r) ∧ Below w.heap.size w w' := by
  have hu23 := Try.underlying23
  have hu26 := Try.underlying26
  have HB := Aside0.mk (Below.refl w.heap.size w)
  have H : ((ontimelaw45_awake.f k).bind fun t166 => (if t166 = true then (if a0_2 > 200 then (ontimelaw45_PfairCovers.j0 k true a0_0 a0_1 a0_2) else (if a0_1 < 1 then (ontimelaw45_PfairCovers.j0 k true a0_0 a0_1 a0_2) else (ontimelaw45_PfairCovers.j0 k (decide (a0_1 > a0_2)) a0_0 a0_1 a0_2))) else (some false))) = some r := h
  clear h
  replace H := Option.bind_eq_some_iff.mp H
  obtain ⟨t166, A20, H⟩ := H
  replace H : (if t166 = true then (if a0_2 > 200 then (ontimelaw45_PfairCovers.j0 k true a0_0 a0_1 a0_2) else (if a0_1 < 1 then (ontimelaw45_PfairCovers.j0 k true a0_0 a0_1 a0_2) else (ontimelaw45_PfairCovers.j0 k (decide (a0_1 > a0_2)) a0_0 a0_1 a0_2))) else (some false)) = some r := H
  have A2 := Aside0.mk A20
  clear A20
  by_cases c3 : t166 = true
  · subst c3
    have H1 : (if a0_2 > 200 then (ontimelaw45_PfairCovers.j0 k true a0_0 a0_1 a0_2) else (if a0_1 < 1 then (ontimelaw45_PfairCovers.j0 k true a0_0 a0_1 a0_2) else (ontimelaw45_PfairCovers.j0 k (decide (a0_1 > a0_2)) a0_0 a0_1 a0_2))) = some r := by rw [if_pos rfl] at H; exact H
    clear H
    have H := H1
    clear H1
    have HC4 := Aside0.mk H
    clear H
    go_enter Try.func4, Try.ntmps4
    go_upto_region 3 with (first | ((with_reducible refine gate_dst (N := 1) rfl ?_); refine box_event ?hg (N := 1) ?hd (cs := #[.string a0_0, .int .i64 a0_1, .int .i64 a0_2]) (t := 23) ?hr ?_; (case hd => rfl); (case hg => rfl); (case hr => first | (go_simp; done) | (go_simp; rfl)); intro gb165 hg w5 hbox hb; have n0_ := Aside0.mk (below_step (by repeat (first | (with_reducible first | exact HB.out | apply below_alloc | apply pw_below_drewN | apply below_drew1) | exact HB.out)) hb); have n1_ := Aside0.mk (hbox); have n2_ := Aside0.mk ((by rw [hg]; exact (below_size (by repeat (first | (with_reducible first | exact HB.out | apply below_alloc | apply pw_below_drewN | apply below_drew1) | exact HB.out))) : w.heap.size ≤ gb165)); have n3_ := Aside0.mk ((by rw [hg]; exact (below_size (by repeat (first | (with_reducible first | exact HB.out | apply below_alloc | apply pw_below_drewN | apply below_drew1) | exact HB.out))) : w.heap.size ≤ gb165)); clear HB; have HB := n0_; have BK165 := n1_; have GW165 := n2_; have GE165 := n3_; clear n0_ n1_ n2_ n3_; clear hb hbox hg) | ((with_reducible refine gate_callee (f := 11) rfl ?_); refine goesL_ (some 8) rfl rfl Try.func11 (by kernel_rfl) rfl #[] rfl (by (try simp only [List.map_toArray, List.map_cons, List.map_nil]); first | done | rfl | (simp only [List.length_drop, List.length_take]; rfl)) ?_; (with_reducible refine (ontimelaw45_awake.calls k  true _ A2.out).mono ?_); rintro e w6 ⟨rfl, hb⟩; refine ⟨_, rfl, ?_⟩; have n0_ := Aside0.mk (blk_below (g := gb165) (o := .cells #[.string a0_0, .int .i64 a0_1, .int .i64 a0_2] 23 (0, 0)) (by (with_reducible repeat (first | refine blk_drewN ?_ _ | refine blk_drew ?_ | refine blk_alloc ?_ _)); exact BK165.out) hb); have n1_ := Aside0.mk (below_step (by repeat (first | (with_reducible first | exact HB.out | apply below_alloc | apply pw_below_drewN | apply below_drew1 | refine below_set ?_ GE165.out) | exact HB.out)) hb); clear BK165; clear HB; have BK165 := n0_; have HB := n1_; clear n0_ n1_; (try clear hb); (try clear hb2); (try clear hk); (try clear hi)))
    (try simp only [Act.put, List.setIfInBounds_toArray, List.set_cons_zero, List.set_cons_succ])
    go_cut [24] (fun v24 wc => ∃ (kq : Nat) (x24_3 : Bool), v24 = .bool x24_3 ∧ Aside0 (ontimelaw45_PfairCovers.j0 kq x24_3 a0_0 a0_1 a0_2 = some r) ∧ Aside0 (kq ≤ k) ∧ Aside0 (wc.heap[gb165]? = some (.cells #[.string a0_0, .int .i64 a0_1, .int .i64 a0_2] 23 (0, 0))) ∧ Aside0 (Below w.heap.size w wc))
    case first =>
      have H := HC4.out
      clear HC4
      by_cases c7 : a0_2 > 200
      · rw [if_pos c7] at H
        have c7b0 : decide (200 < a0_2) = true := decide_eq_true c7
        clear c7
        (first | rw [c7b0] | (simp only [i64_w, i32_w]; rw [c7b0]) | skip)
        have H' := Aside0.mk H
        clear H
        have hcz8_0 : w6.cell? ⟨gb165, 0, none⟩ = some (.string a0_0) := (blk_cell BK165.out 0).trans rfl
        have hcz8_1 : w6.cell? ⟨gb165, 1, none⟩ = some (.int .i64 a0_1) := (blk_cell BK165.out 1).trans rfl
        have hcz8_2 : w6.cell? ⟨gb165, 2, none⟩ = some (.int .i64 a0_2) := (blk_cell BK165.out 2).trans rfl
        have hfz8_0 := blk_frozen BK165.out 0
        have hfz8_1 := blk_frozen BK165.out 1
        have hfz8_2 := blk_frozen BK165.out 2
        go_wp2
        go_meet
        case rel => exact ⟨_, (true), (by first | rfl | (simp; done) | (simp [*]; done)), H', ⟨by first | omega | exact Nat.le_refl _⟩, ⟨by (with_reducible repeat (first | refine blk_drewN ?_ _ | refine blk_drew ?_ | refine blk_alloc ?_ _)); exact BK165.out⟩, ⟨by repeat (first | (with_reducible first | exact HB.out | apply below_alloc | apply pw_below_drewN | apply below_drew1 | refine below_set ?_ GE165.out) | exact HB.out)⟩⟩
      · rw [if_neg c7] at H
        have c7b0 : decide (200 < a0_2) = false := decide_eq_false c7
        clear c7
        (first | rw [c7b0] | (simp only [i64_w, i32_w]; rw [c7b0]) | skip)
        by_cases c9 : a0_1 < 1
        · rw [if_pos c9] at H
          have c9b0 : decide (a0_1 < 1) = true := decide_eq_true c9
          clear c9
          have H' := Aside0.mk H
          clear H
          have hcz10_0 : w6.cell? ⟨gb165, 0, none⟩ = some (.string a0_0) := (blk_cell BK165.out 0).trans rfl
          have hcz10_1 : w6.cell? ⟨gb165, 1, none⟩ = some (.int .i64 a0_1) := (blk_cell BK165.out 1).trans rfl
          have hcz10_2 : w6.cell? ⟨gb165, 2, none⟩ = some (.int .i64 a0_2) := (blk_cell BK165.out 2).trans rfl
          have hfz10_0 := blk_frozen BK165.out 0
          have hfz10_1 := blk_frozen BK165.out 1
          have hfz10_2 := blk_frozen BK165.out 2
          go_wp2
          go_meet
          case rel => exact ⟨_, (true), (by first | rfl | (simp; done) | (simp [*]; done)), H', ⟨by first | omega | exact Nat.le_refl _⟩, ⟨by (with_reducible repeat (first | refine blk_drewN ?_ _ | refine blk_drew ?_ | refine blk_alloc ?_ _)); exact BK165.out⟩, ⟨by repeat (first | (with_reducible first | exact HB.out | apply below_alloc | apply pw_below_drewN | apply below_drew1 | refine below_set ?_ GE165.out) | exact HB.out)⟩⟩
        · rw [if_neg c9] at H
          have c9b0 : decide (a0_1 < 1) = false := decide_eq_false c9
          clear c9
          have H' := Aside0.mk H
          clear H
          have hcz11_0 : w6.cell? ⟨gb165, 0, none⟩ = some (.string a0_0) := (blk_cell BK165.out 0).trans rfl
          have hcz11_1 : w6.cell? ⟨gb165, 1, none⟩ = some (.int .i64 a0_1) := (blk_cell BK165.out 1).trans rfl
          have hcz11_2 : w6.cell? ⟨gb165, 2, none⟩ = some (.int .i64 a0_2) := (blk_cell BK165.out 2).trans rfl
          have hfz11_0 := blk_frozen BK165.out 0
          have hfz11_1 := blk_frozen BK165.out 1
          have hfz11_2 := blk_frozen BK165.out 2
          go_wp2
          go_meet
          case rel => exact ⟨_, (decide (a0_1 > a0_2)), (by first | rfl | (simp; done) | (simp [*]; done)), H', ⟨by first | omega | exact Nat.le_refl _⟩, ⟨by (with_reducible repeat (first | refine blk_drewN ?_ _ | refine blk_drew ?_ | refine blk_alloc ?_ _)); exact BK165.out⟩, ⟨by repeat (first | (with_reducible first | exact HB.out | apply below_alloc | apply pw_below_drewN | apply below_drew1 | refine below_set ?_ GE165.out) | exact HB.out)⟩⟩
    case rest =>
      clear HC4
      try clear c1
      try clear p2
      try clear c3
      try clear c4
      try clear c7
      try clear c7b0
      try clear c9
      try clear c9b0
      try clear c11
      try clear hcz10_0
      try clear hcz10_1
      try clear hcz10_2
      try clear hcz11_0
      try clear hcz11_1
      try clear hcz11_2
      try clear hcz8_0
      try clear hcz8_1
      try clear hcz8_2
      try clear hfz10_0
      try clear hfz10_1
      try clear hfz10_2
      try clear hfz11_0
      try clear hfz11_1
      try clear hfz11_2
      try clear hfz8_0
      try clear hfz8_1
      try clear hfz8_2
      obtain ⟨kq, x24_3, rfl, HA, HJ3, BK165, HB⟩ := hcut
      cases kq with
      | zero => exact absurd HA.out (by simp [ontimelaw45_PfairCovers.j0])
      | succ kj3 =>
        have H := HA.out
        clear HA
        simp only [ontimelaw45_PfairCovers.j0] at H
        by_cases c12 : x24_3 = true
        · subst c12
          have H1 : (some true) = some r := by rw [if_pos rfl] at H; exact H
          clear H
          have H := H1
          clear H1
          obtain rfl := Option.some.inj H
          go_wp2
          go_ret
          exact ⟨by first | rfl | (simp [errW_none, errW_some] <;> rfl) | (simp [*, errW_none, errW_some] <;> rfl), by repeat (first | (with_reducible first | exact HB.out | apply below_alloc | apply pw_below_drewN | apply below_drew1 | refine below_set ?_ GE165.out) | exact HB.out)⟩
        · replace c12 := Bool.eq_false_iff.mpr c12
          subst c12
          have H1 : (ontimelaw45_PfairCovers.l0 kj3 0 1 a0_0 a0_1 a0_2) = some r := by rw [if_neg (show ¬ (false = true) by decide)] at H; exact H
          clear H
          have H := H1
          clear H1
          have H' := Aside0.mk H
          clear H
          go_wp2
          go_loopg [3, 4] kj3 (fun kq v3 v4 w' => ∃ (x3_2 : Int) (x4_2 : Int), v3 = .int .i64 x3_2 ∧ v4 = .int .i64 x4_2 ∧ Aside0 (ontimelaw45_PfairCovers.l0 kq x3_2 x4_2 a0_0 a0_1 a0_2 = some r) ∧ Aside0 (kq ≤ kj3) ∧ Aside0 (w'.heap[gb165]? = some (.cells #[.string a0_0, .int .i64 a0_1, .int .i64 a0_2] 23 (0, 0))) ∧ Aside0 (Below w.heap.size w w'))
          case atStart => exact ⟨(0), (1), (by first | rfl | (simp; done) | (simp [*]; done)), (by first | rfl | (simp; done) | (simp [*]; done)), H', ⟨Nat.le_refl _⟩, ⟨by (with_reducible repeat (first | refine blk_drewN ?_ _ | refine blk_drew ?_ | refine blk_alloc ?_ _)); exact BK165.out⟩, ⟨by repeat (first | (with_reducible first | exact HB.out | apply below_alloc | apply pw_below_drewN | apply below_drew1 | refine below_set ?_ GE165.out) | exact HB.out)⟩⟩
          case round =>
            clear H'
            try clear c1
            try clear p2
            try clear c3
            try clear c4
            try clear c7
            try clear c7b0
            try clear c9
            try clear c9b0
            try clear c11
            try clear c12
            try clear hcz10_0
            try clear hcz10_1
            try clear hcz10_2
            try clear hcz11_0
            try clear hcz11_1
            try clear hcz11_2
            try clear hcz8_0
            try clear hcz8_1
            try clear hcz8_2
            try clear hfz10_0
            try clear hfz10_1
            try clear hfz10_2
            try clear hfz11_0
            try clear hfz11_1
            try clear hfz11_2
            try clear hfz8_0
            try clear hfz8_1
            try clear hfz8_2
            try clear p2
            obtain ⟨x3_2, x4_2, rfl, rfl, HA, HK2, BK165, HB⟩ := hrel
            cases gk with
            | zero => exact absurd HA.out (by simp [ontimelaw45_PfairCovers.l0])
            | succ k2 =>
              have H := HA.out
              clear HA
              simp only [ontimelaw45_PfairCovers.l0] at H
              by_cases c13 : x4_2 ≤ a0_1
              · rw [if_pos c13] at H
                have c13b0 : decide (x4_2 ≤ a0_1) = true := decide_eq_true c13
                clear c13
                replace H := Option.bind_eq_some_iff.mp H
                obtain ⟨⟨t167, t168, t169, t170⟩, A140, H⟩ := H
                replace H : (if t170 = 0 then (if t167 = x4_2 then (if t169 ≤ t168 then (ontimelaw45_PfairCovers.j2 k2 x4_2 true a0_0 a0_1 a0_2 t167 t168 t169) else (if x4_2 = 1 then (if t168 = 0 then (if x4_2 > 1 then (ontimelaw45_PfairCovers.j2 k2 x4_2 (t168 != x3_2) a0_0 a0_1 a0_2 t167 t168 t169) else (ontimelaw45_PfairCovers.j2 k2 x4_2 false a0_0 a0_1 a0_2 t167 t168 t169)) else (ontimelaw45_PfairCovers.j2 k2 x4_2 true a0_0 a0_1 a0_2 t167 t168 t169)) else (if x4_2 > 1 then (ontimelaw45_PfairCovers.j2 k2 x4_2 (t168 != x3_2) a0_0 a0_1 a0_2 t167 t168 t169) else (ontimelaw45_PfairCovers.j2 k2 x4_2 false a0_0 a0_1 a0_2 t167 t168 t169)))) else (ontimelaw45_PfairCovers.j2 k2 x4_2 true a0_0 a0_1 a0_2 t167 t168 t169)) else (ontimelaw45_PfairCovers.j2 k2 x4_2 true a0_0 a0_1 a0_2 t167 t168 t169)) = some r := H
                have A14 := Aside0.mk A140
                clear A140
                have HC15 := Aside0.mk H
                clear H
                have hcz16_0 : wr.cell? ⟨gb165, 0, none⟩ = some (.string a0_0) := (blk_cell BK165.out 0).trans rfl
                have hcz16_1 : wr.cell? ⟨gb165, 1, none⟩ = some (.int .i64 a0_1) := (blk_cell BK165.out 1).trans rfl
                have hcz16_2 : wr.cell? ⟨gb165, 2, none⟩ = some (.int .i64 a0_2) := (blk_cell BK165.out 2).trans rfl
                have hfz16_0 := blk_frozen BK165.out 0
                have hfz16_1 := blk_frozen BK165.out 1
                have hfz16_2 := blk_frozen BK165.out 2
                go_upto_region 10 with (first | ((with_reducible refine gate_callee (f := 12) rfl ?_); refine goesL_ (some 34) rfl rfl Try.func12 (by kernel_rfl) rfl #[.agg #[.string a0_0, .int .i64 a0_1, .int .i64 a0_2], .int .i64 x4_2] rfl (by (try simp only [List.map_toArray, List.map_cons, List.map_nil]); first | done | rfl | (simp only [List.length_drop, List.length_take]; rfl)) ?_; (with_reducible refine (pfair_Window.calls k2 a0_0 a0_1 a0_2 x4_2 t167 t168 t169 t170 _ A14.out).mono ?_); rintro e w17 ⟨rfl, hb⟩; refine ⟨_, rfl, ?_⟩; have n0_ := Aside0.mk (blk_below (g := gb165) (o := .cells #[.string a0_0, .int .i64 a0_1, .int .i64 a0_2] 23 (0, 0)) (by (with_reducible repeat (first | refine blk_drewN ?_ _ | refine blk_drew ?_ | refine blk_alloc ?_ _)); exact BK165.out) hb); have n1_ := Aside0.mk (below_step (by repeat (first | (with_reducible first | exact HB.out | apply below_alloc | apply pw_below_drewN | apply below_drew1 | refine below_set ?_ GE165.out) | exact HB.out)) hb); clear BK165; clear HB; have BK165 := n0_; have HB := n1_; clear n0_ n1_; (try clear hb); (try clear hb2); (try clear hk); (try clear hi)) | ((with_reducible refine gate_dst (N := 5) rfl ?_); refine box_event ?hg (N := 5) ?hd (cs := #[.int .i64 0, .int .i64 0, .int .i64 0]) (t := 26) ?hr ?_; (case hd => rfl); (case hg => rfl); (case hr => first | (go_simp; done) | (go_simp; rfl)); intro gb171 hg w18 hbox hb; have n0_ := Aside0.mk (blk_below (g := gb165) (o := .cells #[.string a0_0, .int .i64 a0_1, .int .i64 a0_2] 23 (0, 0)) (by (with_reducible repeat (first | refine blk_drewN ?_ _ | refine blk_drew ?_ | refine blk_alloc ?_ _)); exact BK165.out) hb); have n1_ := Aside0.mk (below_step (by repeat (first | (with_reducible first | exact HB.out | apply below_alloc | apply pw_below_drewN | apply below_drew1 | refine below_set ?_ GE165.out) | exact HB.out)) hb); have n2_ := Aside0.mk (hbox); have n3_ := Aside0.mk ((by rw [hg]; exact (below_size (by repeat (first | (with_reducible first | exact HB.out | apply below_alloc | apply pw_below_drewN | apply below_drew1 | refine below_set ?_ GE165.out) | exact HB.out))) : w.heap.size ≤ gb171)); have n4_ := Aside0.mk ((by rw [hg]; exact (below_size (by repeat (first | (with_reducible first | exact HB.out | apply below_alloc | apply pw_below_drewN | apply below_drew1 | refine below_set ?_ GE165.out) | exact HB.out))) : w.heap.size ≤ gb171)); have n5_ := Aside0.mk ((by rw [hg]; exact Nat.ne_of_lt (blk_lt (g := gb165) (o := .cells #[.string a0_0, .int .i64 a0_1, .int .i64 a0_2] 23 (0, 0)) (by (with_reducible repeat (first | refine blk_drewN ?_ _ | refine blk_drew ?_ | refine blk_alloc ?_ _)); exact BK165.out)) : gb165 ≠ gb171)); have n6_ := Aside0.mk ((by rw [hg]; exact Nat.ne_of_gt (blk_lt (g := gb165) (o := .cells #[.string a0_0, .int .i64 a0_1, .int .i64 a0_2] 23 (0, 0)) (by (with_reducible repeat (first | refine blk_drewN ?_ _ | refine blk_drew ?_ | refine blk_alloc ?_ _)); exact BK165.out)) : gb171 ≠ gb165)); clear BK165; clear HB; have BK165 := n0_; have HB := n1_; have BK171 := n2_; have GW171 := n3_; have GE171 := n4_; have NB165_171 := n5_; have NB171_165 := n6_; clear n0_ n1_ n2_ n3_ n4_ n5_ n6_; clear hb hbox hg; have hnb19 := NB171_165.out; have hnc19 := NB165_171.out; have hcz20_0 : w18.cell? ⟨gb171, 0, none⟩ = some (.int .i64 0) := (blk_cell BK171.out 0).trans rfl; have hcz20_1 : w18.cell? ⟨gb171, 1, none⟩ = some (.int .i64 0) := (blk_cell BK171.out 1).trans rfl; have hcz20_2 : w18.cell? ⟨gb171, 2, none⟩ = some (.int .i64 0) := (blk_cell BK171.out 2).trans rfl; have hfz20_0 := blk_frozen BK171.out 0; have hfz20_1 := blk_frozen BK171.out 1; have hfz20_2 := blk_frozen BK171.out 2))
                (try simp only [Act.put, List.setIfInBounds_toArray, List.set_cons_zero, List.set_cons_succ])
                go_cut [70] (fun v70 wc => ∃ (kq : Nat) (x70_14 : Bool), v70 = .bool x70_14 ∧ Aside0 (ontimelaw45_PfairCovers.j2 kq x4_2 x70_14 a0_0 a0_1 a0_2 t167 t168 t169 = some r) ∧ Aside0 (kq ≤ k2) ∧ Aside0 (wc.heap[gb165]? = some (.cells #[.string a0_0, .int .i64 a0_1, .int .i64 a0_2] 23 (0, 0))) ∧ Aside0 (wc.heap[gb171]? = some (.cells #[.int .i64 t167, .int .i64 t168, .int .i64 t169] 26 (0, 0))) ∧ Aside0 (Below w.heap.size w wc))
                case first =>
                  have H := HC15.out
                  clear HC15
                  by_cases c21 : t170 = 0
                  · rw [if_pos c21] at H
                    have c21b0 : (t170 == 0) = true := beq_iff_eq.mpr c21
                    have c21b1 : (t170 != 0) = false := bne_eq_false_iff_eq.mpr c21
                    clear c21
                    (first | rw [c21b0] | (simp only [i64_w, i32_w]; rw [c21b0]) | skip)
                    by_cases c22 : t167 = x4_2
                    · rw [if_pos c22] at H
                      have c22b0 : (t167 == x4_2) = true := beq_iff_eq.mpr c22
                      have c22b1 : (t167 != x4_2) = false := bne_eq_false_iff_eq.mpr c22
                      clear c22
                      by_cases c23 : t169 ≤ t168
                      · rw [if_pos c23] at H
                        have c23b0 : decide (t169 ≤ t168) = true := decide_eq_true c23
                        clear c23
                        have H' := Aside0.mk H
                        clear H
                        have hnb24 := NB171_165.out
                        have hnc24 := NB165_171.out
                        have hcz25_0 : w18.cell? ⟨gb171, 0, none⟩ = some (.int .i64 0) := (blk_cell BK171.out 0).trans rfl
                        have hcz25_1 : w18.cell? ⟨gb171, 1, none⟩ = some (.int .i64 0) := (blk_cell BK171.out 1).trans rfl
                        have hcz25_2 : w18.cell? ⟨gb171, 2, none⟩ = some (.int .i64 0) := (blk_cell BK171.out 2).trans rfl
                        have hfz25_0 := blk_frozen BK171.out 0
                        have hfz25_1 := blk_frozen BK171.out 1
                        have hfz25_2 := blk_frozen BK171.out 2
                        go_wp2
                        go_meet
                        case rel => exact ⟨_, (true), (by first | rfl | (simp; done) | (simp [*]; done)), H', ⟨by have := HJ3.out; have := HK2.out; first | omega | exact Nat.le_refl _⟩, ⟨by (with_reducible repeat (first | refine blk_drewN ?_ _ | refine blk_drew ?_ | refine blk_alloc ?_ _)); refine blk_far ?_ NB165_171.out _; (with_reducible repeat (first | refine blk_drewN ?_ _ | refine blk_drew ?_ | refine blk_alloc ?_ _)); refine blk_far ?_ NB165_171.out _; (with_reducible repeat (first | refine blk_drewN ?_ _ | refine blk_drew ?_ | refine blk_alloc ?_ _)); refine blk_far ?_ NB165_171.out _; (with_reducible repeat (first | refine blk_drewN ?_ _ | refine blk_drew ?_ | refine blk_alloc ?_ _)); exact BK165.out⟩, ⟨by (with_reducible repeat (first | refine blk_drewN ?_ _ | refine blk_drew ?_ | refine blk_alloc ?_ _)); refine blk_put (cs := #[.int .i64 t167, .int .i64 t168, .int .i64 0]) ?_ 2 _ rfl; (with_reducible repeat (first | refine blk_drewN ?_ _ | refine blk_drew ?_ | refine blk_alloc ?_ _)); refine blk_put (cs := #[.int .i64 t167, .int .i64 0, .int .i64 0]) ?_ 1 _ rfl; (with_reducible repeat (first | refine blk_drewN ?_ _ | refine blk_drew ?_ | refine blk_alloc ?_ _)); refine blk_put (cs := #[.int .i64 0, .int .i64 0, .int .i64 0]) ?_ 0 _ rfl; (with_reducible repeat (first | refine blk_drewN ?_ _ | refine blk_drew ?_ | refine blk_alloc ?_ _)); exact BK171.out⟩, ⟨by repeat (first | (with_reducible first | exact HB.out | apply below_alloc | apply pw_below_drewN | apply below_drew1 | refine below_set ?_ GE165.out | refine below_set ?_ GE171.out) | exact HB.out)⟩⟩
                      · rw [if_neg c23] at H
                        have c23b0 : decide (t169 ≤ t168) = false := decide_eq_false c23
                        clear c23
                        by_cases c26 : x4_2 = 1
                        · rw [if_pos c26] at H
                          have c26b0 : (x4_2 == 1) = true := beq_iff_eq.mpr c26
                          have c26b1 : (x4_2 != 1) = false := bne_eq_false_iff_eq.mpr c26
                          clear c26
                          by_cases c27 : t168 = 0
                          · rw [if_pos c27] at H
                            have c27b0 : (t168 == 0) = true := beq_iff_eq.mpr c27
                            have c27b1 : (t168 != 0) = false := bne_eq_false_iff_eq.mpr c27
                            clear c27
                            by_cases c28 : x4_2 > 1
                            · rw [if_pos c28] at H
                              have c28b0 : decide (1 < x4_2) = true := decide_eq_true c28
                              clear c28
                              have H' := Aside0.mk H
                              clear H
                              have hnb29 := NB171_165.out
                              have hnc29 := NB165_171.out
                              have hcz30_0 : w18.cell? ⟨gb171, 0, none⟩ = some (.int .i64 0) := (blk_cell BK171.out 0).trans rfl
                              have hcz30_1 : w18.cell? ⟨gb171, 1, none⟩ = some (.int .i64 0) := (blk_cell BK171.out 1).trans rfl
                              have hcz30_2 : w18.cell? ⟨gb171, 2, none⟩ = some (.int .i64 0) := (blk_cell BK171.out 2).trans rfl
                              have hfz30_0 := blk_frozen BK171.out 0
                              have hfz30_1 := blk_frozen BK171.out 1
                              have hfz30_2 := blk_frozen BK171.out 2
                              go_wp2
                              go_meet
                              case rel => exact ⟨_, ((t168 != x3_2)), (by first | rfl | (simp; done) | (simp [*]; done)), H', ⟨by have := HJ3.out; have := HK2.out; first | omega | exact Nat.le_refl _⟩, ⟨by (with_reducible repeat (first | refine blk_drewN ?_ _ | refine blk_drew ?_ | refine blk_alloc ?_ _)); refine blk_far ?_ NB165_171.out _; (with_reducible repeat (first | refine blk_drewN ?_ _ | refine blk_drew ?_ | refine blk_alloc ?_ _)); refine blk_far ?_ NB165_171.out _; (with_reducible repeat (first | refine blk_drewN ?_ _ | refine blk_drew ?_ | refine blk_alloc ?_ _)); refine blk_far ?_ NB165_171.out _; (with_reducible repeat (first | refine blk_drewN ?_ _ | refine blk_drew ?_ | refine blk_alloc ?_ _)); exact BK165.out⟩, ⟨by (with_reducible repeat (first | refine blk_drewN ?_ _ | refine blk_drew ?_ | refine blk_alloc ?_ _)); refine blk_put (cs := #[.int .i64 t167, .int .i64 t168, .int .i64 0]) ?_ 2 _ rfl; (with_reducible repeat (first | refine blk_drewN ?_ _ | refine blk_drew ?_ | refine blk_alloc ?_ _)); refine blk_put (cs := #[.int .i64 t167, .int .i64 0, .int .i64 0]) ?_ 1 _ rfl; (with_reducible repeat (first | refine blk_drewN ?_ _ | refine blk_drew ?_ | refine blk_alloc ?_ _)); refine blk_put (cs := #[.int .i64 0, .int .i64 0, .int .i64 0]) ?_ 0 _ rfl; (with_reducible repeat (first | refine blk_drewN ?_ _ | refine blk_drew ?_ | refine blk_alloc ?_ _)); exact BK171.out⟩, ⟨by repeat (first | (with_reducible first | exact HB.out | apply below_alloc | apply pw_below_drewN | apply below_drew1 | refine below_set ?_ GE165.out | refine below_set ?_ GE171.out) | exact HB.out)⟩⟩
                            · rw [if_neg c28] at H
                              have c28b0 : decide (1 < x4_2) = false := decide_eq_false c28
                              clear c28
                              have H' := Aside0.mk H
                              clear H
                              have hnb31 := NB171_165.out
                              have hnc31 := NB165_171.out
                              have hcz32_0 : w18.cell? ⟨gb171, 0, none⟩ = some (.int .i64 0) := (blk_cell BK171.out 0).trans rfl
                              have hcz32_1 : w18.cell? ⟨gb171, 1, none⟩ = some (.int .i64 0) := (blk_cell BK171.out 1).trans rfl
                              have hcz32_2 : w18.cell? ⟨gb171, 2, none⟩ = some (.int .i64 0) := (blk_cell BK171.out 2).trans rfl
                              have hfz32_0 := blk_frozen BK171.out 0
                              have hfz32_1 := blk_frozen BK171.out 1
                              have hfz32_2 := blk_frozen BK171.out 2
                              go_wp2
                              go_meet
                              case rel => exact ⟨_, (false), (by first | rfl | (simp; done) | (simp [*]; done)), H', ⟨by have := HJ3.out; have := HK2.out; first | omega | exact Nat.le_refl _⟩, ⟨by (with_reducible repeat (first | refine blk_drewN ?_ _ | refine blk_drew ?_ | refine blk_alloc ?_ _)); refine blk_far ?_ NB165_171.out _; (with_reducible repeat (first | refine blk_drewN ?_ _ | refine blk_drew ?_ | refine blk_alloc ?_ _)); refine blk_far ?_ NB165_171.out _; (with_reducible repeat (first | refine blk_drewN ?_ _ | refine blk_drew ?_ | refine blk_alloc ?_ _)); refine blk_far ?_ NB165_171.out _; (with_reducible repeat (first | refine blk_drewN ?_ _ | refine blk_drew ?_ | refine blk_alloc ?_ _)); exact BK165.out⟩, ⟨by (with_reducible repeat (first | refine blk_drewN ?_ _ | refine blk_drew ?_ | refine blk_alloc ?_ _)); refine blk_put (cs := #[.int .i64 t167, .int .i64 t168, .int .i64 0]) ?_ 2 _ rfl; (with_reducible repeat (first | refine blk_drewN ?_ _ | refine blk_drew ?_ | refine blk_alloc ?_ _)); refine blk_put (cs := #[.int .i64 t167, .int .i64 0, .int .i64 0]) ?_ 1 _ rfl; (with_reducible repeat (first | refine blk_drewN ?_ _ | refine blk_drew ?_ | refine blk_alloc ?_ _)); refine blk_put (cs := #[.int .i64 0, .int .i64 0, .int .i64 0]) ?_ 0 _ rfl; (with_reducible repeat (first | refine blk_drewN ?_ _ | refine blk_drew ?_ | refine blk_alloc ?_ _)); exact BK171.out⟩, ⟨by repeat (first | (with_reducible first | exact HB.out | apply below_alloc | apply pw_below_drewN | apply below_drew1 | refine below_set ?_ GE165.out | refine below_set ?_ GE171.out) | exact HB.out)⟩⟩
                          · rw [if_neg c27] at H
                            have c27b0 : (t168 == 0) = false := beq_eq_false_iff_ne.mpr c27
                            have c27b1 : (t168 != 0) = true := bne_iff_ne.mpr c27
                            have H' := Aside0.mk H
                            clear H
                            have hnb33 := NB171_165.out
                            have hnc33 := NB165_171.out
                            have hcz34_0 : w18.cell? ⟨gb171, 0, none⟩ = some (.int .i64 0) := (blk_cell BK171.out 0).trans rfl
                            have hcz34_1 : w18.cell? ⟨gb171, 1, none⟩ = some (.int .i64 0) := (blk_cell BK171.out 1).trans rfl
                            have hcz34_2 : w18.cell? ⟨gb171, 2, none⟩ = some (.int .i64 0) := (blk_cell BK171.out 2).trans rfl
                            have hfz34_0 := blk_frozen BK171.out 0
                            have hfz34_1 := blk_frozen BK171.out 1
                            have hfz34_2 := blk_frozen BK171.out 2
                            go_wp2
                            go_meet
                            case rel => exact ⟨_, (true), (by first | rfl | (simp; done) | (simp [*]; done)), H', ⟨by have := HJ3.out; have := HK2.out; first | omega | exact Nat.le_refl _⟩, ⟨by (with_reducible repeat (first | refine blk_drewN ?_ _ | refine blk_drew ?_ | refine blk_alloc ?_ _)); refine blk_far ?_ NB165_171.out _; (with_reducible repeat (first | refine blk_drewN ?_ _ | refine blk_drew ?_ | refine blk_alloc ?_ _)); refine blk_far ?_ NB165_171.out _; (with_reducible repeat (first | refine blk_drewN ?_ _ | refine blk_drew ?_ | refine blk_alloc ?_ _)); refine blk_far ?_ NB165_171.out _; (with_reducible repeat (first | refine blk_drewN ?_ _ | refine blk_drew ?_ | refine blk_alloc ?_ _)); exact BK165.out⟩, ⟨by (with_reducible repeat (first | refine blk_drewN ?_ _ | refine blk_drew ?_ | refine blk_alloc ?_ _)); refine blk_put (cs := #[.int .i64 t167, .int .i64 t168, .int .i64 0]) ?_ 2 _ rfl; (with_reducible repeat (first | refine blk_drewN ?_ _ | refine blk_drew ?_ | refine blk_alloc ?_ _)); refine blk_put (cs := #[.int .i64 t167, .int .i64 0, .int .i64 0]) ?_ 1 _ rfl; (with_reducible repeat (first | refine blk_drewN ?_ _ | refine blk_drew ?_ | refine blk_alloc ?_ _)); refine blk_put (cs := #[.int .i64 0, .int .i64 0, .int .i64 0]) ?_ 0 _ rfl; (with_reducible repeat (first | refine blk_drewN ?_ _ | refine blk_drew ?_ | refine blk_alloc ?_ _)); exact BK171.out⟩, ⟨by repeat (first | (with_reducible first | exact HB.out | apply below_alloc | apply pw_below_drewN | apply below_drew1 | refine below_set ?_ GE165.out | refine below_set ?_ GE171.out) | exact HB.out)⟩⟩
                        · rw [if_neg c26] at H
                          have c26b0 : (x4_2 == 1) = false := beq_eq_false_iff_ne.mpr c26
                          have c26b1 : (x4_2 != 1) = true := bne_iff_ne.mpr c26
                          by_cases c35 : x4_2 > 1
                          · rw [if_pos c35] at H
                            have c35b0 : decide (1 < x4_2) = true := decide_eq_true c35
                            clear c35
                            have H' := Aside0.mk H
                            clear H
                            have hnb36 := NB171_165.out
                            have hnc36 := NB165_171.out
                            have hcz37_0 : w18.cell? ⟨gb171, 0, none⟩ = some (.int .i64 0) := (blk_cell BK171.out 0).trans rfl
                            have hcz37_1 : w18.cell? ⟨gb171, 1, none⟩ = some (.int .i64 0) := (blk_cell BK171.out 1).trans rfl
                            have hcz37_2 : w18.cell? ⟨gb171, 2, none⟩ = some (.int .i64 0) := (blk_cell BK171.out 2).trans rfl
                            have hfz37_0 := blk_frozen BK171.out 0
                            have hfz37_1 := blk_frozen BK171.out 1
                            have hfz37_2 := blk_frozen BK171.out 2
                            go_wp2
                            go_meet
                            case rel => exact ⟨_, ((t168 != x3_2)), (by first | rfl | (simp; done) | (simp [*]; done)), H', ⟨by have := HJ3.out; have := HK2.out; first | omega | exact Nat.le_refl _⟩, ⟨by (with_reducible repeat (first | refine blk_drewN ?_ _ | refine blk_drew ?_ | refine blk_alloc ?_ _)); refine blk_far ?_ NB165_171.out _; (with_reducible repeat (first | refine blk_drewN ?_ _ | refine blk_drew ?_ | refine blk_alloc ?_ _)); refine blk_far ?_ NB165_171.out _; (with_reducible repeat (first | refine blk_drewN ?_ _ | refine blk_drew ?_ | refine blk_alloc ?_ _)); refine blk_far ?_ NB165_171.out _; (with_reducible repeat (first | refine blk_drewN ?_ _ | refine blk_drew ?_ | refine blk_alloc ?_ _)); exact BK165.out⟩, ⟨by (with_reducible repeat (first | refine blk_drewN ?_ _ | refine blk_drew ?_ | refine blk_alloc ?_ _)); refine blk_put (cs := #[.int .i64 t167, .int .i64 t168, .int .i64 0]) ?_ 2 _ rfl; (with_reducible repeat (first | refine blk_drewN ?_ _ | refine blk_drew ?_ | refine blk_alloc ?_ _)); refine blk_put (cs := #[.int .i64 t167, .int .i64 0, .int .i64 0]) ?_ 1 _ rfl; (with_reducible repeat (first | refine blk_drewN ?_ _ | refine blk_drew ?_ | refine blk_alloc ?_ _)); refine blk_put (cs := #[.int .i64 0, .int .i64 0, .int .i64 0]) ?_ 0 _ rfl; (with_reducible repeat (first | refine blk_drewN ?_ _ | refine blk_drew ?_ | refine blk_alloc ?_ _)); exact BK171.out⟩, ⟨by repeat (first | (with_reducible first | exact HB.out | apply below_alloc | apply pw_below_drewN | apply below_drew1 | refine below_set ?_ GE165.out | refine below_set ?_ GE171.out) | exact HB.out)⟩⟩
                          · rw [if_neg c35] at H
                            have c35b0 : decide (1 < x4_2) = false := decide_eq_false c35
                            clear c35
                            have H' := Aside0.mk H
                            clear H
                            have hnb38 := NB171_165.out
                            have hnc38 := NB165_171.out
                            have hcz39_0 : w18.cell? ⟨gb171, 0, none⟩ = some (.int .i64 0) := (blk_cell BK171.out 0).trans rfl
                            have hcz39_1 : w18.cell? ⟨gb171, 1, none⟩ = some (.int .i64 0) := (blk_cell BK171.out 1).trans rfl
                            have hcz39_2 : w18.cell? ⟨gb171, 2, none⟩ = some (.int .i64 0) := (blk_cell BK171.out 2).trans rfl
                            have hfz39_0 := blk_frozen BK171.out 0
                            have hfz39_1 := blk_frozen BK171.out 1
                            have hfz39_2 := blk_frozen BK171.out 2
                            go_wp2
                            go_meet
                            case rel => exact ⟨_, (false), (by first | rfl | (simp; done) | (simp [*]; done)), H', ⟨by have := HJ3.out; have := HK2.out; first | omega | exact Nat.le_refl _⟩, ⟨by (with_reducible repeat (first | refine blk_drewN ?_ _ | refine blk_drew ?_ | refine blk_alloc ?_ _)); refine blk_far ?_ NB165_171.out _; (with_reducible repeat (first | refine blk_drewN ?_ _ | refine blk_drew ?_ | refine blk_alloc ?_ _)); refine blk_far ?_ NB165_171.out _; (with_reducible repeat (first | refine blk_drewN ?_ _ | refine blk_drew ?_ | refine blk_alloc ?_ _)); refine blk_far ?_ NB165_171.out _; (with_reducible repeat (first | refine blk_drewN ?_ _ | refine blk_drew ?_ | refine blk_alloc ?_ _)); exact BK165.out⟩, ⟨by (with_reducible repeat (first | refine blk_drewN ?_ _ | refine blk_drew ?_ | refine blk_alloc ?_ _)); refine blk_put (cs := #[.int .i64 t167, .int .i64 t168, .int .i64 0]) ?_ 2 _ rfl; (with_reducible repeat (first | refine blk_drewN ?_ _ | refine blk_drew ?_ | refine blk_alloc ?_ _)); refine blk_put (cs := #[.int .i64 t167, .int .i64 0, .int .i64 0]) ?_ 1 _ rfl; (with_reducible repeat (first | refine blk_drewN ?_ _ | refine blk_drew ?_ | refine blk_alloc ?_ _)); refine blk_put (cs := #[.int .i64 0, .int .i64 0, .int .i64 0]) ?_ 0 _ rfl; (with_reducible repeat (first | refine blk_drewN ?_ _ | refine blk_drew ?_ | refine blk_alloc ?_ _)); exact BK171.out⟩, ⟨by repeat (first | (with_reducible first | exact HB.out | apply below_alloc | apply pw_below_drewN | apply below_drew1 | refine below_set ?_ GE165.out | refine below_set ?_ GE171.out) | exact HB.out)⟩⟩
                    · rw [if_neg c22] at H
                      have c22b0 : (t167 == x4_2) = false := beq_eq_false_iff_ne.mpr c22
                      have c22b1 : (t167 != x4_2) = true := bne_iff_ne.mpr c22
                      have H' := Aside0.mk H
                      clear H
                      have hnb40 := NB171_165.out
                      have hnc40 := NB165_171.out
                      have hcz41_0 : w18.cell? ⟨gb171, 0, none⟩ = some (.int .i64 0) := (blk_cell BK171.out 0).trans rfl
                      have hcz41_1 : w18.cell? ⟨gb171, 1, none⟩ = some (.int .i64 0) := (blk_cell BK171.out 1).trans rfl
                      have hcz41_2 : w18.cell? ⟨gb171, 2, none⟩ = some (.int .i64 0) := (blk_cell BK171.out 2).trans rfl
                      have hfz41_0 := blk_frozen BK171.out 0
                      have hfz41_1 := blk_frozen BK171.out 1
                      have hfz41_2 := blk_frozen BK171.out 2
                      go_wp2
                      go_meet
                      case rel => exact ⟨_, (true), (by first | rfl | (simp; done) | (simp [*]; done)), H', ⟨by have := HJ3.out; have := HK2.out; first | omega | exact Nat.le_refl _⟩, ⟨by (with_reducible repeat (first | refine blk_drewN ?_ _ | refine blk_drew ?_ | refine blk_alloc ?_ _)); refine blk_far ?_ NB165_171.out _; (with_reducible repeat (first | refine blk_drewN ?_ _ | refine blk_drew ?_ | refine blk_alloc ?_ _)); refine blk_far ?_ NB165_171.out _; (with_reducible repeat (first | refine blk_drewN ?_ _ | refine blk_drew ?_ | refine blk_alloc ?_ _)); refine blk_far ?_ NB165_171.out _; (with_reducible repeat (first | refine blk_drewN ?_ _ | refine blk_drew ?_ | refine blk_alloc ?_ _)); exact BK165.out⟩, ⟨by (with_reducible repeat (first | refine blk_drewN ?_ _ | refine blk_drew ?_ | refine blk_alloc ?_ _)); refine blk_put (cs := #[.int .i64 t167, .int .i64 t168, .int .i64 0]) ?_ 2 _ rfl; (with_reducible repeat (first | refine blk_drewN ?_ _ | refine blk_drew ?_ | refine blk_alloc ?_ _)); refine blk_put (cs := #[.int .i64 t167, .int .i64 0, .int .i64 0]) ?_ 1 _ rfl; (with_reducible repeat (first | refine blk_drewN ?_ _ | refine blk_drew ?_ | refine blk_alloc ?_ _)); refine blk_put (cs := #[.int .i64 0, .int .i64 0, .int .i64 0]) ?_ 0 _ rfl; (with_reducible repeat (first | refine blk_drewN ?_ _ | refine blk_drew ?_ | refine blk_alloc ?_ _)); exact BK171.out⟩, ⟨by repeat (first | (with_reducible first | exact HB.out | apply below_alloc | apply pw_below_drewN | apply below_drew1 | refine below_set ?_ GE165.out | refine below_set ?_ GE171.out) | exact HB.out)⟩⟩
                  · rw [if_neg c21] at H
                    have c21b0 : (t170 == 0) = false := beq_eq_false_iff_ne.mpr c21
                    have c21b1 : (t170 != 0) = true := bne_iff_ne.mpr c21
                    (first | rw [c21b0] | (simp only [i64_w, i32_w]; rw [c21b0]) | skip)
                    have H' := Aside0.mk H
                    clear H
                    go_wp2
                    go_meet
                    case rel => exact ⟨_, (true), (by first | rfl | (simp; done) | (simp [*]; done)), H', ⟨by have := HJ3.out; have := HK2.out; first | omega | exact Nat.le_refl _⟩, ⟨by (with_reducible repeat (first | refine blk_drewN ?_ _ | refine blk_drew ?_ | refine blk_alloc ?_ _)); refine blk_far ?_ NB165_171.out _; (with_reducible repeat (first | refine blk_drewN ?_ _ | refine blk_drew ?_ | refine blk_alloc ?_ _)); refine blk_far ?_ NB165_171.out _; (with_reducible repeat (first | refine blk_drewN ?_ _ | refine blk_drew ?_ | refine blk_alloc ?_ _)); refine blk_far ?_ NB165_171.out _; (with_reducible repeat (first | refine blk_drewN ?_ _ | refine blk_drew ?_ | refine blk_alloc ?_ _)); exact BK165.out⟩, ⟨by (with_reducible repeat (first | refine blk_drewN ?_ _ | refine blk_drew ?_ | refine blk_alloc ?_ _)); refine blk_put (cs := #[.int .i64 t167, .int .i64 t168, .int .i64 0]) ?_ 2 _ rfl; (with_reducible repeat (first | refine blk_drewN ?_ _ | refine blk_drew ?_ | refine blk_alloc ?_ _)); refine blk_put (cs := #[.int .i64 t167, .int .i64 0, .int .i64 0]) ?_ 1 _ rfl; (with_reducible repeat (first | refine blk_drewN ?_ _ | refine blk_drew ?_ | refine blk_alloc ?_ _)); refine blk_put (cs := #[.int .i64 0, .int .i64 0, .int .i64 0]) ?_ 0 _ rfl; (with_reducible repeat (first | refine blk_drewN ?_ _ | refine blk_drew ?_ | refine blk_alloc ?_ _)); exact BK171.out⟩, ⟨by repeat (first | (with_reducible first | exact HB.out | apply below_alloc | apply pw_below_drewN | apply below_drew1 | refine below_set ?_ GE165.out | refine below_set ?_ GE171.out) | exact HB.out)⟩⟩
                case rest =>
                  clear HC15
                  try clear c1
                  try clear c2
                  try clear p2
                  try clear c3
                  try clear c4
                  try clear c7
                  try clear c7b0
                  try clear c9
                  try clear c9b0
                  try clear c11
                  try clear c12
                  try clear c13
                  try clear c13b0
                  try clear c19
                  try clear c21
                  try clear c21b0
                  try clear c21b1
                  try clear c22
                  try clear c22b0
                  try clear c22b1
                  try clear c23
                  try clear c23b0
                  try clear c24
                  try clear c26
                  try clear c26b0
                  try clear c26b1
                  try clear c27
                  try clear c27b0
                  try clear c27b1
                  try clear c28
                  try clear c28b0
                  try clear c29
                  try clear c31
                  try clear c33
                  try clear c35
                  try clear c35b0
                  try clear c36
                  try clear c38
                  try clear c40
                  try clear hcz10_0
                  try clear hcz10_1
                  try clear hcz10_2
                  try clear hcz11_0
                  try clear hcz11_1
                  try clear hcz11_2
                  try clear hcz16_0
                  try clear hcz16_1
                  try clear hcz16_2
                  try clear hcz20_0
                  try clear hcz20_1
                  try clear hcz20_2
                  try clear hcz25_0
                  try clear hcz25_1
                  try clear hcz25_2
                  try clear hcz30_0
                  try clear hcz30_1
                  try clear hcz30_2
                  try clear hcz32_0
                  try clear hcz32_1
                  try clear hcz32_2
                  try clear hcz34_0
                  try clear hcz34_1
                  try clear hcz34_2
                  try clear hcz37_0
                  try clear hcz37_1
                  try clear hcz37_2
                  try clear hcz39_0
                  try clear hcz39_1
                  try clear hcz39_2
                  try clear hcz41_0
                  try clear hcz41_1
                  try clear hcz41_2
                  try clear hcz8_0
                  try clear hcz8_1
                  try clear hcz8_2
                  try clear hfz10_0
                  try clear hfz10_1
                  try clear hfz10_2
                  try clear hfz11_0
                  try clear hfz11_1
                  try clear hfz11_2
                  try clear hfz16_0
                  try clear hfz16_1
                  try clear hfz16_2
                  try clear hfz20_0
                  try clear hfz20_1
                  try clear hfz20_2
                  try clear hfz25_0
                  try clear hfz25_1
                  try clear hfz25_2
                  try clear hfz30_0
                  try clear hfz30_1
                  try clear hfz30_2
                  try clear hfz32_0
                  try clear hfz32_1
                  try clear hfz32_2
                  try clear hfz34_0
                  try clear hfz34_1
                  try clear hfz34_2
                  try clear hfz37_0
                  try clear hfz37_1
                  try clear hfz37_2
                  try clear hfz39_0
                  try clear hfz39_1
                  try clear hfz39_2
                  try clear hfz41_0
                  try clear hfz41_1
                  try clear hfz41_2
                  try clear hfz8_0
                  try clear hfz8_1
                  try clear hfz8_2
                  try clear p2
                  obtain ⟨kq, x70_14, rfl, HA, HJ14, BK165, BK171, HB⟩ := hcut
                  cases kq with
                  | zero => exact absurd HA.out (by simp [ontimelaw45_PfairCovers.j2])
                  | succ kj14 =>
                    have H := HA.out
                    clear HA
                    simp only [ontimelaw45_PfairCovers.j2] at H
                    by_cases c42 : x70_14 = true
                    · subst c42
                      have H1 : (some false) = some r := by rw [if_pos rfl] at H; exact H
                      clear H
                      have H := H1
                      clear H1
                      obtain rfl := Option.some.inj H
                      go_wp2
                      go_ret
                      exact ⟨by first | rfl | (simp [errW_none, errW_some] <;> rfl) | (simp [*, errW_none, errW_some] <;> rfl), by repeat (first | (with_reducible first | exact HB.out | apply below_alloc | apply pw_below_drewN | apply below_drew1 | refine below_set ?_ GE165.out | refine below_set ?_ GE171.out) | exact HB.out)⟩
                    · replace c42 := Bool.eq_false_iff.mpr c42
                      subst c42
                      have H1 : ((pfair_Heavy.f kj14 a0_0 a0_1 a0_2).bind fun t172 => (if t172 = true then (if (wrap64 (t169 - t168)) = 2 then (ontimelaw45_PfairCovers.j3 kj14 x4_2 false a0_0 a0_1 a0_2 t167 t168 t169) else (ontimelaw45_PfairCovers.j3 kj14 x4_2 ((wrap64 (t169 - t168)) != 3) a0_0 a0_1 a0_2 t167 t168 t169)) else (ontimelaw45_PfairCovers.j3 kj14 x4_2 false a0_0 a0_1 a0_2 t167 t168 t169))) = some r := by rw [if_neg (show ¬ (false = true) by decide)] at H; exact H
                      clear H
                      have H := H1
                      clear H1
                      have HC43 := Aside0.mk H
                      clear H
                      have hnb44 := NB171_165.out
                      have hnc44 := NB165_171.out
                      have hcz45_0 : wc.cell? ⟨gb171, 0, none⟩ = some (.int .i64 t167) := (blk_cell BK171.out 0).trans rfl
                      have hcz45_1 : wc.cell? ⟨gb171, 1, none⟩ = some (.int .i64 t168) := (blk_cell BK171.out 1).trans rfl
                      have hcz45_2 : wc.cell? ⟨gb171, 2, none⟩ = some (.int .i64 t169) := (blk_cell BK171.out 2).trans rfl
                      have hfz45_0 := blk_frozen BK171.out 0
                      have hfz45_1 := blk_frozen BK171.out 1
                      have hfz45_2 := blk_frozen BK171.out 2
                      go_upto_region 13 with (fail)
                      go_cut [85] (fun v85 wc => ∃ (kq : Nat) (x85_42 : Bool), v85 = .bool x85_42 ∧ Aside0 (ontimelaw45_PfairCovers.j3 kq x4_2 x85_42 a0_0 a0_1 a0_2 t167 t168 t169 = some r) ∧ Aside0 (kq ≤ kj14) ∧ Aside0 (wc.heap[gb165]? = some (.cells #[.string a0_0, .int .i64 a0_1, .int .i64 a0_2] 23 (0, 0))) ∧ Aside0 (wc.heap[gb171]? = some (.cells #[.int .i64 t167, .int .i64 t168, .int .i64 t169] 26 (0, 0))) ∧ Aside0 (Below w.heap.size w wc))
                      case first =>
                        have H := HC43.out
                        clear HC43
                        replace H := Option.bind_eq_some_iff.mp H
                        obtain ⟨t172, A460, H⟩ := H
                        replace H : (if t172 = true then (if (wrap64 (t169 - t168)) = 2 then (ontimelaw45_PfairCovers.j3 kj14 x4_2 false a0_0 a0_1 a0_2 t167 t168 t169) else (ontimelaw45_PfairCovers.j3 kj14 x4_2 ((wrap64 (t169 - t168)) != 3) a0_0 a0_1 a0_2 t167 t168 t169)) else (ontimelaw45_PfairCovers.j3 kj14 x4_2 false a0_0 a0_1 a0_2 t167 t168 t169)) = some r := H
                        have A46 := Aside0.mk A460
                        clear A460
                        by_cases c47 : t172 = true
                        · subst c47
                          have H1 : (if (wrap64 (t169 - t168)) = 2 then (ontimelaw45_PfairCovers.j3 kj14 x4_2 false a0_0 a0_1 a0_2 t167 t168 t169) else (ontimelaw45_PfairCovers.j3 kj14 x4_2 ((wrap64 (t169 - t168)) != 3) a0_0 a0_1 a0_2 t167 t168 t169)) = some r := by rw [if_pos rfl] at H; exact H
                          clear H
                          have H := H1
                          clear H1
                          by_cases c48 : (wrap64 (t169 - t168)) = 2
                          · rw [if_pos c48] at H
                            have c48b0 : ((wrap64 (t169 - t168)) == 2) = true := beq_iff_eq.mpr c48
                            have c48b1 : ((wrap64 (t169 - t168)) != 2) = false := bne_eq_false_iff_eq.mpr c48
                            clear c48
                            (first | rw [c48b0] | (simp only [i64_w, i32_w]; rw [c48b0]) | skip)
                            have H' := Aside0.mk H
                            clear H
                            have hnb49 := NB165_171.out
                            have hnc49 := NB171_165.out
                            have hcz50_0 : wc.cell? ⟨gb165, 0, none⟩ = some (.string a0_0) := (blk_cell BK165.out 0).trans rfl
                            have hcz50_1 : wc.cell? ⟨gb165, 1, none⟩ = some (.int .i64 a0_1) := (blk_cell BK165.out 1).trans rfl
                            have hcz50_2 : wc.cell? ⟨gb165, 2, none⟩ = some (.int .i64 a0_2) := (blk_cell BK165.out 2).trans rfl
                            have hfz50_0 := blk_frozen BK165.out 0
                            have hfz50_1 := blk_frozen BK165.out 1
                            have hfz50_2 := blk_frozen BK165.out 2
                            go_wp2_with (first | ((with_reducible refine gate_callee (f := 14) rfl ?_); refine goesL_ (some 77) rfl rfl Try.func14 (by kernel_rfl) rfl #[.agg #[.string a0_0, .int .i64 a0_1, .int .i64 a0_2]] rfl (by (try simp only [List.map_toArray, List.map_cons, List.map_nil]); first | done | rfl | (simp only [List.length_drop, List.length_take]; rfl)) ?_; (with_reducible refine (pfair_Heavy.calls kj14 a0_0 a0_1 a0_2 true _ A46.out).mono ?_); rintro e w51 ⟨rfl, hb⟩; refine ⟨_, rfl, ?_⟩; have n0_ := Aside0.mk (blk_below (g := gb165) (o := .cells #[.string a0_0, .int .i64 a0_1, .int .i64 a0_2] 23 (0, 0)) (by (with_reducible repeat (first | refine blk_drewN ?_ _ | refine blk_drew ?_ | refine blk_alloc ?_ _)); exact BK165.out) hb); have n1_ := Aside0.mk (blk_below (g := gb171) (o := .cells #[.int .i64 t167, .int .i64 t168, .int .i64 t169] 26 (0, 0)) (by (with_reducible repeat (first | refine blk_drewN ?_ _ | refine blk_drew ?_ | refine blk_alloc ?_ _)); exact BK171.out) hb); have n2_ := Aside0.mk (below_step (by repeat (first | (with_reducible first | exact HB.out | apply below_alloc | apply pw_below_drewN | apply below_drew1 | refine below_set ?_ GE165.out | refine below_set ?_ GE171.out) | exact HB.out)) hb); clear BK165; clear BK171; clear HB; have BK165 := n0_; have BK171 := n1_; have HB := n2_; clear n0_ n1_ n2_; (try clear hb); (try clear hb2); (try clear hk); (try clear hi)))
                            go_meet
                            case rel => exact ⟨_, (false), (by first | rfl | (simp; done) | (simp [*]; done)), H', ⟨by have := HJ3.out; have := HK2.out; have := HJ14.out; first | omega | exact Nat.le_refl _⟩, ⟨by (with_reducible repeat (first | refine blk_drewN ?_ _ | refine blk_drew ?_ | refine blk_alloc ?_ _)); exact BK165.out⟩, ⟨by (with_reducible repeat (first | refine blk_drewN ?_ _ | refine blk_drew ?_ | refine blk_alloc ?_ _)); exact BK171.out⟩, ⟨by repeat (first | (with_reducible first | exact HB.out | apply below_alloc | apply pw_below_drewN | apply below_drew1 | refine below_set ?_ GE165.out | refine below_set ?_ GE171.out) | exact HB.out)⟩⟩
                          · rw [if_neg c48] at H
                            have c48b0 : ((wrap64 (t169 - t168)) == 2) = false := beq_eq_false_iff_ne.mpr c48
                            have c48b1 : ((wrap64 (t169 - t168)) != 2) = true := bne_iff_ne.mpr c48
                            (first | rw [c48b0] | (simp only [i64_w, i32_w]; rw [c48b0]) | skip)
                            have H' := Aside0.mk H
                            clear H
                            have hnb52 := NB165_171.out
                            have hnc52 := NB171_165.out
                            have hcz53_0 : wc.cell? ⟨gb165, 0, none⟩ = some (.string a0_0) := (blk_cell BK165.out 0).trans rfl
                            have hcz53_1 : wc.cell? ⟨gb165, 1, none⟩ = some (.int .i64 a0_1) := (blk_cell BK165.out 1).trans rfl
                            have hcz53_2 : wc.cell? ⟨gb165, 2, none⟩ = some (.int .i64 a0_2) := (blk_cell BK165.out 2).trans rfl
                            have hfz53_0 := blk_frozen BK165.out 0
                            have hfz53_1 := blk_frozen BK165.out 1
                            have hfz53_2 := blk_frozen BK165.out 2
                            go_wp2_with (first | ((with_reducible refine gate_callee (f := 14) rfl ?_); refine goesL_ (some 77) rfl rfl Try.func14 (by kernel_rfl) rfl #[.agg #[.string a0_0, .int .i64 a0_1, .int .i64 a0_2]] rfl (by (try simp only [List.map_toArray, List.map_cons, List.map_nil]); first | done | rfl | (simp only [List.length_drop, List.length_take]; rfl)) ?_; (with_reducible refine (pfair_Heavy.calls kj14 a0_0 a0_1 a0_2 true _ A46.out).mono ?_); rintro e w54 ⟨rfl, hb⟩; refine ⟨_, rfl, ?_⟩; have n0_ := Aside0.mk (blk_below (g := gb165) (o := .cells #[.string a0_0, .int .i64 a0_1, .int .i64 a0_2] 23 (0, 0)) (by (with_reducible repeat (first | refine blk_drewN ?_ _ | refine blk_drew ?_ | refine blk_alloc ?_ _)); exact BK165.out) hb); have n1_ := Aside0.mk (blk_below (g := gb171) (o := .cells #[.int .i64 t167, .int .i64 t168, .int .i64 t169] 26 (0, 0)) (by (with_reducible repeat (first | refine blk_drewN ?_ _ | refine blk_drew ?_ | refine blk_alloc ?_ _)); exact BK171.out) hb); have n2_ := Aside0.mk (below_step (by repeat (first | (with_reducible first | exact HB.out | apply below_alloc | apply pw_below_drewN | apply below_drew1 | refine below_set ?_ GE165.out | refine below_set ?_ GE171.out) | exact HB.out)) hb); clear BK165; clear BK171; clear HB; have BK165 := n0_; have BK171 := n1_; have HB := n2_; clear n0_ n1_ n2_; (try clear hb); (try clear hb2); (try clear hk); (try clear hi)))
                            go_meet
                            case rel => exact ⟨_, (((wrap64 (t169 - t168)) != 3)), (by first | rfl | (simp; done) | (simp [*]; done)), H', ⟨by have := HJ3.out; have := HK2.out; have := HJ14.out; first | omega | exact Nat.le_refl _⟩, ⟨by (with_reducible repeat (first | refine blk_drewN ?_ _ | refine blk_drew ?_ | refine blk_alloc ?_ _)); exact BK165.out⟩, ⟨by (with_reducible repeat (first | refine blk_drewN ?_ _ | refine blk_drew ?_ | refine blk_alloc ?_ _)); exact BK171.out⟩, ⟨by repeat (first | (with_reducible first | exact HB.out | apply below_alloc | apply pw_below_drewN | apply below_drew1 | refine below_set ?_ GE165.out | refine below_set ?_ GE171.out) | exact HB.out)⟩⟩
                        · replace c47 := Bool.eq_false_iff.mpr c47
                          subst c47
                          have H1 : (ontimelaw45_PfairCovers.j3 kj14 x4_2 false a0_0 a0_1 a0_2 t167 t168 t169) = some r := by rw [if_neg (show ¬ (false = true) by decide)] at H; exact H
                          clear H
                          have H := H1
                          clear H1
                          have H' := Aside0.mk H
                          clear H
                          have hnb55 := NB165_171.out
                          have hnc55 := NB171_165.out
                          have hcz56_0 : wc.cell? ⟨gb165, 0, none⟩ = some (.string a0_0) := (blk_cell BK165.out 0).trans rfl
                          have hcz56_1 : wc.cell? ⟨gb165, 1, none⟩ = some (.int .i64 a0_1) := (blk_cell BK165.out 1).trans rfl
                          have hcz56_2 : wc.cell? ⟨gb165, 2, none⟩ = some (.int .i64 a0_2) := (blk_cell BK165.out 2).trans rfl
                          have hfz56_0 := blk_frozen BK165.out 0
                          have hfz56_1 := blk_frozen BK165.out 1
                          have hfz56_2 := blk_frozen BK165.out 2
                          go_wp2_with (first | ((with_reducible refine gate_callee (f := 14) rfl ?_); refine goesL_ (some 77) rfl rfl Try.func14 (by kernel_rfl) rfl #[.agg #[.string a0_0, .int .i64 a0_1, .int .i64 a0_2]] rfl (by (try simp only [List.map_toArray, List.map_cons, List.map_nil]); first | done | rfl | (simp only [List.length_drop, List.length_take]; rfl)) ?_; (with_reducible refine (pfair_Heavy.calls kj14 a0_0 a0_1 a0_2 false _ A46.out).mono ?_); rintro e w57 ⟨rfl, hb⟩; refine ⟨_, rfl, ?_⟩; have n0_ := Aside0.mk (blk_below (g := gb165) (o := .cells #[.string a0_0, .int .i64 a0_1, .int .i64 a0_2] 23 (0, 0)) (by (with_reducible repeat (first | refine blk_drewN ?_ _ | refine blk_drew ?_ | refine blk_alloc ?_ _)); exact BK165.out) hb); have n1_ := Aside0.mk (blk_below (g := gb171) (o := .cells #[.int .i64 t167, .int .i64 t168, .int .i64 t169] 26 (0, 0)) (by (with_reducible repeat (first | refine blk_drewN ?_ _ | refine blk_drew ?_ | refine blk_alloc ?_ _)); exact BK171.out) hb); have n2_ := Aside0.mk (below_step (by repeat (first | (with_reducible first | exact HB.out | apply below_alloc | apply pw_below_drewN | apply below_drew1 | refine below_set ?_ GE165.out | refine below_set ?_ GE171.out) | exact HB.out)) hb); clear BK165; clear BK171; clear HB; have BK165 := n0_; have BK171 := n1_; have HB := n2_; clear n0_ n1_ n2_; (try clear hb); (try clear hb2); (try clear hk); (try clear hi)))
                          go_meet
                          case rel => exact ⟨_, (false), (by first | rfl | (simp; done) | (simp [*]; done)), H', ⟨by have := HJ3.out; have := HK2.out; have := HJ14.out; first | omega | exact Nat.le_refl _⟩, ⟨by (with_reducible repeat (first | refine blk_drewN ?_ _ | refine blk_drew ?_ | refine blk_alloc ?_ _)); exact BK165.out⟩, ⟨by (with_reducible repeat (first | refine blk_drewN ?_ _ | refine blk_drew ?_ | refine blk_alloc ?_ _)); exact BK171.out⟩, ⟨by repeat (first | (with_reducible first | exact HB.out | apply below_alloc | apply pw_below_drewN | apply below_drew1 | refine below_set ?_ GE165.out | refine below_set ?_ GE171.out) | exact HB.out)⟩⟩
                      case rest =>
                        clear HC43
                        try clear c1
                        try clear c2
                        try clear p2
                        try clear c3
                        try clear c4
                        try clear c5
                        try clear p6
                        try clear c7
                        try clear c7b0
                        try clear c9
                        try clear c9b0
                        try clear c11
                        try clear c12
                        try clear c13
                        try clear c13b0
                        try clear c14
                        try clear c19
                        try clear c21
                        try clear c21b0
                        try clear c21b1
                        try clear c22
                        try clear c22b0
                        try clear c22b1
                        try clear c23
                        try clear c23b0
                        try clear c24
                        try clear c26
                        try clear c26b0
                        try clear c26b1
                        try clear c27
                        try clear c27b0
                        try clear c27b1
                        try clear c28
                        try clear c28b0
                        try clear c29
                        try clear c31
                        try clear c33
                        try clear c35
                        try clear c35b0
                        try clear c36
                        try clear c38
                        try clear c40
                        try clear c42
                        try clear c44
                        try clear c47
                        try clear c48
                        try clear c48b0
                        try clear c48b1
                        try clear c49
                        try clear c52
                        try clear c55
                        try clear hcz10_0
                        try clear hcz10_1
                        try clear hcz10_2
                        try clear hcz11_0
                        try clear hcz11_1
                        try clear hcz11_2
                        try clear hcz16_0
                        try clear hcz16_1
                        try clear hcz16_2
                        try clear hcz20_0
                        try clear hcz20_1
                        try clear hcz20_2
                        try clear hcz25_0
                        try clear hcz25_1
                        try clear hcz25_2
                        try clear hcz30_0
                        try clear hcz30_1
                        try clear hcz30_2
                        try clear hcz32_0
                        try clear hcz32_1
                        try clear hcz32_2
                        try clear hcz34_0
                        try clear hcz34_1
                        try clear hcz34_2
                        try clear hcz37_0
                        try clear hcz37_1
                        try clear hcz37_2
                        try clear hcz39_0
                        try clear hcz39_1
                        try clear hcz39_2
                        try clear hcz41_0
                        try clear hcz41_1
                        try clear hcz41_2
                        try clear hcz45_0
                        try clear hcz45_1
                        try clear hcz45_2
                        try clear hcz50_0
                        try clear hcz50_1
                        try clear hcz50_2
                        try clear hcz53_0
                        try clear hcz53_1
                        try clear hcz53_2
                        try clear hcz56_0
                        try clear hcz56_1
                        try clear hcz56_2
                        try clear hcz8_0
                        try clear hcz8_1
                        try clear hcz8_2
                        try clear hfz10_0
                        try clear hfz10_1
                        try clear hfz10_2
                        try clear hfz11_0
                        try clear hfz11_1
                        try clear hfz11_2
                        try clear hfz16_0
                        try clear hfz16_1
                        try clear hfz16_2
                        try clear hfz20_0
                        try clear hfz20_1
                        try clear hfz20_2
                        try clear hfz25_0
                        try clear hfz25_1
                        try clear hfz25_2
                        try clear hfz30_0
                        try clear hfz30_1
                        try clear hfz30_2
                        try clear hfz32_0
                        try clear hfz32_1
                        try clear hfz32_2
                        try clear hfz34_0
                        try clear hfz34_1
                        try clear hfz34_2
                        try clear hfz37_0
                        try clear hfz37_1
                        try clear hfz37_2
                        try clear hfz39_0
                        try clear hfz39_1
                        try clear hfz39_2
                        try clear hfz41_0
                        try clear hfz41_1
                        try clear hfz41_2
                        try clear hfz45_0
                        try clear hfz45_1
                        try clear hfz45_2
                        try clear hfz50_0
                        try clear hfz50_1
                        try clear hfz50_2
                        try clear hfz53_0
                        try clear hfz53_1
                        try clear hfz53_2
                        try clear hfz56_0
                        try clear hfz56_1
                        try clear hfz56_2
                        try clear hfz8_0
                        try clear hfz8_1
                        try clear hfz8_2
                        try clear p2
                        obtain ⟨kq, x85_42, rfl, HA, HJ42, BK165, BK171, HB⟩ := hcut
                        cases kq with
                        | zero => exact absurd HA.out (by simp [ontimelaw45_PfairCovers.j3])
                        | succ kj42 =>
                          have H := HA.out
                          clear HA
                          simp only [ontimelaw45_PfairCovers.j3] at H
                          by_cases c58 : x85_42 = true
                          · subst c58
                            have H1 : (some false) = some r := by rw [if_pos rfl] at H; exact H
                            clear H
                            have H := H1
                            clear H1
                            obtain rfl := Option.some.inj H
                            go_wp2
                            go_ret
                            exact ⟨by first | rfl | (simp [errW_none, errW_some] <;> rfl) | (simp [*, errW_none, errW_some] <;> rfl), by repeat (first | (with_reducible first | exact HB.out | apply below_alloc | apply pw_below_drewN | apply below_drew1 | refine below_set ?_ GE165.out | refine below_set ?_ GE171.out) | exact HB.out)⟩
                          · replace c58 := Bool.eq_false_iff.mpr c58
                            subst c58
                            have H1 : ((pfair_Overlaps.f kj42 a0_0 a0_1 a0_2 x4_2).bind fun t173 => (if t173 = true then (ontimelaw45_PfairCovers.l0 kj42 (wrap64 (t169 - 1)) (wrap64 (x4_2 + 1)) a0_0 a0_1 a0_2) else (ontimelaw45_PfairCovers.l0 kj42 t169 (wrap64 (x4_2 + 1)) a0_0 a0_1 a0_2))) = some r := by rw [if_neg (show ¬ (false = true) by decide)] at H; exact H
                            clear H
                            have H := H1
                            clear H1
                            replace H := Option.bind_eq_some_iff.mp H
                            obtain ⟨t173, A590, H⟩ := H
                            replace H : (if t173 = true then (ontimelaw45_PfairCovers.l0 kj42 (wrap64 (t169 - 1)) (wrap64 (x4_2 + 1)) a0_0 a0_1 a0_2) else (ontimelaw45_PfairCovers.l0 kj42 t169 (wrap64 (x4_2 + 1)) a0_0 a0_1 a0_2)) = some r := H
                            have A59 := Aside0.mk A590
                            clear A590
                            by_cases c60 : t173 = true
                            · subst c60
                              have H1 : (ontimelaw45_PfairCovers.l0 kj42 (wrap64 (t169 - 1)) (wrap64 (x4_2 + 1)) a0_0 a0_1 a0_2) = some r := by rw [if_pos rfl] at H; exact H
                              clear H
                              have H := H1
                              clear H1
                              have H' := Aside0.mk H
                              clear H
                              have hnb61 := NB171_165.out
                              have hnc61 := NB165_171.out
                              have hcz62_0 : wc.cell? ⟨gb171, 0, none⟩ = some (.int .i64 t167) := (blk_cell BK171.out 0).trans rfl
                              have hcz62_1 : wc.cell? ⟨gb171, 1, none⟩ = some (.int .i64 t168) := (blk_cell BK171.out 1).trans rfl
                              have hcz62_2 : wc.cell? ⟨gb171, 2, none⟩ = some (.int .i64 t169) := (blk_cell BK171.out 2).trans rfl
                              have hfz62_0 := blk_frozen BK171.out 0
                              have hfz62_1 := blk_frozen BK171.out 1
                              have hfz62_2 := blk_frozen BK171.out 2
                              have hcz63_0 : wc.cell? ⟨gb165, 0, none⟩ = some (.string a0_0) := (blk_cell BK165.out 0).trans rfl
                              have hcz63_1 : wc.cell? ⟨gb165, 1, none⟩ = some (.int .i64 a0_1) := (blk_cell BK165.out 1).trans rfl
                              have hcz63_2 : wc.cell? ⟨gb165, 2, none⟩ = some (.int .i64 a0_2) := (blk_cell BK165.out 2).trans rfl
                              have hfz63_0 := blk_frozen BK165.out 0
                              have hfz63_1 := blk_frozen BK165.out 1
                              have hfz63_2 := blk_frozen BK165.out 2
                              go_wp2_with (first | ((with_reducible refine gate_callee (f := 16) rfl ?_); refine goesL_ (some 90) rfl rfl Try.func16 (by kernel_rfl) rfl #[.agg #[.string a0_0, .int .i64 a0_1, .int .i64 a0_2], .int .i64 x4_2] rfl (by (try simp only [List.map_toArray, List.map_cons, List.map_nil]); first | done | rfl | (simp only [List.length_drop, List.length_take]; rfl)) ?_; (with_reducible refine (pfair_Overlaps.calls kj42 a0_0 a0_1 a0_2 x4_2 true _ A59.out).mono ?_); rintro e w64 ⟨rfl, hb⟩; refine ⟨_, rfl, ?_⟩; have n0_ := Aside0.mk (blk_below (g := gb165) (o := .cells #[.string a0_0, .int .i64 a0_1, .int .i64 a0_2] 23 (0, 0)) (by (with_reducible repeat (first | refine blk_drewN ?_ _ | refine blk_drew ?_ | refine blk_alloc ?_ _)); exact BK165.out) hb); have n1_ := Aside0.mk (blk_below (g := gb171) (o := .cells #[.int .i64 t167, .int .i64 t168, .int .i64 t169] 26 (0, 0)) (by (with_reducible repeat (first | refine blk_drewN ?_ _ | refine blk_drew ?_ | refine blk_alloc ?_ _)); exact BK171.out) hb); have n2_ := Aside0.mk (below_step (by repeat (first | (with_reducible first | exact HB.out | apply below_alloc | apply pw_below_drewN | apply below_drew1 | refine below_set ?_ GE165.out | refine below_set ?_ GE171.out) | exact HB.out)) hb); clear BK165; clear BK171; clear HB; have BK165 := n0_; have BK171 := n1_; have HB := n2_; clear n0_ n1_ n2_; (try clear hb); (try clear hb2); (try clear hk); (try clear hi)))
                              go_roundg kj42
                              case measure => have := HJ3.out; have := HK2.out; have := HJ14.out; have := HJ42.out; omega
                              case rel => exact ⟨(wrap64 (t169 - 1)), (wrap64 (x4_2 + 1)), (by first | rfl | (simp; done) | (simp [*]; done)), (by first | rfl | (simp; done) | (simp [*]; done)), H', ⟨by have := HJ3.out; have := HK2.out; have := HJ14.out; have := HJ42.out; omega⟩, ⟨by (with_reducible repeat (first | refine blk_drewN ?_ _ | refine blk_drew ?_ | refine blk_alloc ?_ _)); exact BK165.out⟩, ⟨by repeat (first | (with_reducible first | exact HB.out | apply below_alloc | apply pw_below_drewN | apply below_drew1 | refine below_set ?_ GE165.out | refine below_set ?_ GE171.out) | exact HB.out)⟩⟩
                            · replace c60 := Bool.eq_false_iff.mpr c60
                              subst c60
                              have H1 : (ontimelaw45_PfairCovers.l0 kj42 t169 (wrap64 (x4_2 + 1)) a0_0 a0_1 a0_2) = some r := by rw [if_neg (show ¬ (false = true) by decide)] at H; exact H
                              clear H
                              have H := H1
                              clear H1
                              have H' := Aside0.mk H
                              clear H
                              have hnb65 := NB171_165.out
                              have hnc65 := NB165_171.out
                              have hcz66_0 : wc.cell? ⟨gb171, 0, none⟩ = some (.int .i64 t167) := (blk_cell BK171.out 0).trans rfl
                              have hcz66_1 : wc.cell? ⟨gb171, 1, none⟩ = some (.int .i64 t168) := (blk_cell BK171.out 1).trans rfl
                              have hcz66_2 : wc.cell? ⟨gb171, 2, none⟩ = some (.int .i64 t169) := (blk_cell BK171.out 2).trans rfl
                              have hfz66_0 := blk_frozen BK171.out 0
                              have hfz66_1 := blk_frozen BK171.out 1
                              have hfz66_2 := blk_frozen BK171.out 2
                              have hcz67_0 : wc.cell? ⟨gb165, 0, none⟩ = some (.string a0_0) := (blk_cell BK165.out 0).trans rfl
                              have hcz67_1 : wc.cell? ⟨gb165, 1, none⟩ = some (.int .i64 a0_1) := (blk_cell BK165.out 1).trans rfl
                              have hcz67_2 : wc.cell? ⟨gb165, 2, none⟩ = some (.int .i64 a0_2) := (blk_cell BK165.out 2).trans rfl
                              have hfz67_0 := blk_frozen BK165.out 0
                              have hfz67_1 := blk_frozen BK165.out 1
                              have hfz67_2 := blk_frozen BK165.out 2
                              go_wp2_with (first | ((with_reducible refine gate_callee (f := 16) rfl ?_); refine goesL_ (some 90) rfl rfl Try.func16 (by kernel_rfl) rfl #[.agg #[.string a0_0, .int .i64 a0_1, .int .i64 a0_2], .int .i64 x4_2] rfl (by (try simp only [List.map_toArray, List.map_cons, List.map_nil]); first | done | rfl | (simp only [List.length_drop, List.length_take]; rfl)) ?_; (with_reducible refine (pfair_Overlaps.calls kj42 a0_0 a0_1 a0_2 x4_2 false _ A59.out).mono ?_); rintro e w68 ⟨rfl, hb⟩; refine ⟨_, rfl, ?_⟩; have n0_ := Aside0.mk (blk_below (g := gb165) (o := .cells #[.string a0_0, .int .i64 a0_1, .int .i64 a0_2] 23 (0, 0)) (by (with_reducible repeat (first | refine blk_drewN ?_ _ | refine blk_drew ?_ | refine blk_alloc ?_ _)); exact BK165.out) hb); have n1_ := Aside0.mk (blk_below (g := gb171) (o := .cells #[.int .i64 t167, .int .i64 t168, .int .i64 t169] 26 (0, 0)) (by (with_reducible repeat (first | refine blk_drewN ?_ _ | refine blk_drew ?_ | refine blk_alloc ?_ _)); exact BK171.out) hb); have n2_ := Aside0.mk (below_step (by repeat (first | (with_reducible first | exact HB.out | apply below_alloc | apply pw_below_drewN | apply below_drew1 | refine below_set ?_ GE165.out | refine below_set ?_ GE171.out) | exact HB.out)) hb); clear BK165; clear BK171; clear HB; have BK165 := n0_; have BK171 := n1_; have HB := n2_; clear n0_ n1_ n2_; (try clear hb); (try clear hb2); (try clear hk); (try clear hi)))
                              go_roundg kj42
                              case measure => have := HJ3.out; have := HK2.out; have := HJ14.out; have := HJ42.out; omega
                              case rel => exact ⟨(t169), (wrap64 (x4_2 + 1)), (by first | rfl | (simp; done) | (simp [*]; done)), (by first | rfl | (simp; done) | (simp [*]; done)), H', ⟨by have := HJ3.out; have := HK2.out; have := HJ14.out; have := HJ42.out; omega⟩, ⟨by (with_reducible repeat (first | refine blk_drewN ?_ _ | refine blk_drew ?_ | refine blk_alloc ?_ _)); exact BK165.out⟩, ⟨by repeat (first | (with_reducible first | exact HB.out | apply below_alloc | apply pw_below_drewN | apply below_drew1 | refine below_set ?_ GE165.out | refine below_set ?_ GE171.out) | exact HB.out)⟩⟩
              · rw [if_neg c13] at H
                have c13b0 : decide (x4_2 ≤ a0_1) = false := decide_eq_false c13
                clear c13
                obtain rfl := Option.some.inj H
                have hcz69_0 : wr.cell? ⟨gb165, 0, none⟩ = some (.string a0_0) := (blk_cell BK165.out 0).trans rfl
                have hcz69_1 : wr.cell? ⟨gb165, 1, none⟩ = some (.int .i64 a0_1) := (blk_cell BK165.out 1).trans rfl
                have hcz69_2 : wr.cell? ⟨gb165, 2, none⟩ = some (.int .i64 a0_2) := (blk_cell BK165.out 2).trans rfl
                have hfz69_0 := blk_frozen BK165.out 0
                have hfz69_1 := blk_frozen BK165.out 1
                have hfz69_2 := blk_frozen BK165.out 2
                go_wp2
                go_ret
                exact ⟨by first | rfl | (simp [errW_none, errW_some] <;> rfl) | (simp [*, errW_none, errW_some] <;> rfl), by repeat (first | (with_reducible first | exact HB.out | apply below_alloc | apply pw_below_drewN | apply below_drew1 | refine below_set ?_ GE165.out) | exact HB.out)⟩
  · replace c3 := Bool.eq_false_iff.mpr c3
    subst c3
    have H1 : (some false) = some r := by rw [if_neg (show ¬ (false = true) by decide)] at H; exact H
    clear H
    have H := H1
    clear H1
    obtain rfl := Option.some.inj H
    go_enter Try.func4, Try.ntmps4
    go_wp2_with (first | ((with_reducible refine gate_dst (N := 1) rfl ?_); refine box_event ?hg (N := 1) ?hd (cs := #[.string a0_0, .int .i64 a0_1, .int .i64 a0_2]) (t := 23) ?hr ?_; (case hd => rfl); (case hg => rfl); (case hr => first | (go_simp; done) | (go_simp; rfl)); intro gb165 hg w70 hbox hb; have n0_ := Aside0.mk (below_step (by repeat (first | (with_reducible first | exact HB.out | apply below_alloc | apply pw_below_drewN | apply below_drew1) | exact HB.out)) hb); have n1_ := Aside0.mk (hbox); have n2_ := Aside0.mk ((by rw [hg]; exact (below_size (by repeat (first | (with_reducible first | exact HB.out | apply below_alloc | apply pw_below_drewN | apply below_drew1) | exact HB.out))) : w.heap.size ≤ gb165)); have n3_ := Aside0.mk ((by rw [hg]; exact (below_size (by repeat (first | (with_reducible first | exact HB.out | apply below_alloc | apply pw_below_drewN | apply below_drew1) | exact HB.out))) : w.heap.size ≤ gb165)); clear HB; have HB := n0_; have BK165 := n1_; have GW165 := n2_; have GE165 := n3_; clear n0_ n1_ n2_ n3_; clear hb hbox hg) | ((with_reducible refine gate_callee (f := 11) rfl ?_); refine goesL_ (some 8) rfl rfl Try.func11 (by kernel_rfl) rfl #[] rfl (by (try simp only [List.map_toArray, List.map_cons, List.map_nil]); first | done | rfl | (simp only [List.length_drop, List.length_take]; rfl)) ?_; (with_reducible refine (ontimelaw45_awake.calls k  false _ A2.out).mono ?_); rintro e w71 ⟨rfl, hb⟩; refine ⟨_, rfl, ?_⟩; have n0_ := Aside0.mk (blk_below (g := gb165) (o := .cells #[.string a0_0, .int .i64 a0_1, .int .i64 a0_2] 23 (0, 0)) (by (with_reducible repeat (first | refine blk_drewN ?_ _ | refine blk_drew ?_ | refine blk_alloc ?_ _)); exact BK165.out) hb); have n1_ := Aside0.mk (below_step (by repeat (first | (with_reducible first | exact HB.out | apply below_alloc | apply pw_below_drewN | apply below_drew1 | refine below_set ?_ GE165.out) | exact HB.out)) hb); clear BK165; clear HB; have BK165 := n0_; have HB := n1_; clear n0_ n1_; (try clear hb); (try clear hb2); (try clear hk); (try clear hi)))
    go_ret
    exact ⟨by first | rfl | (simp [errW_none, errW_some] <;> rfl) | (simp [*, errW_none, errW_some] <;> rfl), by repeat (first | (with_reducible first | exact HB.out | apply below_alloc | apply pw_below_drewN | apply below_drew1 | refine below_set ?_ GE165.out) | exact HB.out)⟩

end Go.Proofs.Ytbjhkcfgahbipaa.P
