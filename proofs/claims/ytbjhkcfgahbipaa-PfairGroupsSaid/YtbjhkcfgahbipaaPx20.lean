-- Written by wip/gen.py: the kit's print, with contracts of mine in it.
import Derived.Test.YtbjhkcfgahbipaaPx0
import Derived.Test.YtbjhkcfgahbipaaPx5
import Derived.Test.YtbjhkcfgahbipaaPx6
import Derived.Test.YtbjhkcfgahbipaaPx10
import Derived.Test.YtbjhkcfgahbipaaPx11
namespace Go.Proofs.Ytbjhkcfgahbipaa.P
open Go.RowKit Go.Proofs.YtbjhkcfgahbipaaW.PrintWords Go.Proofs.YtbjhkcfgahbipaaW.PrintLast Go.Proofs.YtbjhkcfgahbipaaW.PrintMore
attribute [local go_sem] max2_int min2_int max_two min_two max_three min_three max_four min_four   -- for this text's walks alone
set_option linter.unusedVariables false
set_option linter.unusedSimpArgs false

/-! ### ontimelaw45_PfairGroups: function 6 -/
mutual
def ontimelaw45_PfairGroups.j0 : Nat → Bool → ByteArray → Int → Int → Option (Bool)
  | 0, _, _, _, _ => none
  | k + 1, x24, x194000, x194001, x194002 => if x24 = true then (some true) else (ontimelaw45_PfairGroups.l0 k 0 1 x194000 x194001 x194002)
def ontimelaw45_PfairGroups.l0 : Nat → Int → Int → ByteArray → Int → Int → Option (Bool)
  | 0, _, _, _, _, _ => none
  | k + 1, x3, x4, x194000, x194001, x194002 => if x4 ≤ x194001 then ((pfair_Group.f x194000 x194001 x194002 x4).bind fun t196 => ((pfair_Window.f k x194000 x194001 x194002 x4).bind fun bt197 => (if bt197.2.2.2 = 0 then ((pfair_Heavy.f k x194000 x194001 x194002).bind fun t202 => (if t202 = true then (if t196 < x3 then (some false) else (if t196 < bt197.2.2.1 then (some false) else (if t196 > x194002 then (some false) else (if x4 = x194001 then (if t196 = x194002 then (ontimelaw45_PfairGroups.l0 k t196 (wrap64 (x4 + 1)) x194000 x194001 x194002) else (some false)) else (ontimelaw45_PfairGroups.l0 k t196 (wrap64 (x4 + 1)) x194000 x194001 x194002))))) else (if t196 = 0 then (ontimelaw45_PfairGroups.l0 k x3 (wrap64 (x4 + 1)) x194000 x194001 x194002) else (some false)))) else (some false)))) else ((pfair_Heavy.f k x194000 x194001 x194002).bind fun t195 => (if x194001 < x194002 then (some (t195 == (decide ((wrap64 (2 * x194001)) ≥ x194002)))) else (some (t195 == false))))
end
def ontimelaw45_PfairGroups.f (k : Nat) (a0_0 : ByteArray) (a0_1 : Int) (a0_2 : Int) : Option (Bool) := (ontimelaw45_awake.f k).bind fun t194 => (if t194 = true then (if a0_2 > 100 then (ontimelaw45_PfairGroups.j0 k true a0_0 a0_1 a0_2) else (if a0_1 < 1 then (ontimelaw45_PfairGroups.j0 k true a0_0 a0_1 a0_2) else (ontimelaw45_PfairGroups.j0 k (decide (a0_1 > a0_2)) a0_0 a0_1 a0_2))) else (some false))
theorem ontimelaw45_PfairGroups.mono_l : ∀ k, (∀ y0 y1 y2 y3, LeO (ontimelaw45_PfairGroups.j0 k y0 y1 y2 y3) (ontimelaw45_PfairGroups.j0 (k + 1) y0 y1 y2 y3)) ∧ (∀ y0 y1 y2 y3 y4, LeO (ontimelaw45_PfairGroups.l0 k y0 y1 y2 y3 y4) (ontimelaw45_PfairGroups.l0 (k + 1) y0 y1 y2 y3 y4))
  | 0 => ⟨fun _ _ _ _ r h => by simp [ontimelaw45_PfairGroups.j0] at h, fun _ _ _ _ _ r h => by simp [ontimelaw45_PfairGroups.l0] at h⟩
  | k + 1 => by
    obtain ⟨ih0, ih1⟩ := ontimelaw45_PfairGroups.mono_l k
    refine ⟨?_, ?_⟩
    · intro y0 y1 y2 y3
      unfold ontimelaw45_PfairGroups.j0
      repeat' first
      | (with_reducible exact ih0 _ _ _ _)
      | (with_reducible exact ih1 _ _ _ _ _)
      | (with_reducible exact ontimelaw45_awake.mono _)
      | (with_reducible exact pfair_Heavy.mono _ _ _ _)
      | (with_reducible exact pfair_Window.mono _ _ _ _ _)
      | (with_reducible exact LeO.refl _)
      | (with_reducible exact LeO.none _)
      | (with_reducible refine LeO.ite ?_ ?_)
      | (with_reducible refine LeO.bind ?_ (fun _ => ?_))
      | exact ih0 _ _ _ _
      | exact ih1 _ _ _ _ _
      | exact ontimelaw45_awake.mono _
      | exact pfair_Heavy.mono _ _ _ _
      | exact pfair_Window.mono _ _ _ _ _
      | exact LeO.none _
      | refine LeO.ite ?_ ?_
      | refine LeO.bind ?_ (fun _ => ?_)
    · intro y0 y1 y2 y3 y4
      unfold ontimelaw45_PfairGroups.l0
      repeat' first
      | (with_reducible exact ih0 _ _ _ _)
      | (with_reducible exact ih1 _ _ _ _ _)
      | (with_reducible exact ontimelaw45_awake.mono _)
      | (with_reducible exact pfair_Heavy.mono _ _ _ _)
      | (with_reducible exact pfair_Window.mono _ _ _ _ _)
      | (with_reducible exact LeO.refl _)
      | (with_reducible exact LeO.none _)
      | (with_reducible refine LeO.ite ?_ ?_)
      | (with_reducible refine LeO.bind ?_ (fun _ => ?_))
      | exact ih0 _ _ _ _
      | exact ih1 _ _ _ _ _
      | exact ontimelaw45_awake.mono _
      | exact pfair_Heavy.mono _ _ _ _
      | exact pfair_Window.mono _ _ _ _ _
      | exact LeO.none _
      | refine LeO.ite ?_ ?_
      | refine LeO.bind ?_ (fun _ => ?_)
theorem ontimelaw45_PfairGroups.mono : ∀ a0 a1 a2 k, LeO (ontimelaw45_PfairGroups.f k a0 a1 a2) (ontimelaw45_PfairGroups.f (k + 1) a0 a1 a2) := by
  intro a0 a1 a2 k
  obtain ⟨ih0, ih1⟩ := ontimelaw45_PfairGroups.mono_l k
  unfold ontimelaw45_PfairGroups.f
  repeat' first
      | (with_reducible exact ih0 _ _ _ _)
      | (with_reducible exact ih1 _ _ _ _ _)
      | (with_reducible exact ontimelaw45_awake.mono _)
      | (with_reducible exact pfair_Heavy.mono _ _ _ _)
      | (with_reducible exact pfair_Window.mono _ _ _ _ _)
      | (with_reducible exact LeO.refl _)
      | (with_reducible exact LeO.none _)
      | (with_reducible refine LeO.ite ?_ ?_)
      | (with_reducible refine LeO.bind ?_ (fun _ => ?_))
      | exact ih0 _ _ _ _
      | exact ih1 _ _ _ _ _
      | exact ontimelaw45_awake.mono _
      | exact pfair_Heavy.mono _ _ _ _
      | exact pfair_Window.mono _ _ _ _ _
      | exact LeO.none _
      | refine LeO.ite ?_ ?_
      | refine LeO.bind ?_ (fun _ => ?_)
def ontimelaw45_PfairGroups.T19 : Bool × List (List Nat × List Nat) := (true, [([], []), ([0], [0]), ([], []), ([2], [2]), ([], []), ([4], [4]), ([3, 5], [3, 5]), ([6, 1], [6]), ([7], [7]), ([8, 7], [7, 8]), ([9, 7], [7, 9]), ([7], [7]), ([11, 7], [7, 11]), ([10, 12, 7], [7, 10, 12]), ([7, 13], [7, 13]), ([1, 14], [1, 14]), ([15, 7, 0, 1, 2, 3, 4, 5, 6, 7, 8, 9, 10, 11, 12, 13, 14, 15], [15])])
def ontimelaw45_PfairGroups.B19 : List Nat := [0, 1, 0, 4, 0, 16, 60, 127, 255, 511, 1023, 255, 2303, 8191, 16383, 32767, 65535]
theorem ontimelaw45_PfairGroups.tab19 : rtab .any (opsOf Try.f6 19) = ontimelaw45_PfairGroups.T19 := by kernel_rfl
theorem ontimelaw45_PfairGroups.bits19 : waitsOk ontimelaw45_PfairGroups.T19.2 ontimelaw45_PfairGroups.B19 = true := by kernel_rfl
set_option maxHeartbeats 8000000 in
set_option maxRecDepth 100000 in
theorem ontimelaw45_PfairGroups.calls (k : Nat) (a0_0 : ByteArray) (a0_1 : Int) (a0_2 : Int) (r : Bool) (w : World) (h : ontimelaw45_PfairGroups.f k a0_0 a0_1 a0_2 = some r) :
    Calls Try.prog 6 #[.agg #[.string a0_0, .int .i64 a0_1, .int .i64 a0_2]] w fun e w' => e = .returned (.bool r) ∧ Below w.heap.size w w' := by
  have hu23 := Try.underlying23
  have hu26 := Try.underlying26
  have HB := Aside0.mk (Below.refl w.heap.size w)
  have H : ((ontimelaw45_awake.f k).bind fun t194 => (if t194 = true then (if a0_2 > 100 then (ontimelaw45_PfairGroups.j0 k true a0_0 a0_1 a0_2) else (if a0_1 < 1 then (ontimelaw45_PfairGroups.j0 k true a0_0 a0_1 a0_2) else (ontimelaw45_PfairGroups.j0 k (decide (a0_1 > a0_2)) a0_0 a0_1 a0_2))) else (some false))) = some r := h
  clear h
  replace H := Option.bind_eq_some_iff.mp H
  obtain ⟨t194, A20, H⟩ := H
  replace H : (if t194 = true then (if a0_2 > 100 then (ontimelaw45_PfairGroups.j0 k true a0_0 a0_1 a0_2) else (if a0_1 < 1 then (ontimelaw45_PfairGroups.j0 k true a0_0 a0_1 a0_2) else (ontimelaw45_PfairGroups.j0 k (decide (a0_1 > a0_2)) a0_0 a0_1 a0_2))) else (some false)) = some r := H
  have A2 := Aside0.mk A20
  clear A20
  by_cases c3 : t194 = true
  · subst c3
    have H1 : (if a0_2 > 100 then (ontimelaw45_PfairGroups.j0 k true a0_0 a0_1 a0_2) else (if a0_1 < 1 then (ontimelaw45_PfairGroups.j0 k true a0_0 a0_1 a0_2) else (ontimelaw45_PfairGroups.j0 k (decide (a0_1 > a0_2)) a0_0 a0_1 a0_2))) = some r := by rw [if_pos rfl] at H; exact H
    clear H
    have H := H1
    clear H1
    have HC4 := Aside0.mk H
    clear H
    go_enter Try.func6, Try.ntmps6
    go_upto_region 3 with (first | ((with_reducible refine gate_dst (N := 1) rfl ?_); refine box_event ?hg (N := 1) ?hd (cs := #[.string a0_0, .int .i64 a0_1, .int .i64 a0_2]) (t := 23) ?hr ?_; (case hd => rfl); (case hg => rfl); (case hr => first | (go_simp; done) | (go_simp; rfl)); intro gb193 hg w5 hbox hb; have n0_ := Aside0.mk (below_step (by repeat (first | (with_reducible first | exact HB.out | apply below_alloc | apply pw_below_drewN | apply below_drew1) | exact HB.out)) hb); have n1_ := Aside0.mk (hbox); have n2_ := Aside0.mk ((by rw [hg]; exact (below_size (by repeat (first | (with_reducible first | exact HB.out | apply below_alloc | apply pw_below_drewN | apply below_drew1) | exact HB.out))) : w.heap.size ≤ gb193)); have n3_ := Aside0.mk ((by rw [hg]; exact (below_size (by repeat (first | (with_reducible first | exact HB.out | apply below_alloc | apply pw_below_drewN | apply below_drew1) | exact HB.out))) : w.heap.size ≤ gb193)); clear HB; have HB := n0_; have BK193 := n1_; have GW193 := n2_; have GE193 := n3_; clear n0_ n1_ n2_ n3_; clear hb hbox hg) | ((with_reducible refine gate_callee (f := 11) rfl ?_); refine goesL_ (some 8) rfl rfl Try.func11 (by kernel_rfl) rfl #[] rfl (by (try simp only [List.map_toArray, List.map_cons, List.map_nil]); first | done | rfl | (simp only [List.length_drop, List.length_take]; rfl)) ?_; (with_reducible refine (ontimelaw45_awake.calls k  true _ A2.out).mono ?_); rintro e w6 ⟨rfl, hb⟩; refine ⟨_, rfl, ?_⟩; have n0_ := Aside0.mk (blk_below (g := gb193) (o := .cells #[.string a0_0, .int .i64 a0_1, .int .i64 a0_2] 23 (0, 0)) (by (with_reducible repeat (first | refine blk_drewN ?_ _ | refine blk_drew ?_ | refine blk_alloc ?_ _)); exact BK193.out) hb); have n1_ := Aside0.mk (below_step (by repeat (first | (with_reducible first | exact HB.out | apply below_alloc | apply pw_below_drewN | apply below_drew1 | refine below_set ?_ GE193.out) | exact HB.out)) hb); clear BK193; clear HB; have BK193 := n0_; have HB := n1_; clear n0_ n1_; (try clear hb); (try clear hb2); (try clear hk); (try clear hi)))
    (try simp only [Act.put, List.setIfInBounds_toArray, List.set_cons_zero, List.set_cons_succ])
    go_cut [24] (fun v24 wc => ∃ (kq : Nat) (x24_3 : Bool), v24 = .bool x24_3 ∧ Aside0 (ontimelaw45_PfairGroups.j0 kq x24_3 a0_0 a0_1 a0_2 = some r) ∧ Aside0 (kq ≤ k) ∧ Aside0 (wc.heap[gb193]? = some (.cells #[.string a0_0, .int .i64 a0_1, .int .i64 a0_2] 23 (0, 0))) ∧ Aside0 (Below w.heap.size w wc))
    case first =>
      have H := HC4.out
      clear HC4
      by_cases c7 : a0_2 > 100
      · rw [if_pos c7] at H
        have c7b0 : decide (100 < a0_2) = true := decide_eq_true c7
        clear c7
        (first | rw [c7b0] | (simp only [i64_w, i32_w]; rw [c7b0]) | skip)
        have H' := Aside0.mk H
        clear H
        have hcz8_0 : w6.cell? ⟨gb193, 0, none⟩ = some (.string a0_0) := (blk_cell BK193.out 0).trans rfl
        have hcz8_1 : w6.cell? ⟨gb193, 1, none⟩ = some (.int .i64 a0_1) := (blk_cell BK193.out 1).trans rfl
        have hcz8_2 : w6.cell? ⟨gb193, 2, none⟩ = some (.int .i64 a0_2) := (blk_cell BK193.out 2).trans rfl
        have hfz8_0 := blk_frozen BK193.out 0
        have hfz8_1 := blk_frozen BK193.out 1
        have hfz8_2 := blk_frozen BK193.out 2
        go_wp2
        go_meet
        case rel => exact ⟨_, (true), (by first | rfl | (simp; done) | (simp [*]; done)), H', ⟨by first | omega | exact Nat.le_refl _⟩, ⟨by (with_reducible repeat (first | refine blk_drewN ?_ _ | refine blk_drew ?_ | refine blk_alloc ?_ _)); exact BK193.out⟩, ⟨by repeat (first | (with_reducible first | exact HB.out | apply below_alloc | apply pw_below_drewN | apply below_drew1 | refine below_set ?_ GE193.out) | exact HB.out)⟩⟩
      · rw [if_neg c7] at H
        have c7b0 : decide (100 < a0_2) = false := decide_eq_false c7
        clear c7
        (first | rw [c7b0] | (simp only [i64_w, i32_w]; rw [c7b0]) | skip)
        by_cases c9 : a0_1 < 1
        · rw [if_pos c9] at H
          have c9b0 : decide (a0_1 < 1) = true := decide_eq_true c9
          clear c9
          have H' := Aside0.mk H
          clear H
          have hcz10_0 : w6.cell? ⟨gb193, 0, none⟩ = some (.string a0_0) := (blk_cell BK193.out 0).trans rfl
          have hcz10_1 : w6.cell? ⟨gb193, 1, none⟩ = some (.int .i64 a0_1) := (blk_cell BK193.out 1).trans rfl
          have hcz10_2 : w6.cell? ⟨gb193, 2, none⟩ = some (.int .i64 a0_2) := (blk_cell BK193.out 2).trans rfl
          have hfz10_0 := blk_frozen BK193.out 0
          have hfz10_1 := blk_frozen BK193.out 1
          have hfz10_2 := blk_frozen BK193.out 2
          go_wp2
          go_meet
          case rel => exact ⟨_, (true), (by first | rfl | (simp; done) | (simp [*]; done)), H', ⟨by first | omega | exact Nat.le_refl _⟩, ⟨by (with_reducible repeat (first | refine blk_drewN ?_ _ | refine blk_drew ?_ | refine blk_alloc ?_ _)); exact BK193.out⟩, ⟨by repeat (first | (with_reducible first | exact HB.out | apply below_alloc | apply pw_below_drewN | apply below_drew1 | refine below_set ?_ GE193.out) | exact HB.out)⟩⟩
        · rw [if_neg c9] at H
          have c9b0 : decide (a0_1 < 1) = false := decide_eq_false c9
          clear c9
          have H' := Aside0.mk H
          clear H
          have hcz11_0 : w6.cell? ⟨gb193, 0, none⟩ = some (.string a0_0) := (blk_cell BK193.out 0).trans rfl
          have hcz11_1 : w6.cell? ⟨gb193, 1, none⟩ = some (.int .i64 a0_1) := (blk_cell BK193.out 1).trans rfl
          have hcz11_2 : w6.cell? ⟨gb193, 2, none⟩ = some (.int .i64 a0_2) := (blk_cell BK193.out 2).trans rfl
          have hfz11_0 := blk_frozen BK193.out 0
          have hfz11_1 := blk_frozen BK193.out 1
          have hfz11_2 := blk_frozen BK193.out 2
          go_wp2
          go_meet
          case rel => exact ⟨_, (decide (a0_1 > a0_2)), (by first | rfl | (simp; done) | (simp [*]; done)), H', ⟨by first | omega | exact Nat.le_refl _⟩, ⟨by (with_reducible repeat (first | refine blk_drewN ?_ _ | refine blk_drew ?_ | refine blk_alloc ?_ _)); exact BK193.out⟩, ⟨by repeat (first | (with_reducible first | exact HB.out | apply below_alloc | apply pw_below_drewN | apply below_drew1 | refine below_set ?_ GE193.out) | exact HB.out)⟩⟩
    case rest =>
      clear HC4
      try clear c1
      try clear p2
      try clear c3
      try clear c6
      try clear c7
      try clear c7b0
      try clear c9
      try clear c9b0
      try clear c11
      try clear hcz10_0
      try clear hcz10_1
      try clear hcz10_2
      try clear hcz11_0
      try clear hcz11_1
      try clear hcz11_2
      try clear hcz8_0
      try clear hcz8_1
      try clear hcz8_2
      try clear hfz10_0
      try clear hfz10_1
      try clear hfz10_2
      try clear hfz11_0
      try clear hfz11_1
      try clear hfz11_2
      try clear hfz8_0
      try clear hfz8_1
      try clear hfz8_2
      obtain ⟨kq, x24_3, rfl, HA, HJ3, BK193, HB⟩ := hcut
      cases kq with
      | zero => exact absurd HA.out (by simp [ontimelaw45_PfairGroups.j0])
      | succ kj3 =>
        have H := HA.out
        clear HA
        simp only [ontimelaw45_PfairGroups.j0] at H
        by_cases c12 : x24_3 = true
        · subst c12
          have H1 : (some true) = some r := by rw [if_pos rfl] at H; exact H
          clear H
          have H := H1
          clear H1
          obtain rfl := Option.some.inj H
          go_wp2
          go_ret
          exact ⟨by first | rfl | (simp [errW_none, errW_some] <;> rfl) | (simp [*, errW_none, errW_some] <;> rfl), by repeat (first | (with_reducible first | exact HB.out | apply below_alloc | apply pw_below_drewN | apply below_drew1 | refine below_set ?_ GE193.out) | exact HB.out)⟩
        · replace c12 := Bool.eq_false_iff.mpr c12
          subst c12
          have H1 : (ontimelaw45_PfairGroups.l0 kj3 0 1 a0_0 a0_1 a0_2) = some r := by rw [if_neg (show ¬ (false = true) by decide)] at H; exact H
          clear H
          have H := H1
          clear H1
          have H' := Aside0.mk H
          clear H
          go_wp2
          go_loopg [3, 4] kj3 (fun kq v3 v4 w' => ∃ (x3_2 : Int) (x4_2 : Int), v3 = .int .i64 x3_2 ∧ v4 = .int .i64 x4_2 ∧ Aside0 (ontimelaw45_PfairGroups.l0 kq x3_2 x4_2 a0_0 a0_1 a0_2 = some r) ∧ Aside0 (kq ≤ kj3) ∧ Aside0 (w'.heap[gb193]? = some (.cells #[.string a0_0, .int .i64 a0_1, .int .i64 a0_2] 23 (0, 0))) ∧ Aside0 (Below w.heap.size w w'))
          case atStart => exact ⟨(0), (1), (by first | rfl | (simp; done) | (simp [*]; done)), (by first | rfl | (simp; done) | (simp [*]; done)), H', ⟨Nat.le_refl _⟩, ⟨by (with_reducible repeat (first | refine blk_drewN ?_ _ | refine blk_drew ?_ | refine blk_alloc ?_ _)); exact BK193.out⟩, ⟨by repeat (first | (with_reducible first | exact HB.out | apply below_alloc | apply pw_below_drewN | apply below_drew1 | refine below_set ?_ GE193.out) | exact HB.out)⟩⟩
          case round =>
            clear H'
            try clear c1
            try clear p2
            try clear c3
            try clear c6
            try clear c7
            try clear c7b0
            try clear c9
            try clear c9b0
            try clear c11
            try clear c12
            try clear hcz10_0
            try clear hcz10_1
            try clear hcz10_2
            try clear hcz11_0
            try clear hcz11_1
            try clear hcz11_2
            try clear hcz8_0
            try clear hcz8_1
            try clear hcz8_2
            try clear hfz10_0
            try clear hfz10_1
            try clear hfz10_2
            try clear hfz11_0
            try clear hfz11_1
            try clear hfz11_2
            try clear hfz8_0
            try clear hfz8_1
            try clear hfz8_2
            try clear p2
            obtain ⟨x3_2, x4_2, rfl, rfl, HA, HK2, BK193, HB⟩ := hrel
            cases gk with
            | zero => exact absurd HA.out (by simp [ontimelaw45_PfairGroups.l0])
            | succ k2 =>
              have H := HA.out
              clear HA
              simp only [ontimelaw45_PfairGroups.l0] at H
              by_cases c13 : x4_2 ≤ a0_1
              · rw [if_pos c13] at H
                have c13b0 : decide (x4_2 ≤ a0_1) = true := decide_eq_true c13
                clear c13
                replace H := Option.bind_eq_some_iff.mp H
                obtain ⟨t196, A140, H⟩ := H
                replace H : ((pfair_Window.f k2 a0_0 a0_1 a0_2 x4_2).bind fun bt197 => (if bt197.2.2.2 = 0 then ((pfair_Heavy.f k2 a0_0 a0_1 a0_2).bind fun t202 => (if t202 = true then (if t196 < x3_2 then (some false) else (if t196 < bt197.2.2.1 then (some false) else (if t196 > a0_2 then (some false) else (if x4_2 = a0_1 then (if t196 = a0_2 then (ontimelaw45_PfairGroups.l0 k2 t196 (wrap64 (x4_2 + 1)) a0_0 a0_1 a0_2) else (some false)) else (ontimelaw45_PfairGroups.l0 k2 t196 (wrap64 (x4_2 + 1)) a0_0 a0_1 a0_2))))) else (if t196 = 0 then (ontimelaw45_PfairGroups.l0 k2 x3_2 (wrap64 (x4_2 + 1)) a0_0 a0_1 a0_2) else (some false)))) else (some false))) = some r := H
                have A14 := Aside0.mk A140
                clear A140
                replace H := Option.bind_eq_some_iff.mp H
                obtain ⟨⟨t197, t198, t199, t200⟩, A150, H⟩ := H
                replace H : (if t200 = 0 then ((pfair_Heavy.f k2 a0_0 a0_1 a0_2).bind fun t202 => (if t202 = true then (if t196 < x3_2 then (some false) else (if t196 < t199 then (some false) else (if t196 > a0_2 then (some false) else (if x4_2 = a0_1 then (if t196 = a0_2 then (ontimelaw45_PfairGroups.l0 k2 t196 (wrap64 (x4_2 + 1)) a0_0 a0_1 a0_2) else (some false)) else (ontimelaw45_PfairGroups.l0 k2 t196 (wrap64 (x4_2 + 1)) a0_0 a0_1 a0_2))))) else (if t196 = 0 then (ontimelaw45_PfairGroups.l0 k2 x3_2 (wrap64 (x4_2 + 1)) a0_0 a0_1 a0_2) else (some false)))) else (some false)) = some r := H
                have A15 := Aside0.mk A150
                clear A150
                by_cases c16 : t200 = 0
                · rw [if_pos c16] at H
                  have c16b0 : (t200 == 0) = true := beq_iff_eq.mpr c16
                  have c16b1 : (t200 != 0) = false := bne_eq_false_iff_eq.mpr c16
                  clear c16
                  replace H := Option.bind_eq_some_iff.mp H
                  obtain ⟨t202, A170, H⟩ := H
                  replace H : (if t202 = true then (if t196 < x3_2 then (some false) else (if t196 < t199 then (some false) else (if t196 > a0_2 then (some false) else (if x4_2 = a0_1 then (if t196 = a0_2 then (ontimelaw45_PfairGroups.l0 k2 t196 (wrap64 (x4_2 + 1)) a0_0 a0_1 a0_2) else (some false)) else (ontimelaw45_PfairGroups.l0 k2 t196 (wrap64 (x4_2 + 1)) a0_0 a0_1 a0_2))))) else (if t196 = 0 then (ontimelaw45_PfairGroups.l0 k2 x3_2 (wrap64 (x4_2 + 1)) a0_0 a0_1 a0_2) else (some false))) = some r := H
                  have A17 := Aside0.mk A170
                  clear A170
                  by_cases c18 : t202 = true
                  · subst c18
                    have H1 : (if t196 < x3_2 then (some false) else (if t196 < t199 then (some false) else (if t196 > a0_2 then (some false) else (if x4_2 = a0_1 then (if t196 = a0_2 then (ontimelaw45_PfairGroups.l0 k2 t196 (wrap64 (x4_2 + 1)) a0_0 a0_1 a0_2) else (some false)) else (ontimelaw45_PfairGroups.l0 k2 t196 (wrap64 (x4_2 + 1)) a0_0 a0_1 a0_2))))) = some r := by rw [if_pos rfl] at H; exact H
                    clear H
                    have H := H1
                    clear H1
                    by_cases c19 : t196 < x3_2
                    · rw [if_pos c19] at H
                      have c19b0 : decide (t196 < x3_2) = true := decide_eq_true c19
                      clear c19
                      obtain rfl := Option.some.inj H
                      have hcz20_0 : wr.cell? ⟨gb193, 0, none⟩ = some (.string a0_0) := (blk_cell BK193.out 0).trans rfl
                      have hcz20_1 : wr.cell? ⟨gb193, 1, none⟩ = some (.int .i64 a0_1) := (blk_cell BK193.out 1).trans rfl
                      have hcz20_2 : wr.cell? ⟨gb193, 2, none⟩ = some (.int .i64 a0_2) := (blk_cell BK193.out 2).trans rfl
                      have hfz20_0 := blk_frozen BK193.out 0
                      have hfz20_1 := blk_frozen BK193.out 1
                      have hfz20_2 := blk_frozen BK193.out 2
                      go_wp2_with (first | ((with_reducible refine gate_callee (f := 17) rfl ?_); refine goesL_ (some 33) rfl rfl Try.func17 (by kernel_rfl) rfl #[.agg #[.string a0_0, .int .i64 a0_1, .int .i64 a0_2], .int .i64 x4_2] rfl (by (try simp only [List.map_toArray, List.map_cons, List.map_nil]); first | done | rfl | (simp only [List.length_drop, List.length_take]; rfl)) ?_; (with_reducible refine (pfair_Group.calls a0_0 a0_1 a0_2 x4_2 t196 _ A14.out).mono ?_); rintro e w21 ⟨rfl, hb⟩; refine ⟨_, rfl, ?_⟩; have n0_ := Aside0.mk (blk_below (g := gb193) (o := .cells #[.string a0_0, .int .i64 a0_1, .int .i64 a0_2] 23 (0, 0)) (by (with_reducible repeat (first | refine blk_drewN ?_ _ | refine blk_drew ?_ | refine blk_alloc ?_ _)); exact BK193.out) hb); have n1_ := Aside0.mk (below_step (by repeat (first | (with_reducible first | exact HB.out | apply below_alloc | apply pw_below_drewN | apply below_drew1 | refine below_set ?_ GE193.out) | exact HB.out)) hb); clear BK193; clear HB; have BK193 := n0_; have HB := n1_; clear n0_ n1_; (try clear hb); (try clear hb2); (try clear hk); (try clear hi); have hcz22_0 : w21.cell? ⟨gb193, 0, none⟩ = some (.string a0_0) := (blk_cell BK193.out 0).trans rfl; have hcz22_1 : w21.cell? ⟨gb193, 1, none⟩ = some (.int .i64 a0_1) := (blk_cell BK193.out 1).trans rfl; have hcz22_2 : w21.cell? ⟨gb193, 2, none⟩ = some (.int .i64 a0_2) := (blk_cell BK193.out 2).trans rfl; have hfz22_0 := blk_frozen BK193.out 0; have hfz22_1 := blk_frozen BK193.out 1; have hfz22_2 := blk_frozen BK193.out 2) | ((with_reducible refine gate_callee (f := 12) rfl ?_); refine goesL_ (some 37) rfl rfl Try.func12 (by kernel_rfl) rfl #[.agg #[.string a0_0, .int .i64 a0_1, .int .i64 a0_2], .int .i64 x4_2] rfl (by (try simp only [List.map_toArray, List.map_cons, List.map_nil]); first | done | rfl | (simp only [List.length_drop, List.length_take]; rfl)) ?_; (with_reducible refine (pfair_Window.calls k2 a0_0 a0_1 a0_2 x4_2 t197 t198 t199 t200 _ A15.out).mono ?_); rintro e w23 ⟨rfl, hb⟩; refine ⟨_, rfl, ?_⟩; have n0_ := Aside0.mk (blk_below (g := gb193) (o := .cells #[.string a0_0, .int .i64 a0_1, .int .i64 a0_2] 23 (0, 0)) (by (with_reducible repeat (first | refine blk_drewN ?_ _ | refine blk_drew ?_ | refine blk_alloc ?_ _)); exact BK193.out) hb); have n1_ := Aside0.mk (below_step (by repeat (first | (with_reducible first | exact HB.out | apply below_alloc | apply pw_below_drewN | apply below_drew1 | refine below_set ?_ GE193.out) | exact HB.out)) hb); clear BK193; clear HB; have BK193 := n0_; have HB := n1_; clear n0_ n1_; (try clear hb); (try clear hb2); (try clear hk); (try clear hi)) | ((with_reducible refine gate_dst (N := 6) rfl ?_); refine box_event ?hg (N := 6) ?hd (cs := #[.int .i64 0, .int .i64 0, .int .i64 0]) (t := 26) ?hr ?_; (case hd => rfl); (case hg => rfl); (case hr => first | (go_simp; done) | (go_simp; rfl)); intro gb201 hg w24 hbox hb; have n0_ := Aside0.mk (blk_below (g := gb193) (o := .cells #[.string a0_0, .int .i64 a0_1, .int .i64 a0_2] 23 (0, 0)) (by (with_reducible repeat (first | refine blk_drewN ?_ _ | refine blk_drew ?_ | refine blk_alloc ?_ _)); exact BK193.out) hb); have n1_ := Aside0.mk (below_step (by repeat (first | (with_reducible first | exact HB.out | apply below_alloc | apply pw_below_drewN | apply below_drew1 | refine below_set ?_ GE193.out) | exact HB.out)) hb); have n2_ := Aside0.mk (hbox); have n3_ := Aside0.mk ((by rw [hg]; exact (below_size (by repeat (first | (with_reducible first | exact HB.out | apply below_alloc | apply pw_below_drewN | apply below_drew1 | refine below_set ?_ GE193.out) | exact HB.out))) : w.heap.size ≤ gb201)); have n4_ := Aside0.mk ((by rw [hg]; exact (below_size (by repeat (first | (with_reducible first | exact HB.out | apply below_alloc | apply pw_below_drewN | apply below_drew1 | refine below_set ?_ GE193.out) | exact HB.out))) : w.heap.size ≤ gb201)); have n5_ := Aside0.mk ((by rw [hg]; exact Nat.ne_of_lt (blk_lt (g := gb193) (o := .cells #[.string a0_0, .int .i64 a0_1, .int .i64 a0_2] 23 (0, 0)) (by (with_reducible repeat (first | refine blk_drewN ?_ _ | refine blk_drew ?_ | refine blk_alloc ?_ _)); exact BK193.out)) : gb193 ≠ gb201)); have n6_ := Aside0.mk ((by rw [hg]; exact Nat.ne_of_gt (blk_lt (g := gb193) (o := .cells #[.string a0_0, .int .i64 a0_1, .int .i64 a0_2] 23 (0, 0)) (by (with_reducible repeat (first | refine blk_drewN ?_ _ | refine blk_drew ?_ | refine blk_alloc ?_ _)); exact BK193.out)) : gb201 ≠ gb193)); clear BK193; clear HB; have BK193 := n0_; have HB := n1_; have BK201 := n2_; have GW201 := n3_; have GE201 := n4_; have NB193_201 := n5_; have NB201_193 := n6_; clear n0_ n1_ n2_ n3_ n4_ n5_ n6_; clear hb hbox hg; have hnb25 := NB201_193.out; have hnc25 := NB193_201.out; have hcz26_0 : w24.cell? ⟨gb201, 0, none⟩ = some (.int .i64 0) := (blk_cell BK201.out 0).trans rfl; have hcz26_1 : w24.cell? ⟨gb201, 1, none⟩ = some (.int .i64 0) := (blk_cell BK201.out 1).trans rfl; have hcz26_2 : w24.cell? ⟨gb201, 2, none⟩ = some (.int .i64 0) := (blk_cell BK201.out 2).trans rfl; have hfz26_0 := blk_frozen BK201.out 0; have hfz26_1 := blk_frozen BK201.out 1; have hfz26_2 := blk_frozen BK201.out 2; have hcz27_0 : w24.cell? ⟨gb193, 0, none⟩ = some (.string a0_0) := (blk_cell BK193.out 0).trans rfl; have hcz27_1 : w24.cell? ⟨gb193, 1, none⟩ = some (.int .i64 a0_1) := (blk_cell BK193.out 1).trans rfl; have hcz27_2 : w24.cell? ⟨gb193, 2, none⟩ = some (.int .i64 a0_2) := (blk_cell BK193.out 2).trans rfl; have hfz27_0 := blk_frozen BK193.out 0; have hfz27_1 := blk_frozen BK193.out 1; have hfz27_2 := blk_frozen BK193.out 2) | ((with_reducible refine gate_callee (f := 14) rfl ?_); refine goesL_ (some 43) rfl rfl Try.func14 (by kernel_rfl) rfl #[.agg #[.string a0_0, .int .i64 a0_1, .int .i64 a0_2]] rfl (by (try simp only [List.map_toArray, List.map_cons, List.map_nil]); first | done | rfl | (simp only [List.length_drop, List.length_take]; rfl)) ?_; (with_reducible refine (pfair_Heavy.calls k2 a0_0 a0_1 a0_2 true _ A17.out).mono ?_); rintro e w28 ⟨rfl, hb⟩; refine ⟨_, rfl, ?_⟩; have n0_ := Aside0.mk (blk_below (g := gb193) (o := .cells #[.string a0_0, .int .i64 a0_1, .int .i64 a0_2] 23 (0, 0)) (by (with_reducible repeat (first | refine blk_drewN ?_ _ | refine blk_drew ?_ | refine blk_alloc ?_ _)); refine blk_far ?_ NB193_201.out _; (with_reducible repeat (first | refine blk_drewN ?_ _ | refine blk_drew ?_ | refine blk_alloc ?_ _)); refine blk_far ?_ NB193_201.out _; (with_reducible repeat (first | refine blk_drewN ?_ _ | refine blk_drew ?_ | refine blk_alloc ?_ _)); refine blk_far ?_ NB193_201.out _; (with_reducible repeat (first | refine blk_drewN ?_ _ | refine blk_drew ?_ | refine blk_alloc ?_ _)); exact BK193.out) hb); have n1_ := Aside0.mk (blk_below (g := gb201) (o := .cells #[.int .i64 t197, .int .i64 t198, .int .i64 t199] 26 (0, 0)) (by (with_reducible repeat (first | refine blk_drewN ?_ _ | refine blk_drew ?_ | refine blk_alloc ?_ _)); refine blk_put (cs := #[.int .i64 t197, .int .i64 t198, .int .i64 0]) ?_ 2 _ rfl; (with_reducible repeat (first | refine blk_drewN ?_ _ | refine blk_drew ?_ | refine blk_alloc ?_ _)); refine blk_put (cs := #[.int .i64 t197, .int .i64 0, .int .i64 0]) ?_ 1 _ rfl; (with_reducible repeat (first | refine blk_drewN ?_ _ | refine blk_drew ?_ | refine blk_alloc ?_ _)); refine blk_put (cs := #[.int .i64 0, .int .i64 0, .int .i64 0]) ?_ 0 _ rfl; (with_reducible repeat (first | refine blk_drewN ?_ _ | refine blk_drew ?_ | refine blk_alloc ?_ _)); exact BK201.out) hb); have n2_ := Aside0.mk (below_step (by repeat (first | (with_reducible first | exact HB.out | apply below_alloc | apply pw_below_drewN | apply below_drew1 | refine below_set ?_ GE193.out | refine below_set ?_ GE201.out) | exact HB.out)) hb); clear BK193; clear BK201; clear HB; have BK193 := n0_; have BK201 := n1_; have HB := n2_; clear n0_ n1_ n2_; (try clear hb); (try clear hb2); (try clear hk); (try clear hi)))
                      go_ret
                      exact ⟨by first | rfl | (simp [errW_none, errW_some] <;> rfl) | (simp [*, errW_none, errW_some] <;> rfl), by repeat (first | (with_reducible first | exact HB.out | apply below_alloc | apply pw_below_drewN | apply below_drew1 | refine below_set ?_ GE193.out | refine below_set ?_ GE201.out) | exact HB.out)⟩
                    · rw [if_neg c19] at H
                      have c19b0 : decide (t196 < x3_2) = false := decide_eq_false c19
                      clear c19
                      by_cases c29 : t196 < t199
                      · rw [if_pos c29] at H
                        have c29b0 : decide (t196 < t199) = true := decide_eq_true c29
                        clear c29
                        obtain rfl := Option.some.inj H
                        have hcz30_0 : wr.cell? ⟨gb193, 0, none⟩ = some (.string a0_0) := (blk_cell BK193.out 0).trans rfl
                        have hcz30_1 : wr.cell? ⟨gb193, 1, none⟩ = some (.int .i64 a0_1) := (blk_cell BK193.out 1).trans rfl
                        have hcz30_2 : wr.cell? ⟨gb193, 2, none⟩ = some (.int .i64 a0_2) := (blk_cell BK193.out 2).trans rfl
                        have hfz30_0 := blk_frozen BK193.out 0
                        have hfz30_1 := blk_frozen BK193.out 1
                        have hfz30_2 := blk_frozen BK193.out 2
                        go_wp2_with (first | ((with_reducible refine gate_callee (f := 17) rfl ?_); refine goesL_ (some 33) rfl rfl Try.func17 (by kernel_rfl) rfl #[.agg #[.string a0_0, .int .i64 a0_1, .int .i64 a0_2], .int .i64 x4_2] rfl (by (try simp only [List.map_toArray, List.map_cons, List.map_nil]); first | done | rfl | (simp only [List.length_drop, List.length_take]; rfl)) ?_; (with_reducible refine (pfair_Group.calls a0_0 a0_1 a0_2 x4_2 t196 _ A14.out).mono ?_); rintro e w31 ⟨rfl, hb⟩; refine ⟨_, rfl, ?_⟩; have n0_ := Aside0.mk (blk_below (g := gb193) (o := .cells #[.string a0_0, .int .i64 a0_1, .int .i64 a0_2] 23 (0, 0)) (by (with_reducible repeat (first | refine blk_drewN ?_ _ | refine blk_drew ?_ | refine blk_alloc ?_ _)); exact BK193.out) hb); have n1_ := Aside0.mk (below_step (by repeat (first | (with_reducible first | exact HB.out | apply below_alloc | apply pw_below_drewN | apply below_drew1 | refine below_set ?_ GE193.out) | exact HB.out)) hb); clear BK193; clear HB; have BK193 := n0_; have HB := n1_; clear n0_ n1_; (try clear hb); (try clear hb2); (try clear hk); (try clear hi); have hcz32_0 : w31.cell? ⟨gb193, 0, none⟩ = some (.string a0_0) := (blk_cell BK193.out 0).trans rfl; have hcz32_1 : w31.cell? ⟨gb193, 1, none⟩ = some (.int .i64 a0_1) := (blk_cell BK193.out 1).trans rfl; have hcz32_2 : w31.cell? ⟨gb193, 2, none⟩ = some (.int .i64 a0_2) := (blk_cell BK193.out 2).trans rfl; have hfz32_0 := blk_frozen BK193.out 0; have hfz32_1 := blk_frozen BK193.out 1; have hfz32_2 := blk_frozen BK193.out 2) | ((with_reducible refine gate_callee (f := 12) rfl ?_); refine goesL_ (some 37) rfl rfl Try.func12 (by kernel_rfl) rfl #[.agg #[.string a0_0, .int .i64 a0_1, .int .i64 a0_2], .int .i64 x4_2] rfl (by (try simp only [List.map_toArray, List.map_cons, List.map_nil]); first | done | rfl | (simp only [List.length_drop, List.length_take]; rfl)) ?_; (with_reducible refine (pfair_Window.calls k2 a0_0 a0_1 a0_2 x4_2 t197 t198 t199 t200 _ A15.out).mono ?_); rintro e w33 ⟨rfl, hb⟩; refine ⟨_, rfl, ?_⟩; have n0_ := Aside0.mk (blk_below (g := gb193) (o := .cells #[.string a0_0, .int .i64 a0_1, .int .i64 a0_2] 23 (0, 0)) (by (with_reducible repeat (first | refine blk_drewN ?_ _ | refine blk_drew ?_ | refine blk_alloc ?_ _)); exact BK193.out) hb); have n1_ := Aside0.mk (below_step (by repeat (first | (with_reducible first | exact HB.out | apply below_alloc | apply pw_below_drewN | apply below_drew1 | refine below_set ?_ GE193.out) | exact HB.out)) hb); clear BK193; clear HB; have BK193 := n0_; have HB := n1_; clear n0_ n1_; (try clear hb); (try clear hb2); (try clear hk); (try clear hi)) | ((with_reducible refine gate_dst (N := 6) rfl ?_); refine box_event ?hg (N := 6) ?hd (cs := #[.int .i64 0, .int .i64 0, .int .i64 0]) (t := 26) ?hr ?_; (case hd => rfl); (case hg => rfl); (case hr => first | (go_simp; done) | (go_simp; rfl)); intro gb201 hg w34 hbox hb; have n0_ := Aside0.mk (blk_below (g := gb193) (o := .cells #[.string a0_0, .int .i64 a0_1, .int .i64 a0_2] 23 (0, 0)) (by (with_reducible repeat (first | refine blk_drewN ?_ _ | refine blk_drew ?_ | refine blk_alloc ?_ _)); exact BK193.out) hb); have n1_ := Aside0.mk (below_step (by repeat (first | (with_reducible first | exact HB.out | apply below_alloc | apply pw_below_drewN | apply below_drew1 | refine below_set ?_ GE193.out) | exact HB.out)) hb); have n2_ := Aside0.mk (hbox); have n3_ := Aside0.mk ((by rw [hg]; exact (below_size (by repeat (first | (with_reducible first | exact HB.out | apply below_alloc | apply pw_below_drewN | apply below_drew1 | refine below_set ?_ GE193.out) | exact HB.out))) : w.heap.size ≤ gb201)); have n4_ := Aside0.mk ((by rw [hg]; exact (below_size (by repeat (first | (with_reducible first | exact HB.out | apply below_alloc | apply pw_below_drewN | apply below_drew1 | refine below_set ?_ GE193.out) | exact HB.out))) : w.heap.size ≤ gb201)); have n5_ := Aside0.mk ((by rw [hg]; exact Nat.ne_of_lt (blk_lt (g := gb193) (o := .cells #[.string a0_0, .int .i64 a0_1, .int .i64 a0_2] 23 (0, 0)) (by (with_reducible repeat (first | refine blk_drewN ?_ _ | refine blk_drew ?_ | refine blk_alloc ?_ _)); exact BK193.out)) : gb193 ≠ gb201)); have n6_ := Aside0.mk ((by rw [hg]; exact Nat.ne_of_gt (blk_lt (g := gb193) (o := .cells #[.string a0_0, .int .i64 a0_1, .int .i64 a0_2] 23 (0, 0)) (by (with_reducible repeat (first | refine blk_drewN ?_ _ | refine blk_drew ?_ | refine blk_alloc ?_ _)); exact BK193.out)) : gb201 ≠ gb193)); clear BK193; clear HB; have BK193 := n0_; have HB := n1_; have BK201 := n2_; have GW201 := n3_; have GE201 := n4_; have NB193_201 := n5_; have NB201_193 := n6_; clear n0_ n1_ n2_ n3_ n4_ n5_ n6_; clear hb hbox hg; have hnb35 := NB201_193.out; have hnc35 := NB193_201.out; have hcz36_0 : w34.cell? ⟨gb201, 0, none⟩ = some (.int .i64 0) := (blk_cell BK201.out 0).trans rfl; have hcz36_1 : w34.cell? ⟨gb201, 1, none⟩ = some (.int .i64 0) := (blk_cell BK201.out 1).trans rfl; have hcz36_2 : w34.cell? ⟨gb201, 2, none⟩ = some (.int .i64 0) := (blk_cell BK201.out 2).trans rfl; have hfz36_0 := blk_frozen BK201.out 0; have hfz36_1 := blk_frozen BK201.out 1; have hfz36_2 := blk_frozen BK201.out 2; have hcz37_0 : w34.cell? ⟨gb193, 0, none⟩ = some (.string a0_0) := (blk_cell BK193.out 0).trans rfl; have hcz37_1 : w34.cell? ⟨gb193, 1, none⟩ = some (.int .i64 a0_1) := (blk_cell BK193.out 1).trans rfl; have hcz37_2 : w34.cell? ⟨gb193, 2, none⟩ = some (.int .i64 a0_2) := (blk_cell BK193.out 2).trans rfl; have hfz37_0 := blk_frozen BK193.out 0; have hfz37_1 := blk_frozen BK193.out 1; have hfz37_2 := blk_frozen BK193.out 2) | ((with_reducible refine gate_callee (f := 14) rfl ?_); refine goesL_ (some 43) rfl rfl Try.func14 (by kernel_rfl) rfl #[.agg #[.string a0_0, .int .i64 a0_1, .int .i64 a0_2]] rfl (by (try simp only [List.map_toArray, List.map_cons, List.map_nil]); first | done | rfl | (simp only [List.length_drop, List.length_take]; rfl)) ?_; (with_reducible refine (pfair_Heavy.calls k2 a0_0 a0_1 a0_2 true _ A17.out).mono ?_); rintro e w38 ⟨rfl, hb⟩; refine ⟨_, rfl, ?_⟩; have n0_ := Aside0.mk (blk_below (g := gb193) (o := .cells #[.string a0_0, .int .i64 a0_1, .int .i64 a0_2] 23 (0, 0)) (by (with_reducible repeat (first | refine blk_drewN ?_ _ | refine blk_drew ?_ | refine blk_alloc ?_ _)); refine blk_far ?_ NB193_201.out _; (with_reducible repeat (first | refine blk_drewN ?_ _ | refine blk_drew ?_ | refine blk_alloc ?_ _)); refine blk_far ?_ NB193_201.out _; (with_reducible repeat (first | refine blk_drewN ?_ _ | refine blk_drew ?_ | refine blk_alloc ?_ _)); refine blk_far ?_ NB193_201.out _; (with_reducible repeat (first | refine blk_drewN ?_ _ | refine blk_drew ?_ | refine blk_alloc ?_ _)); exact BK193.out) hb); have n1_ := Aside0.mk (blk_below (g := gb201) (o := .cells #[.int .i64 t197, .int .i64 t198, .int .i64 t199] 26 (0, 0)) (by (with_reducible repeat (first | refine blk_drewN ?_ _ | refine blk_drew ?_ | refine blk_alloc ?_ _)); refine blk_put (cs := #[.int .i64 t197, .int .i64 t198, .int .i64 0]) ?_ 2 _ rfl; (with_reducible repeat (first | refine blk_drewN ?_ _ | refine blk_drew ?_ | refine blk_alloc ?_ _)); refine blk_put (cs := #[.int .i64 t197, .int .i64 0, .int .i64 0]) ?_ 1 _ rfl; (with_reducible repeat (first | refine blk_drewN ?_ _ | refine blk_drew ?_ | refine blk_alloc ?_ _)); refine blk_put (cs := #[.int .i64 0, .int .i64 0, .int .i64 0]) ?_ 0 _ rfl; (with_reducible repeat (first | refine blk_drewN ?_ _ | refine blk_drew ?_ | refine blk_alloc ?_ _)); exact BK201.out) hb); have n2_ := Aside0.mk (below_step (by repeat (first | (with_reducible first | exact HB.out | apply below_alloc | apply pw_below_drewN | apply below_drew1 | refine below_set ?_ GE193.out | refine below_set ?_ GE201.out) | exact HB.out)) hb); clear BK193; clear BK201; clear HB; have BK193 := n0_; have BK201 := n1_; have HB := n2_; clear n0_ n1_ n2_; (try clear hb); (try clear hb2); (try clear hk); (try clear hi); have hcz39_0 : w38.cell? ⟨gb201, 0, none⟩ = some (.int .i64 t197) := (blk_cell BK201.out 0).trans rfl; have hcz39_1 : w38.cell? ⟨gb201, 1, none⟩ = some (.int .i64 t198) := (blk_cell BK201.out 1).trans rfl; have hcz39_2 : w38.cell? ⟨gb201, 2, none⟩ = some (.int .i64 t199) := (blk_cell BK201.out 2).trans rfl; have hfz39_0 := blk_frozen BK201.out 0; have hfz39_1 := blk_frozen BK201.out 1; have hfz39_2 := blk_frozen BK201.out 2))
                        go_ret
                        exact ⟨by first | rfl | (simp [errW_none, errW_some] <;> rfl) | (simp [*, errW_none, errW_some] <;> rfl), by repeat (first | (with_reducible first | exact HB.out | apply below_alloc | apply pw_below_drewN | apply below_drew1 | refine below_set ?_ GE193.out | refine below_set ?_ GE201.out) | exact HB.out)⟩
                      · rw [if_neg c29] at H
                        have c29b0 : decide (t196 < t199) = false := decide_eq_false c29
                        clear c29
                        by_cases c40 : t196 > a0_2
                        · rw [if_pos c40] at H
                          have c40b0 : decide (a0_2 < t196) = true := decide_eq_true c40
                          clear c40
                          obtain rfl := Option.some.inj H
                          have hcz41_0 : wr.cell? ⟨gb193, 0, none⟩ = some (.string a0_0) := (blk_cell BK193.out 0).trans rfl
                          have hcz41_1 : wr.cell? ⟨gb193, 1, none⟩ = some (.int .i64 a0_1) := (blk_cell BK193.out 1).trans rfl
                          have hcz41_2 : wr.cell? ⟨gb193, 2, none⟩ = some (.int .i64 a0_2) := (blk_cell BK193.out 2).trans rfl
                          have hfz41_0 := blk_frozen BK193.out 0
                          have hfz41_1 := blk_frozen BK193.out 1
                          have hfz41_2 := blk_frozen BK193.out 2
                          go_wp2_with (first | ((with_reducible refine gate_callee (f := 17) rfl ?_); refine goesL_ (some 33) rfl rfl Try.func17 (by kernel_rfl) rfl #[.agg #[.string a0_0, .int .i64 a0_1, .int .i64 a0_2], .int .i64 x4_2] rfl (by (try simp only [List.map_toArray, List.map_cons, List.map_nil]); first | done | rfl | (simp only [List.length_drop, List.length_take]; rfl)) ?_; (with_reducible refine (pfair_Group.calls a0_0 a0_1 a0_2 x4_2 t196 _ A14.out).mono ?_); rintro e w42 ⟨rfl, hb⟩; refine ⟨_, rfl, ?_⟩; have n0_ := Aside0.mk (blk_below (g := gb193) (o := .cells #[.string a0_0, .int .i64 a0_1, .int .i64 a0_2] 23 (0, 0)) (by (with_reducible repeat (first | refine blk_drewN ?_ _ | refine blk_drew ?_ | refine blk_alloc ?_ _)); exact BK193.out) hb); have n1_ := Aside0.mk (below_step (by repeat (first | (with_reducible first | exact HB.out | apply below_alloc | apply pw_below_drewN | apply below_drew1 | refine below_set ?_ GE193.out) | exact HB.out)) hb); clear BK193; clear HB; have BK193 := n0_; have HB := n1_; clear n0_ n1_; (try clear hb); (try clear hb2); (try clear hk); (try clear hi); have hcz43_0 : w42.cell? ⟨gb193, 0, none⟩ = some (.string a0_0) := (blk_cell BK193.out 0).trans rfl; have hcz43_1 : w42.cell? ⟨gb193, 1, none⟩ = some (.int .i64 a0_1) := (blk_cell BK193.out 1).trans rfl; have hcz43_2 : w42.cell? ⟨gb193, 2, none⟩ = some (.int .i64 a0_2) := (blk_cell BK193.out 2).trans rfl; have hfz43_0 := blk_frozen BK193.out 0; have hfz43_1 := blk_frozen BK193.out 1; have hfz43_2 := blk_frozen BK193.out 2) | ((with_reducible refine gate_callee (f := 12) rfl ?_); refine goesL_ (some 37) rfl rfl Try.func12 (by kernel_rfl) rfl #[.agg #[.string a0_0, .int .i64 a0_1, .int .i64 a0_2], .int .i64 x4_2] rfl (by (try simp only [List.map_toArray, List.map_cons, List.map_nil]); first | done | rfl | (simp only [List.length_drop, List.length_take]; rfl)) ?_; (with_reducible refine (pfair_Window.calls k2 a0_0 a0_1 a0_2 x4_2 t197 t198 t199 t200 _ A15.out).mono ?_); rintro e w44 ⟨rfl, hb⟩; refine ⟨_, rfl, ?_⟩; have n0_ := Aside0.mk (blk_below (g := gb193) (o := .cells #[.string a0_0, .int .i64 a0_1, .int .i64 a0_2] 23 (0, 0)) (by (with_reducible repeat (first | refine blk_drewN ?_ _ | refine blk_drew ?_ | refine blk_alloc ?_ _)); exact BK193.out) hb); have n1_ := Aside0.mk (below_step (by repeat (first | (with_reducible first | exact HB.out | apply below_alloc | apply pw_below_drewN | apply below_drew1 | refine below_set ?_ GE193.out) | exact HB.out)) hb); clear BK193; clear HB; have BK193 := n0_; have HB := n1_; clear n0_ n1_; (try clear hb); (try clear hb2); (try clear hk); (try clear hi)) | ((with_reducible refine gate_dst (N := 6) rfl ?_); refine box_event ?hg (N := 6) ?hd (cs := #[.int .i64 0, .int .i64 0, .int .i64 0]) (t := 26) ?hr ?_; (case hd => rfl); (case hg => rfl); (case hr => first | (go_simp; done) | (go_simp; rfl)); intro gb201 hg w45 hbox hb; have n0_ := Aside0.mk (blk_below (g := gb193) (o := .cells #[.string a0_0, .int .i64 a0_1, .int .i64 a0_2] 23 (0, 0)) (by (with_reducible repeat (first | refine blk_drewN ?_ _ | refine blk_drew ?_ | refine blk_alloc ?_ _)); exact BK193.out) hb); have n1_ := Aside0.mk (below_step (by repeat (first | (with_reducible first | exact HB.out | apply below_alloc | apply pw_below_drewN | apply below_drew1 | refine below_set ?_ GE193.out) | exact HB.out)) hb); have n2_ := Aside0.mk (hbox); have n3_ := Aside0.mk ((by rw [hg]; exact (below_size (by repeat (first | (with_reducible first | exact HB.out | apply below_alloc | apply pw_below_drewN | apply below_drew1 | refine below_set ?_ GE193.out) | exact HB.out))) : w.heap.size ≤ gb201)); have n4_ := Aside0.mk ((by rw [hg]; exact (below_size (by repeat (first | (with_reducible first | exact HB.out | apply below_alloc | apply pw_below_drewN | apply below_drew1 | refine below_set ?_ GE193.out) | exact HB.out))) : w.heap.size ≤ gb201)); have n5_ := Aside0.mk ((by rw [hg]; exact Nat.ne_of_lt (blk_lt (g := gb193) (o := .cells #[.string a0_0, .int .i64 a0_1, .int .i64 a0_2] 23 (0, 0)) (by (with_reducible repeat (first | refine blk_drewN ?_ _ | refine blk_drew ?_ | refine blk_alloc ?_ _)); exact BK193.out)) : gb193 ≠ gb201)); have n6_ := Aside0.mk ((by rw [hg]; exact Nat.ne_of_gt (blk_lt (g := gb193) (o := .cells #[.string a0_0, .int .i64 a0_1, .int .i64 a0_2] 23 (0, 0)) (by (with_reducible repeat (first | refine blk_drewN ?_ _ | refine blk_drew ?_ | refine blk_alloc ?_ _)); exact BK193.out)) : gb201 ≠ gb193)); clear BK193; clear HB; have BK193 := n0_; have HB := n1_; have BK201 := n2_; have GW201 := n3_; have GE201 := n4_; have NB193_201 := n5_; have NB201_193 := n6_; clear n0_ n1_ n2_ n3_ n4_ n5_ n6_; clear hb hbox hg; have hnb46 := NB201_193.out; have hnc46 := NB193_201.out; have hcz47_0 : w45.cell? ⟨gb201, 0, none⟩ = some (.int .i64 0) := (blk_cell BK201.out 0).trans rfl; have hcz47_1 : w45.cell? ⟨gb201, 1, none⟩ = some (.int .i64 0) := (blk_cell BK201.out 1).trans rfl; have hcz47_2 : w45.cell? ⟨gb201, 2, none⟩ = some (.int .i64 0) := (blk_cell BK201.out 2).trans rfl; have hfz47_0 := blk_frozen BK201.out 0; have hfz47_1 := blk_frozen BK201.out 1; have hfz47_2 := blk_frozen BK201.out 2; have hcz48_0 : w45.cell? ⟨gb193, 0, none⟩ = some (.string a0_0) := (blk_cell BK193.out 0).trans rfl; have hcz48_1 : w45.cell? ⟨gb193, 1, none⟩ = some (.int .i64 a0_1) := (blk_cell BK193.out 1).trans rfl; have hcz48_2 : w45.cell? ⟨gb193, 2, none⟩ = some (.int .i64 a0_2) := (blk_cell BK193.out 2).trans rfl; have hfz48_0 := blk_frozen BK193.out 0; have hfz48_1 := blk_frozen BK193.out 1; have hfz48_2 := blk_frozen BK193.out 2) | ((with_reducible refine gate_callee (f := 14) rfl ?_); refine goesL_ (some 43) rfl rfl Try.func14 (by kernel_rfl) rfl #[.agg #[.string a0_0, .int .i64 a0_1, .int .i64 a0_2]] rfl (by (try simp only [List.map_toArray, List.map_cons, List.map_nil]); first | done | rfl | (simp only [List.length_drop, List.length_take]; rfl)) ?_; (with_reducible refine (pfair_Heavy.calls k2 a0_0 a0_1 a0_2 true _ A17.out).mono ?_); rintro e w49 ⟨rfl, hb⟩; refine ⟨_, rfl, ?_⟩; have n0_ := Aside0.mk (blk_below (g := gb193) (o := .cells #[.string a0_0, .int .i64 a0_1, .int .i64 a0_2] 23 (0, 0)) (by (with_reducible repeat (first | refine blk_drewN ?_ _ | refine blk_drew ?_ | refine blk_alloc ?_ _)); refine blk_far ?_ NB193_201.out _; (with_reducible repeat (first | refine blk_drewN ?_ _ | refine blk_drew ?_ | refine blk_alloc ?_ _)); refine blk_far ?_ NB193_201.out _; (with_reducible repeat (first | refine blk_drewN ?_ _ | refine blk_drew ?_ | refine blk_alloc ?_ _)); refine blk_far ?_ NB193_201.out _; (with_reducible repeat (first | refine blk_drewN ?_ _ | refine blk_drew ?_ | refine blk_alloc ?_ _)); exact BK193.out) hb); have n1_ := Aside0.mk (blk_below (g := gb201) (o := .cells #[.int .i64 t197, .int .i64 t198, .int .i64 t199] 26 (0, 0)) (by (with_reducible repeat (first | refine blk_drewN ?_ _ | refine blk_drew ?_ | refine blk_alloc ?_ _)); refine blk_put (cs := #[.int .i64 t197, .int .i64 t198, .int .i64 0]) ?_ 2 _ rfl; (with_reducible repeat (first | refine blk_drewN ?_ _ | refine blk_drew ?_ | refine blk_alloc ?_ _)); refine blk_put (cs := #[.int .i64 t197, .int .i64 0, .int .i64 0]) ?_ 1 _ rfl; (with_reducible repeat (first | refine blk_drewN ?_ _ | refine blk_drew ?_ | refine blk_alloc ?_ _)); refine blk_put (cs := #[.int .i64 0, .int .i64 0, .int .i64 0]) ?_ 0 _ rfl; (with_reducible repeat (first | refine blk_drewN ?_ _ | refine blk_drew ?_ | refine blk_alloc ?_ _)); exact BK201.out) hb); have n2_ := Aside0.mk (below_step (by repeat (first | (with_reducible first | exact HB.out | apply below_alloc | apply pw_below_drewN | apply below_drew1 | refine below_set ?_ GE193.out | refine below_set ?_ GE201.out) | exact HB.out)) hb); clear BK193; clear BK201; clear HB; have BK193 := n0_; have BK201 := n1_; have HB := n2_; clear n0_ n1_ n2_; (try clear hb); (try clear hb2); (try clear hk); (try clear hi); have hcz50_0 : w49.cell? ⟨gb201, 0, none⟩ = some (.int .i64 t197) := (blk_cell BK201.out 0).trans rfl; have hcz50_1 : w49.cell? ⟨gb201, 1, none⟩ = some (.int .i64 t198) := (blk_cell BK201.out 1).trans rfl; have hcz50_2 : w49.cell? ⟨gb201, 2, none⟩ = some (.int .i64 t199) := (blk_cell BK201.out 2).trans rfl; have hfz50_0 := blk_frozen BK201.out 0; have hfz50_1 := blk_frozen BK201.out 1; have hfz50_2 := blk_frozen BK201.out 2; have hcz51_0 : w49.cell? ⟨gb193, 0, none⟩ = some (.string a0_0) := (blk_cell BK193.out 0).trans rfl; have hcz51_1 : w49.cell? ⟨gb193, 1, none⟩ = some (.int .i64 a0_1) := (blk_cell BK193.out 1).trans rfl; have hcz51_2 : w49.cell? ⟨gb193, 2, none⟩ = some (.int .i64 a0_2) := (blk_cell BK193.out 2).trans rfl; have hfz51_0 := blk_frozen BK193.out 0; have hfz51_1 := blk_frozen BK193.out 1; have hfz51_2 := blk_frozen BK193.out 2))
                          go_ret
                          exact ⟨by first | rfl | (simp [errW_none, errW_some] <;> rfl) | (simp [*, errW_none, errW_some] <;> rfl), by repeat (first | (with_reducible first | exact HB.out | apply below_alloc | apply pw_below_drewN | apply below_drew1 | refine below_set ?_ GE193.out | refine below_set ?_ GE201.out) | exact HB.out)⟩
                        · rw [if_neg c40] at H
                          have c40b0 : decide (a0_2 < t196) = false := decide_eq_false c40
                          clear c40
                          by_cases c52 : x4_2 = a0_1
                          · rw [if_pos c52] at H
                            have c52b0 : (x4_2 == a0_1) = true := beq_iff_eq.mpr c52
                            have c52b1 : (x4_2 != a0_1) = false := bne_eq_false_iff_eq.mpr c52
                            clear c52
                            by_cases c53 : t196 = a0_2
                            · rw [if_pos c53] at H
                              have c53b0 : (t196 == a0_2) = true := beq_iff_eq.mpr c53
                              have c53b1 : (t196 != a0_2) = false := bne_eq_false_iff_eq.mpr c53
                              clear c53
                              have H' := Aside0.mk H
                              clear H
                              have hcz54_0 : wr.cell? ⟨gb193, 0, none⟩ = some (.string a0_0) := (blk_cell BK193.out 0).trans rfl
                              have hcz54_1 : wr.cell? ⟨gb193, 1, none⟩ = some (.int .i64 a0_1) := (blk_cell BK193.out 1).trans rfl
                              have hcz54_2 : wr.cell? ⟨gb193, 2, none⟩ = some (.int .i64 a0_2) := (blk_cell BK193.out 2).trans rfl
                              have hfz54_0 := blk_frozen BK193.out 0
                              have hfz54_1 := blk_frozen BK193.out 1
                              have hfz54_2 := blk_frozen BK193.out 2
                              go_wp2_with (first | ((with_reducible refine gate_callee (f := 17) rfl ?_); refine goesL_ (some 33) rfl rfl Try.func17 (by kernel_rfl) rfl #[.agg #[.string a0_0, .int .i64 a0_1, .int .i64 a0_2], .int .i64 x4_2] rfl (by (try simp only [List.map_toArray, List.map_cons, List.map_nil]); first | done | rfl | (simp only [List.length_drop, List.length_take]; rfl)) ?_; (with_reducible refine (pfair_Group.calls a0_0 a0_1 a0_2 x4_2 t196 _ A14.out).mono ?_); rintro e w55 ⟨rfl, hb⟩; refine ⟨_, rfl, ?_⟩; have n0_ := Aside0.mk (blk_below (g := gb193) (o := .cells #[.string a0_0, .int .i64 a0_1, .int .i64 a0_2] 23 (0, 0)) (by (with_reducible repeat (first | refine blk_drewN ?_ _ | refine blk_drew ?_ | refine blk_alloc ?_ _)); exact BK193.out) hb); have n1_ := Aside0.mk (below_step (by repeat (first | (with_reducible first | exact HB.out | apply below_alloc | apply pw_below_drewN | apply below_drew1 | refine below_set ?_ GE193.out) | exact HB.out)) hb); clear BK193; clear HB; have BK193 := n0_; have HB := n1_; clear n0_ n1_; (try clear hb); (try clear hb2); (try clear hk); (try clear hi); have hcz56_0 : w55.cell? ⟨gb193, 0, none⟩ = some (.string a0_0) := (blk_cell BK193.out 0).trans rfl; have hcz56_1 : w55.cell? ⟨gb193, 1, none⟩ = some (.int .i64 a0_1) := (blk_cell BK193.out 1).trans rfl; have hcz56_2 : w55.cell? ⟨gb193, 2, none⟩ = some (.int .i64 a0_2) := (blk_cell BK193.out 2).trans rfl; have hfz56_0 := blk_frozen BK193.out 0; have hfz56_1 := blk_frozen BK193.out 1; have hfz56_2 := blk_frozen BK193.out 2) | ((with_reducible refine gate_callee (f := 12) rfl ?_); refine goesL_ (some 37) rfl rfl Try.func12 (by kernel_rfl) rfl #[.agg #[.string a0_0, .int .i64 a0_1, .int .i64 a0_2], .int .i64 x4_2] rfl (by (try simp only [List.map_toArray, List.map_cons, List.map_nil]); first | done | rfl | (simp only [List.length_drop, List.length_take]; rfl)) ?_; (with_reducible refine (pfair_Window.calls k2 a0_0 a0_1 a0_2 x4_2 t197 t198 t199 t200 _ A15.out).mono ?_); rintro e w57 ⟨rfl, hb⟩; refine ⟨_, rfl, ?_⟩; have n0_ := Aside0.mk (blk_below (g := gb193) (o := .cells #[.string a0_0, .int .i64 a0_1, .int .i64 a0_2] 23 (0, 0)) (by (with_reducible repeat (first | refine blk_drewN ?_ _ | refine blk_drew ?_ | refine blk_alloc ?_ _)); exact BK193.out) hb); have n1_ := Aside0.mk (below_step (by repeat (first | (with_reducible first | exact HB.out | apply below_alloc | apply pw_below_drewN | apply below_drew1 | refine below_set ?_ GE193.out) | exact HB.out)) hb); clear BK193; clear HB; have BK193 := n0_; have HB := n1_; clear n0_ n1_; (try clear hb); (try clear hb2); (try clear hk); (try clear hi)) | ((with_reducible refine gate_dst (N := 6) rfl ?_); refine box_event ?hg (N := 6) ?hd (cs := #[.int .i64 0, .int .i64 0, .int .i64 0]) (t := 26) ?hr ?_; (case hd => rfl); (case hg => rfl); (case hr => first | (go_simp; done) | (go_simp; rfl)); intro gb201 hg w58 hbox hb; have n0_ := Aside0.mk (blk_below (g := gb193) (o := .cells #[.string a0_0, .int .i64 a0_1, .int .i64 a0_2] 23 (0, 0)) (by (with_reducible repeat (first | refine blk_drewN ?_ _ | refine blk_drew ?_ | refine blk_alloc ?_ _)); exact BK193.out) hb); have n1_ := Aside0.mk (below_step (by repeat (first | (with_reducible first | exact HB.out | apply below_alloc | apply pw_below_drewN | apply below_drew1 | refine below_set ?_ GE193.out) | exact HB.out)) hb); have n2_ := Aside0.mk (hbox); have n3_ := Aside0.mk ((by rw [hg]; exact (below_size (by repeat (first | (with_reducible first | exact HB.out | apply below_alloc | apply pw_below_drewN | apply below_drew1 | refine below_set ?_ GE193.out) | exact HB.out))) : w.heap.size ≤ gb201)); have n4_ := Aside0.mk ((by rw [hg]; exact (below_size (by repeat (first | (with_reducible first | exact HB.out | apply below_alloc | apply pw_below_drewN | apply below_drew1 | refine below_set ?_ GE193.out) | exact HB.out))) : w.heap.size ≤ gb201)); have n5_ := Aside0.mk ((by rw [hg]; exact Nat.ne_of_lt (blk_lt (g := gb193) (o := .cells #[.string a0_0, .int .i64 a0_1, .int .i64 a0_2] 23 (0, 0)) (by (with_reducible repeat (first | refine blk_drewN ?_ _ | refine blk_drew ?_ | refine blk_alloc ?_ _)); exact BK193.out)) : gb193 ≠ gb201)); have n6_ := Aside0.mk ((by rw [hg]; exact Nat.ne_of_gt (blk_lt (g := gb193) (o := .cells #[.string a0_0, .int .i64 a0_1, .int .i64 a0_2] 23 (0, 0)) (by (with_reducible repeat (first | refine blk_drewN ?_ _ | refine blk_drew ?_ | refine blk_alloc ?_ _)); exact BK193.out)) : gb201 ≠ gb193)); clear BK193; clear HB; have BK193 := n0_; have HB := n1_; have BK201 := n2_; have GW201 := n3_; have GE201 := n4_; have NB193_201 := n5_; have NB201_193 := n6_; clear n0_ n1_ n2_ n3_ n4_ n5_ n6_; clear hb hbox hg; have hnb59 := NB201_193.out; have hnc59 := NB193_201.out; have hcz60_0 : w58.cell? ⟨gb201, 0, none⟩ = some (.int .i64 0) := (blk_cell BK201.out 0).trans rfl; have hcz60_1 : w58.cell? ⟨gb201, 1, none⟩ = some (.int .i64 0) := (blk_cell BK201.out 1).trans rfl; have hcz60_2 : w58.cell? ⟨gb201, 2, none⟩ = some (.int .i64 0) := (blk_cell BK201.out 2).trans rfl; have hfz60_0 := blk_frozen BK201.out 0; have hfz60_1 := blk_frozen BK201.out 1; have hfz60_2 := blk_frozen BK201.out 2; have hcz61_0 : w58.cell? ⟨gb193, 0, none⟩ = some (.string a0_0) := (blk_cell BK193.out 0).trans rfl; have hcz61_1 : w58.cell? ⟨gb193, 1, none⟩ = some (.int .i64 a0_1) := (blk_cell BK193.out 1).trans rfl; have hcz61_2 : w58.cell? ⟨gb193, 2, none⟩ = some (.int .i64 a0_2) := (blk_cell BK193.out 2).trans rfl; have hfz61_0 := blk_frozen BK193.out 0; have hfz61_1 := blk_frozen BK193.out 1; have hfz61_2 := blk_frozen BK193.out 2) | ((with_reducible refine gate_callee (f := 14) rfl ?_); refine goesL_ (some 43) rfl rfl Try.func14 (by kernel_rfl) rfl #[.agg #[.string a0_0, .int .i64 a0_1, .int .i64 a0_2]] rfl (by (try simp only [List.map_toArray, List.map_cons, List.map_nil]); first | done | rfl | (simp only [List.length_drop, List.length_take]; rfl)) ?_; (with_reducible refine (pfair_Heavy.calls k2 a0_0 a0_1 a0_2 true _ A17.out).mono ?_); rintro e w62 ⟨rfl, hb⟩; refine ⟨_, rfl, ?_⟩; have n0_ := Aside0.mk (blk_below (g := gb193) (o := .cells #[.string a0_0, .int .i64 a0_1, .int .i64 a0_2] 23 (0, 0)) (by (with_reducible repeat (first | refine blk_drewN ?_ _ | refine blk_drew ?_ | refine blk_alloc ?_ _)); refine blk_far ?_ NB193_201.out _; (with_reducible repeat (first | refine blk_drewN ?_ _ | refine blk_drew ?_ | refine blk_alloc ?_ _)); refine blk_far ?_ NB193_201.out _; (with_reducible repeat (first | refine blk_drewN ?_ _ | refine blk_drew ?_ | refine blk_alloc ?_ _)); refine blk_far ?_ NB193_201.out _; (with_reducible repeat (first | refine blk_drewN ?_ _ | refine blk_drew ?_ | refine blk_alloc ?_ _)); exact BK193.out) hb); have n1_ := Aside0.mk (blk_below (g := gb201) (o := .cells #[.int .i64 t197, .int .i64 t198, .int .i64 t199] 26 (0, 0)) (by (with_reducible repeat (first | refine blk_drewN ?_ _ | refine blk_drew ?_ | refine blk_alloc ?_ _)); refine blk_put (cs := #[.int .i64 t197, .int .i64 t198, .int .i64 0]) ?_ 2 _ rfl; (with_reducible repeat (first | refine blk_drewN ?_ _ | refine blk_drew ?_ | refine blk_alloc ?_ _)); refine blk_put (cs := #[.int .i64 t197, .int .i64 0, .int .i64 0]) ?_ 1 _ rfl; (with_reducible repeat (first | refine blk_drewN ?_ _ | refine blk_drew ?_ | refine blk_alloc ?_ _)); refine blk_put (cs := #[.int .i64 0, .int .i64 0, .int .i64 0]) ?_ 0 _ rfl; (with_reducible repeat (first | refine blk_drewN ?_ _ | refine blk_drew ?_ | refine blk_alloc ?_ _)); exact BK201.out) hb); have n2_ := Aside0.mk (below_step (by repeat (first | (with_reducible first | exact HB.out | apply below_alloc | apply pw_below_drewN | apply below_drew1 | refine below_set ?_ GE193.out | refine below_set ?_ GE201.out) | exact HB.out)) hb); clear BK193; clear BK201; clear HB; have BK193 := n0_; have BK201 := n1_; have HB := n2_; clear n0_ n1_ n2_; (try clear hb); (try clear hb2); (try clear hk); (try clear hi); have hcz63_0 : w62.cell? ⟨gb201, 0, none⟩ = some (.int .i64 t197) := (blk_cell BK201.out 0).trans rfl; have hcz63_1 : w62.cell? ⟨gb201, 1, none⟩ = some (.int .i64 t198) := (blk_cell BK201.out 1).trans rfl; have hcz63_2 : w62.cell? ⟨gb201, 2, none⟩ = some (.int .i64 t199) := (blk_cell BK201.out 2).trans rfl; have hfz63_0 := blk_frozen BK201.out 0; have hfz63_1 := blk_frozen BK201.out 1; have hfz63_2 := blk_frozen BK201.out 2; have hcz64_0 : w62.cell? ⟨gb193, 0, none⟩ = some (.string a0_0) := (blk_cell BK193.out 0).trans rfl; have hcz64_1 : w62.cell? ⟨gb193, 1, none⟩ = some (.int .i64 a0_1) := (blk_cell BK193.out 1).trans rfl; have hcz64_2 : w62.cell? ⟨gb193, 2, none⟩ = some (.int .i64 a0_2) := (blk_cell BK193.out 2).trans rfl; have hfz64_0 := blk_frozen BK193.out 0; have hfz64_1 := blk_frozen BK193.out 1; have hfz64_2 := blk_frozen BK193.out 2))
                              go_roundg k2
                              case measure => have := HJ3.out; have := HK2.out; omega
                              case rel => exact ⟨(t196), (wrap64 (x4_2 + 1)), (by first | rfl | (simp; done) | (simp [*]; done)), (by first | rfl | (simp; done) | (simp [*]; done)), H', ⟨by have := HJ3.out; have := HK2.out; omega⟩, ⟨by (with_reducible repeat (first | refine blk_drewN ?_ _ | refine blk_drew ?_ | refine blk_alloc ?_ _)); exact BK193.out⟩, ⟨by repeat (first | (with_reducible first | exact HB.out | apply below_alloc | apply pw_below_drewN | apply below_drew1 | refine below_set ?_ GE193.out | refine below_set ?_ GE201.out) | exact HB.out)⟩⟩
                            · rw [if_neg c53] at H
                              have c53b0 : (t196 == a0_2) = false := beq_eq_false_iff_ne.mpr c53
                              have c53b1 : (t196 != a0_2) = true := bne_iff_ne.mpr c53
                              obtain rfl := Option.some.inj H
                              have hcz65_0 : wr.cell? ⟨gb193, 0, none⟩ = some (.string a0_0) := (blk_cell BK193.out 0).trans rfl
                              have hcz65_1 : wr.cell? ⟨gb193, 1, none⟩ = some (.int .i64 a0_1) := (blk_cell BK193.out 1).trans rfl
                              have hcz65_2 : wr.cell? ⟨gb193, 2, none⟩ = some (.int .i64 a0_2) := (blk_cell BK193.out 2).trans rfl
                              have hfz65_0 := blk_frozen BK193.out 0
                              have hfz65_1 := blk_frozen BK193.out 1
                              have hfz65_2 := blk_frozen BK193.out 2
                              go_wp2_with (first | ((with_reducible refine gate_callee (f := 17) rfl ?_); refine goesL_ (some 33) rfl rfl Try.func17 (by kernel_rfl) rfl #[.agg #[.string a0_0, .int .i64 a0_1, .int .i64 a0_2], .int .i64 x4_2] rfl (by (try simp only [List.map_toArray, List.map_cons, List.map_nil]); first | done | rfl | (simp only [List.length_drop, List.length_take]; rfl)) ?_; (with_reducible refine (pfair_Group.calls a0_0 a0_1 a0_2 x4_2 t196 _ A14.out).mono ?_); rintro e w66 ⟨rfl, hb⟩; refine ⟨_, rfl, ?_⟩; have n0_ := Aside0.mk (blk_below (g := gb193) (o := .cells #[.string a0_0, .int .i64 a0_1, .int .i64 a0_2] 23 (0, 0)) (by (with_reducible repeat (first | refine blk_drewN ?_ _ | refine blk_drew ?_ | refine blk_alloc ?_ _)); exact BK193.out) hb); have n1_ := Aside0.mk (below_step (by repeat (first | (with_reducible first | exact HB.out | apply below_alloc | apply pw_below_drewN | apply below_drew1 | refine below_set ?_ GE193.out) | exact HB.out)) hb); clear BK193; clear HB; have BK193 := n0_; have HB := n1_; clear n0_ n1_; (try clear hb); (try clear hb2); (try clear hk); (try clear hi); have hcz67_0 : w66.cell? ⟨gb193, 0, none⟩ = some (.string a0_0) := (blk_cell BK193.out 0).trans rfl; have hcz67_1 : w66.cell? ⟨gb193, 1, none⟩ = some (.int .i64 a0_1) := (blk_cell BK193.out 1).trans rfl; have hcz67_2 : w66.cell? ⟨gb193, 2, none⟩ = some (.int .i64 a0_2) := (blk_cell BK193.out 2).trans rfl; have hfz67_0 := blk_frozen BK193.out 0; have hfz67_1 := blk_frozen BK193.out 1; have hfz67_2 := blk_frozen BK193.out 2) | ((with_reducible refine gate_callee (f := 12) rfl ?_); refine goesL_ (some 37) rfl rfl Try.func12 (by kernel_rfl) rfl #[.agg #[.string a0_0, .int .i64 a0_1, .int .i64 a0_2], .int .i64 x4_2] rfl (by (try simp only [List.map_toArray, List.map_cons, List.map_nil]); first | done | rfl | (simp only [List.length_drop, List.length_take]; rfl)) ?_; (with_reducible refine (pfair_Window.calls k2 a0_0 a0_1 a0_2 x4_2 t197 t198 t199 t200 _ A15.out).mono ?_); rintro e w68 ⟨rfl, hb⟩; refine ⟨_, rfl, ?_⟩; have n0_ := Aside0.mk (blk_below (g := gb193) (o := .cells #[.string a0_0, .int .i64 a0_1, .int .i64 a0_2] 23 (0, 0)) (by (with_reducible repeat (first | refine blk_drewN ?_ _ | refine blk_drew ?_ | refine blk_alloc ?_ _)); exact BK193.out) hb); have n1_ := Aside0.mk (below_step (by repeat (first | (with_reducible first | exact HB.out | apply below_alloc | apply pw_below_drewN | apply below_drew1 | refine below_set ?_ GE193.out) | exact HB.out)) hb); clear BK193; clear HB; have BK193 := n0_; have HB := n1_; clear n0_ n1_; (try clear hb); (try clear hb2); (try clear hk); (try clear hi)) | ((with_reducible refine gate_dst (N := 6) rfl ?_); refine box_event ?hg (N := 6) ?hd (cs := #[.int .i64 0, .int .i64 0, .int .i64 0]) (t := 26) ?hr ?_; (case hd => rfl); (case hg => rfl); (case hr => first | (go_simp; done) | (go_simp; rfl)); intro gb201 hg w69 hbox hb; have n0_ := Aside0.mk (blk_below (g := gb193) (o := .cells #[.string a0_0, .int .i64 a0_1, .int .i64 a0_2] 23 (0, 0)) (by (with_reducible repeat (first | refine blk_drewN ?_ _ | refine blk_drew ?_ | refine blk_alloc ?_ _)); exact BK193.out) hb); have n1_ := Aside0.mk (below_step (by repeat (first | (with_reducible first | exact HB.out | apply below_alloc | apply pw_below_drewN | apply below_drew1 | refine below_set ?_ GE193.out) | exact HB.out)) hb); have n2_ := Aside0.mk (hbox); have n3_ := Aside0.mk ((by rw [hg]; exact (below_size (by repeat (first | (with_reducible first | exact HB.out | apply below_alloc | apply pw_below_drewN | apply below_drew1 | refine below_set ?_ GE193.out) | exact HB.out))) : w.heap.size ≤ gb201)); have n4_ := Aside0.mk ((by rw [hg]; exact (below_size (by repeat (first | (with_reducible first | exact HB.out | apply below_alloc | apply pw_below_drewN | apply below_drew1 | refine below_set ?_ GE193.out) | exact HB.out))) : w.heap.size ≤ gb201)); have n5_ := Aside0.mk ((by rw [hg]; exact Nat.ne_of_lt (blk_lt (g := gb193) (o := .cells #[.string a0_0, .int .i64 a0_1, .int .i64 a0_2] 23 (0, 0)) (by (with_reducible repeat (first | refine blk_drewN ?_ _ | refine blk_drew ?_ | refine blk_alloc ?_ _)); exact BK193.out)) : gb193 ≠ gb201)); have n6_ := Aside0.mk ((by rw [hg]; exact Nat.ne_of_gt (blk_lt (g := gb193) (o := .cells #[.string a0_0, .int .i64 a0_1, .int .i64 a0_2] 23 (0, 0)) (by (with_reducible repeat (first | refine blk_drewN ?_ _ | refine blk_drew ?_ | refine blk_alloc ?_ _)); exact BK193.out)) : gb201 ≠ gb193)); clear BK193; clear HB; have BK193 := n0_; have HB := n1_; have BK201 := n2_; have GW201 := n3_; have GE201 := n4_; have NB193_201 := n5_; have NB201_193 := n6_; clear n0_ n1_ n2_ n3_ n4_ n5_ n6_; clear hb hbox hg; have hnb70 := NB201_193.out; have hnc70 := NB193_201.out; have hcz71_0 : w69.cell? ⟨gb201, 0, none⟩ = some (.int .i64 0) := (blk_cell BK201.out 0).trans rfl; have hcz71_1 : w69.cell? ⟨gb201, 1, none⟩ = some (.int .i64 0) := (blk_cell BK201.out 1).trans rfl; have hcz71_2 : w69.cell? ⟨gb201, 2, none⟩ = some (.int .i64 0) := (blk_cell BK201.out 2).trans rfl; have hfz71_0 := blk_frozen BK201.out 0; have hfz71_1 := blk_frozen BK201.out 1; have hfz71_2 := blk_frozen BK201.out 2; have hcz72_0 : w69.cell? ⟨gb193, 0, none⟩ = some (.string a0_0) := (blk_cell BK193.out 0).trans rfl; have hcz72_1 : w69.cell? ⟨gb193, 1, none⟩ = some (.int .i64 a0_1) := (blk_cell BK193.out 1).trans rfl; have hcz72_2 : w69.cell? ⟨gb193, 2, none⟩ = some (.int .i64 a0_2) := (blk_cell BK193.out 2).trans rfl; have hfz72_0 := blk_frozen BK193.out 0; have hfz72_1 := blk_frozen BK193.out 1; have hfz72_2 := blk_frozen BK193.out 2) | ((with_reducible refine gate_callee (f := 14) rfl ?_); refine goesL_ (some 43) rfl rfl Try.func14 (by kernel_rfl) rfl #[.agg #[.string a0_0, .int .i64 a0_1, .int .i64 a0_2]] rfl (by (try simp only [List.map_toArray, List.map_cons, List.map_nil]); first | done | rfl | (simp only [List.length_drop, List.length_take]; rfl)) ?_; (with_reducible refine (pfair_Heavy.calls k2 a0_0 a0_1 a0_2 true _ A17.out).mono ?_); rintro e w73 ⟨rfl, hb⟩; refine ⟨_, rfl, ?_⟩; have n0_ := Aside0.mk (blk_below (g := gb193) (o := .cells #[.string a0_0, .int .i64 a0_1, .int .i64 a0_2] 23 (0, 0)) (by (with_reducible repeat (first | refine blk_drewN ?_ _ | refine blk_drew ?_ | refine blk_alloc ?_ _)); refine blk_far ?_ NB193_201.out _; (with_reducible repeat (first | refine blk_drewN ?_ _ | refine blk_drew ?_ | refine blk_alloc ?_ _)); refine blk_far ?_ NB193_201.out _; (with_reducible repeat (first | refine blk_drewN ?_ _ | refine blk_drew ?_ | refine blk_alloc ?_ _)); refine blk_far ?_ NB193_201.out _; (with_reducible repeat (first | refine blk_drewN ?_ _ | refine blk_drew ?_ | refine blk_alloc ?_ _)); exact BK193.out) hb); have n1_ := Aside0.mk (blk_below (g := gb201) (o := .cells #[.int .i64 t197, .int .i64 t198, .int .i64 t199] 26 (0, 0)) (by (with_reducible repeat (first | refine blk_drewN ?_ _ | refine blk_drew ?_ | refine blk_alloc ?_ _)); refine blk_put (cs := #[.int .i64 t197, .int .i64 t198, .int .i64 0]) ?_ 2 _ rfl; (with_reducible repeat (first | refine blk_drewN ?_ _ | refine blk_drew ?_ | refine blk_alloc ?_ _)); refine blk_put (cs := #[.int .i64 t197, .int .i64 0, .int .i64 0]) ?_ 1 _ rfl; (with_reducible repeat (first | refine blk_drewN ?_ _ | refine blk_drew ?_ | refine blk_alloc ?_ _)); refine blk_put (cs := #[.int .i64 0, .int .i64 0, .int .i64 0]) ?_ 0 _ rfl; (with_reducible repeat (first | refine blk_drewN ?_ _ | refine blk_drew ?_ | refine blk_alloc ?_ _)); exact BK201.out) hb); have n2_ := Aside0.mk (below_step (by repeat (first | (with_reducible first | exact HB.out | apply below_alloc | apply pw_below_drewN | apply below_drew1 | refine below_set ?_ GE193.out | refine below_set ?_ GE201.out) | exact HB.out)) hb); clear BK193; clear BK201; clear HB; have BK193 := n0_; have BK201 := n1_; have HB := n2_; clear n0_ n1_ n2_; (try clear hb); (try clear hb2); (try clear hk); (try clear hi); have hcz74_0 : w73.cell? ⟨gb201, 0, none⟩ = some (.int .i64 t197) := (blk_cell BK201.out 0).trans rfl; have hcz74_1 : w73.cell? ⟨gb201, 1, none⟩ = some (.int .i64 t198) := (blk_cell BK201.out 1).trans rfl; have hcz74_2 : w73.cell? ⟨gb201, 2, none⟩ = some (.int .i64 t199) := (blk_cell BK201.out 2).trans rfl; have hfz74_0 := blk_frozen BK201.out 0; have hfz74_1 := blk_frozen BK201.out 1; have hfz74_2 := blk_frozen BK201.out 2; have hcz75_0 : w73.cell? ⟨gb193, 0, none⟩ = some (.string a0_0) := (blk_cell BK193.out 0).trans rfl; have hcz75_1 : w73.cell? ⟨gb193, 1, none⟩ = some (.int .i64 a0_1) := (blk_cell BK193.out 1).trans rfl; have hcz75_2 : w73.cell? ⟨gb193, 2, none⟩ = some (.int .i64 a0_2) := (blk_cell BK193.out 2).trans rfl; have hfz75_0 := blk_frozen BK193.out 0; have hfz75_1 := blk_frozen BK193.out 1; have hfz75_2 := blk_frozen BK193.out 2))
                              go_ret
                              exact ⟨by first | rfl | (simp [errW_none, errW_some] <;> rfl) | (simp [*, errW_none, errW_some] <;> rfl), by repeat (first | (with_reducible first | exact HB.out | apply below_alloc | apply pw_below_drewN | apply below_drew1 | refine below_set ?_ GE193.out | refine below_set ?_ GE201.out) | exact HB.out)⟩
                          · rw [if_neg c52] at H
                            have c52b0 : (x4_2 == a0_1) = false := beq_eq_false_iff_ne.mpr c52
                            have c52b1 : (x4_2 != a0_1) = true := bne_iff_ne.mpr c52
                            have H' := Aside0.mk H
                            clear H
                            have hcz76_0 : wr.cell? ⟨gb193, 0, none⟩ = some (.string a0_0) := (blk_cell BK193.out 0).trans rfl
                            have hcz76_1 : wr.cell? ⟨gb193, 1, none⟩ = some (.int .i64 a0_1) := (blk_cell BK193.out 1).trans rfl
                            have hcz76_2 : wr.cell? ⟨gb193, 2, none⟩ = some (.int .i64 a0_2) := (blk_cell BK193.out 2).trans rfl
                            have hfz76_0 := blk_frozen BK193.out 0
                            have hfz76_1 := blk_frozen BK193.out 1
                            have hfz76_2 := blk_frozen BK193.out 2
                            go_wp2_with (first | ((with_reducible refine gate_callee (f := 17) rfl ?_); refine goesL_ (some 33) rfl rfl Try.func17 (by kernel_rfl) rfl #[.agg #[.string a0_0, .int .i64 a0_1, .int .i64 a0_2], .int .i64 x4_2] rfl (by (try simp only [List.map_toArray, List.map_cons, List.map_nil]); first | done | rfl | (simp only [List.length_drop, List.length_take]; rfl)) ?_; (with_reducible refine (pfair_Group.calls a0_0 a0_1 a0_2 x4_2 t196 _ A14.out).mono ?_); rintro e w77 ⟨rfl, hb⟩; refine ⟨_, rfl, ?_⟩; have n0_ := Aside0.mk (blk_below (g := gb193) (o := .cells #[.string a0_0, .int .i64 a0_1, .int .i64 a0_2] 23 (0, 0)) (by (with_reducible repeat (first | refine blk_drewN ?_ _ | refine blk_drew ?_ | refine blk_alloc ?_ _)); exact BK193.out) hb); have n1_ := Aside0.mk (below_step (by repeat (first | (with_reducible first | exact HB.out | apply below_alloc | apply pw_below_drewN | apply below_drew1 | refine below_set ?_ GE193.out) | exact HB.out)) hb); clear BK193; clear HB; have BK193 := n0_; have HB := n1_; clear n0_ n1_; (try clear hb); (try clear hb2); (try clear hk); (try clear hi); have hcz78_0 : w77.cell? ⟨gb193, 0, none⟩ = some (.string a0_0) := (blk_cell BK193.out 0).trans rfl; have hcz78_1 : w77.cell? ⟨gb193, 1, none⟩ = some (.int .i64 a0_1) := (blk_cell BK193.out 1).trans rfl; have hcz78_2 : w77.cell? ⟨gb193, 2, none⟩ = some (.int .i64 a0_2) := (blk_cell BK193.out 2).trans rfl; have hfz78_0 := blk_frozen BK193.out 0; have hfz78_1 := blk_frozen BK193.out 1; have hfz78_2 := blk_frozen BK193.out 2) | ((with_reducible refine gate_callee (f := 12) rfl ?_); refine goesL_ (some 37) rfl rfl Try.func12 (by kernel_rfl) rfl #[.agg #[.string a0_0, .int .i64 a0_1, .int .i64 a0_2], .int .i64 x4_2] rfl (by (try simp only [List.map_toArray, List.map_cons, List.map_nil]); first | done | rfl | (simp only [List.length_drop, List.length_take]; rfl)) ?_; (with_reducible refine (pfair_Window.calls k2 a0_0 a0_1 a0_2 x4_2 t197 t198 t199 t200 _ A15.out).mono ?_); rintro e w79 ⟨rfl, hb⟩; refine ⟨_, rfl, ?_⟩; have n0_ := Aside0.mk (blk_below (g := gb193) (o := .cells #[.string a0_0, .int .i64 a0_1, .int .i64 a0_2] 23 (0, 0)) (by (with_reducible repeat (first | refine blk_drewN ?_ _ | refine blk_drew ?_ | refine blk_alloc ?_ _)); exact BK193.out) hb); have n1_ := Aside0.mk (below_step (by repeat (first | (with_reducible first | exact HB.out | apply below_alloc | apply pw_below_drewN | apply below_drew1 | refine below_set ?_ GE193.out) | exact HB.out)) hb); clear BK193; clear HB; have BK193 := n0_; have HB := n1_; clear n0_ n1_; (try clear hb); (try clear hb2); (try clear hk); (try clear hi)) | ((with_reducible refine gate_dst (N := 6) rfl ?_); refine box_event ?hg (N := 6) ?hd (cs := #[.int .i64 0, .int .i64 0, .int .i64 0]) (t := 26) ?hr ?_; (case hd => rfl); (case hg => rfl); (case hr => first | (go_simp; done) | (go_simp; rfl)); intro gb201 hg w80 hbox hb; have n0_ := Aside0.mk (blk_below (g := gb193) (o := .cells #[.string a0_0, .int .i64 a0_1, .int .i64 a0_2] 23 (0, 0)) (by (with_reducible repeat (first | refine blk_drewN ?_ _ | refine blk_drew ?_ | refine blk_alloc ?_ _)); exact BK193.out) hb); have n1_ := Aside0.mk (below_step (by repeat (first | (with_reducible first | exact HB.out | apply below_alloc | apply pw_below_drewN | apply below_drew1 | refine below_set ?_ GE193.out) | exact HB.out)) hb); have n2_ := Aside0.mk (hbox); have n3_ := Aside0.mk ((by rw [hg]; exact (below_size (by repeat (first | (with_reducible first | exact HB.out | apply below_alloc | apply pw_below_drewN | apply below_drew1 | refine below_set ?_ GE193.out) | exact HB.out))) : w.heap.size ≤ gb201)); have n4_ := Aside0.mk ((by rw [hg]; exact (below_size (by repeat (first | (with_reducible first | exact HB.out | apply below_alloc | apply pw_below_drewN | apply below_drew1 | refine below_set ?_ GE193.out) | exact HB.out))) : w.heap.size ≤ gb201)); have n5_ := Aside0.mk ((by rw [hg]; exact Nat.ne_of_lt (blk_lt (g := gb193) (o := .cells #[.string a0_0, .int .i64 a0_1, .int .i64 a0_2] 23 (0, 0)) (by (with_reducible repeat (first | refine blk_drewN ?_ _ | refine blk_drew ?_ | refine blk_alloc ?_ _)); exact BK193.out)) : gb193 ≠ gb201)); have n6_ := Aside0.mk ((by rw [hg]; exact Nat.ne_of_gt (blk_lt (g := gb193) (o := .cells #[.string a0_0, .int .i64 a0_1, .int .i64 a0_2] 23 (0, 0)) (by (with_reducible repeat (first | refine blk_drewN ?_ _ | refine blk_drew ?_ | refine blk_alloc ?_ _)); exact BK193.out)) : gb201 ≠ gb193)); clear BK193; clear HB; have BK193 := n0_; have HB := n1_; have BK201 := n2_; have GW201 := n3_; have GE201 := n4_; have NB193_201 := n5_; have NB201_193 := n6_; clear n0_ n1_ n2_ n3_ n4_ n5_ n6_; clear hb hbox hg; have hnb81 := NB201_193.out; have hnc81 := NB193_201.out; have hcz82_0 : w80.cell? ⟨gb201, 0, none⟩ = some (.int .i64 0) := (blk_cell BK201.out 0).trans rfl; have hcz82_1 : w80.cell? ⟨gb201, 1, none⟩ = some (.int .i64 0) := (blk_cell BK201.out 1).trans rfl; have hcz82_2 : w80.cell? ⟨gb201, 2, none⟩ = some (.int .i64 0) := (blk_cell BK201.out 2).trans rfl; have hfz82_0 := blk_frozen BK201.out 0; have hfz82_1 := blk_frozen BK201.out 1; have hfz82_2 := blk_frozen BK201.out 2; have hcz83_0 : w80.cell? ⟨gb193, 0, none⟩ = some (.string a0_0) := (blk_cell BK193.out 0).trans rfl; have hcz83_1 : w80.cell? ⟨gb193, 1, none⟩ = some (.int .i64 a0_1) := (blk_cell BK193.out 1).trans rfl; have hcz83_2 : w80.cell? ⟨gb193, 2, none⟩ = some (.int .i64 a0_2) := (blk_cell BK193.out 2).trans rfl; have hfz83_0 := blk_frozen BK193.out 0; have hfz83_1 := blk_frozen BK193.out 1; have hfz83_2 := blk_frozen BK193.out 2) | ((with_reducible refine gate_callee (f := 14) rfl ?_); refine goesL_ (some 43) rfl rfl Try.func14 (by kernel_rfl) rfl #[.agg #[.string a0_0, .int .i64 a0_1, .int .i64 a0_2]] rfl (by (try simp only [List.map_toArray, List.map_cons, List.map_nil]); first | done | rfl | (simp only [List.length_drop, List.length_take]; rfl)) ?_; (with_reducible refine (pfair_Heavy.calls k2 a0_0 a0_1 a0_2 true _ A17.out).mono ?_); rintro e w84 ⟨rfl, hb⟩; refine ⟨_, rfl, ?_⟩; have n0_ := Aside0.mk (blk_below (g := gb193) (o := .cells #[.string a0_0, .int .i64 a0_1, .int .i64 a0_2] 23 (0, 0)) (by (with_reducible repeat (first | refine blk_drewN ?_ _ | refine blk_drew ?_ | refine blk_alloc ?_ _)); refine blk_far ?_ NB193_201.out _; (with_reducible repeat (first | refine blk_drewN ?_ _ | refine blk_drew ?_ | refine blk_alloc ?_ _)); refine blk_far ?_ NB193_201.out _; (with_reducible repeat (first | refine blk_drewN ?_ _ | refine blk_drew ?_ | refine blk_alloc ?_ _)); refine blk_far ?_ NB193_201.out _; (with_reducible repeat (first | refine blk_drewN ?_ _ | refine blk_drew ?_ | refine blk_alloc ?_ _)); exact BK193.out) hb); have n1_ := Aside0.mk (blk_below (g := gb201) (o := .cells #[.int .i64 t197, .int .i64 t198, .int .i64 t199] 26 (0, 0)) (by (with_reducible repeat (first | refine blk_drewN ?_ _ | refine blk_drew ?_ | refine blk_alloc ?_ _)); refine blk_put (cs := #[.int .i64 t197, .int .i64 t198, .int .i64 0]) ?_ 2 _ rfl; (with_reducible repeat (first | refine blk_drewN ?_ _ | refine blk_drew ?_ | refine blk_alloc ?_ _)); refine blk_put (cs := #[.int .i64 t197, .int .i64 0, .int .i64 0]) ?_ 1 _ rfl; (with_reducible repeat (first | refine blk_drewN ?_ _ | refine blk_drew ?_ | refine blk_alloc ?_ _)); refine blk_put (cs := #[.int .i64 0, .int .i64 0, .int .i64 0]) ?_ 0 _ rfl; (with_reducible repeat (first | refine blk_drewN ?_ _ | refine blk_drew ?_ | refine blk_alloc ?_ _)); exact BK201.out) hb); have n2_ := Aside0.mk (below_step (by repeat (first | (with_reducible first | exact HB.out | apply below_alloc | apply pw_below_drewN | apply below_drew1 | refine below_set ?_ GE193.out | refine below_set ?_ GE201.out) | exact HB.out)) hb); clear BK193; clear BK201; clear HB; have BK193 := n0_; have BK201 := n1_; have HB := n2_; clear n0_ n1_ n2_; (try clear hb); (try clear hb2); (try clear hk); (try clear hi); have hcz85_0 : w84.cell? ⟨gb201, 0, none⟩ = some (.int .i64 t197) := (blk_cell BK201.out 0).trans rfl; have hcz85_1 : w84.cell? ⟨gb201, 1, none⟩ = some (.int .i64 t198) := (blk_cell BK201.out 1).trans rfl; have hcz85_2 : w84.cell? ⟨gb201, 2, none⟩ = some (.int .i64 t199) := (blk_cell BK201.out 2).trans rfl; have hfz85_0 := blk_frozen BK201.out 0; have hfz85_1 := blk_frozen BK201.out 1; have hfz85_2 := blk_frozen BK201.out 2; have hcz86_0 : w84.cell? ⟨gb193, 0, none⟩ = some (.string a0_0) := (blk_cell BK193.out 0).trans rfl; have hcz86_1 : w84.cell? ⟨gb193, 1, none⟩ = some (.int .i64 a0_1) := (blk_cell BK193.out 1).trans rfl; have hcz86_2 : w84.cell? ⟨gb193, 2, none⟩ = some (.int .i64 a0_2) := (blk_cell BK193.out 2).trans rfl; have hfz86_0 := blk_frozen BK193.out 0; have hfz86_1 := blk_frozen BK193.out 1; have hfz86_2 := blk_frozen BK193.out 2))
                            go_roundg k2
                            case measure => have := HJ3.out; have := HK2.out; omega
                            case rel => exact ⟨(t196), (wrap64 (x4_2 + 1)), (by first | rfl | (simp; done) | (simp [*]; done)), (by first | rfl | (simp; done) | (simp [*]; done)), H', ⟨by have := HJ3.out; have := HK2.out; omega⟩, ⟨by (with_reducible repeat (first | refine blk_drewN ?_ _ | refine blk_drew ?_ | refine blk_alloc ?_ _)); exact BK193.out⟩, ⟨by repeat (first | (with_reducible first | exact HB.out | apply below_alloc | apply pw_below_drewN | apply below_drew1 | refine below_set ?_ GE193.out | refine below_set ?_ GE201.out) | exact HB.out)⟩⟩
                  · replace c18 := Bool.eq_false_iff.mpr c18
                    subst c18
                    have H1 : (if t196 = 0 then (ontimelaw45_PfairGroups.l0 k2 x3_2 (wrap64 (x4_2 + 1)) a0_0 a0_1 a0_2) else (some false)) = some r := by rw [if_neg (show ¬ (false = true) by decide)] at H; exact H
                    clear H
                    have H := H1
                    clear H1
                    by_cases c87 : t196 = 0
                    · rw [if_pos c87] at H
                      have c87b0 : (t196 == 0) = true := beq_iff_eq.mpr c87
                      have c87b1 : (t196 != 0) = false := bne_eq_false_iff_eq.mpr c87
                      clear c87
                      have H' := Aside0.mk H
                      clear H
                      have hcz88_0 : wr.cell? ⟨gb193, 0, none⟩ = some (.string a0_0) := (blk_cell BK193.out 0).trans rfl
                      have hcz88_1 : wr.cell? ⟨gb193, 1, none⟩ = some (.int .i64 a0_1) := (blk_cell BK193.out 1).trans rfl
                      have hcz88_2 : wr.cell? ⟨gb193, 2, none⟩ = some (.int .i64 a0_2) := (blk_cell BK193.out 2).trans rfl
                      have hfz88_0 := blk_frozen BK193.out 0
                      have hfz88_1 := blk_frozen BK193.out 1
                      have hfz88_2 := blk_frozen BK193.out 2
                      go_wp2_with (first | ((with_reducible refine gate_callee (f := 17) rfl ?_); refine goesL_ (some 33) rfl rfl Try.func17 (by kernel_rfl) rfl #[.agg #[.string a0_0, .int .i64 a0_1, .int .i64 a0_2], .int .i64 x4_2] rfl (by (try simp only [List.map_toArray, List.map_cons, List.map_nil]); first | done | rfl | (simp only [List.length_drop, List.length_take]; rfl)) ?_; (with_reducible refine (pfair_Group.calls a0_0 a0_1 a0_2 x4_2 t196 _ A14.out).mono ?_); rintro e w89 ⟨rfl, hb⟩; refine ⟨_, rfl, ?_⟩; have n0_ := Aside0.mk (blk_below (g := gb193) (o := .cells #[.string a0_0, .int .i64 a0_1, .int .i64 a0_2] 23 (0, 0)) (by (with_reducible repeat (first | refine blk_drewN ?_ _ | refine blk_drew ?_ | refine blk_alloc ?_ _)); exact BK193.out) hb); have n1_ := Aside0.mk (below_step (by repeat (first | (with_reducible first | exact HB.out | apply below_alloc | apply pw_below_drewN | apply below_drew1 | refine below_set ?_ GE193.out) | exact HB.out)) hb); clear BK193; clear HB; have BK193 := n0_; have HB := n1_; clear n0_ n1_; (try clear hb); (try clear hb2); (try clear hk); (try clear hi); have hcz90_0 : w89.cell? ⟨gb193, 0, none⟩ = some (.string a0_0) := (blk_cell BK193.out 0).trans rfl; have hcz90_1 : w89.cell? ⟨gb193, 1, none⟩ = some (.int .i64 a0_1) := (blk_cell BK193.out 1).trans rfl; have hcz90_2 : w89.cell? ⟨gb193, 2, none⟩ = some (.int .i64 a0_2) := (blk_cell BK193.out 2).trans rfl; have hfz90_0 := blk_frozen BK193.out 0; have hfz90_1 := blk_frozen BK193.out 1; have hfz90_2 := blk_frozen BK193.out 2) | ((with_reducible refine gate_callee (f := 12) rfl ?_); refine goesL_ (some 37) rfl rfl Try.func12 (by kernel_rfl) rfl #[.agg #[.string a0_0, .int .i64 a0_1, .int .i64 a0_2], .int .i64 x4_2] rfl (by (try simp only [List.map_toArray, List.map_cons, List.map_nil]); first | done | rfl | (simp only [List.length_drop, List.length_take]; rfl)) ?_; (with_reducible refine (pfair_Window.calls k2 a0_0 a0_1 a0_2 x4_2 t197 t198 t199 t200 _ A15.out).mono ?_); rintro e w91 ⟨rfl, hb⟩; refine ⟨_, rfl, ?_⟩; have n0_ := Aside0.mk (blk_below (g := gb193) (o := .cells #[.string a0_0, .int .i64 a0_1, .int .i64 a0_2] 23 (0, 0)) (by (with_reducible repeat (first | refine blk_drewN ?_ _ | refine blk_drew ?_ | refine blk_alloc ?_ _)); exact BK193.out) hb); have n1_ := Aside0.mk (below_step (by repeat (first | (with_reducible first | exact HB.out | apply below_alloc | apply pw_below_drewN | apply below_drew1 | refine below_set ?_ GE193.out) | exact HB.out)) hb); clear BK193; clear HB; have BK193 := n0_; have HB := n1_; clear n0_ n1_; (try clear hb); (try clear hb2); (try clear hk); (try clear hi)) | ((with_reducible refine gate_dst (N := 6) rfl ?_); refine box_event ?hg (N := 6) ?hd (cs := #[.int .i64 0, .int .i64 0, .int .i64 0]) (t := 26) ?hr ?_; (case hd => rfl); (case hg => rfl); (case hr => first | (go_simp; done) | (go_simp; rfl)); intro gb201 hg w92 hbox hb; have n0_ := Aside0.mk (blk_below (g := gb193) (o := .cells #[.string a0_0, .int .i64 a0_1, .int .i64 a0_2] 23 (0, 0)) (by (with_reducible repeat (first | refine blk_drewN ?_ _ | refine blk_drew ?_ | refine blk_alloc ?_ _)); exact BK193.out) hb); have n1_ := Aside0.mk (below_step (by repeat (first | (with_reducible first | exact HB.out | apply below_alloc | apply pw_below_drewN | apply below_drew1 | refine below_set ?_ GE193.out) | exact HB.out)) hb); have n2_ := Aside0.mk (hbox); have n3_ := Aside0.mk ((by rw [hg]; exact (below_size (by repeat (first | (with_reducible first | exact HB.out | apply below_alloc | apply pw_below_drewN | apply below_drew1 | refine below_set ?_ GE193.out) | exact HB.out))) : w.heap.size ≤ gb201)); have n4_ := Aside0.mk ((by rw [hg]; exact (below_size (by repeat (first | (with_reducible first | exact HB.out | apply below_alloc | apply pw_below_drewN | apply below_drew1 | refine below_set ?_ GE193.out) | exact HB.out))) : w.heap.size ≤ gb201)); have n5_ := Aside0.mk ((by rw [hg]; exact Nat.ne_of_lt (blk_lt (g := gb193) (o := .cells #[.string a0_0, .int .i64 a0_1, .int .i64 a0_2] 23 (0, 0)) (by (with_reducible repeat (first | refine blk_drewN ?_ _ | refine blk_drew ?_ | refine blk_alloc ?_ _)); exact BK193.out)) : gb193 ≠ gb201)); have n6_ := Aside0.mk ((by rw [hg]; exact Nat.ne_of_gt (blk_lt (g := gb193) (o := .cells #[.string a0_0, .int .i64 a0_1, .int .i64 a0_2] 23 (0, 0)) (by (with_reducible repeat (first | refine blk_drewN ?_ _ | refine blk_drew ?_ | refine blk_alloc ?_ _)); exact BK193.out)) : gb201 ≠ gb193)); clear BK193; clear HB; have BK193 := n0_; have HB := n1_; have BK201 := n2_; have GW201 := n3_; have GE201 := n4_; have NB193_201 := n5_; have NB201_193 := n6_; clear n0_ n1_ n2_ n3_ n4_ n5_ n6_; clear hb hbox hg; have hnb93 := NB201_193.out; have hnc93 := NB193_201.out; have hcz94_0 : w92.cell? ⟨gb201, 0, none⟩ = some (.int .i64 0) := (blk_cell BK201.out 0).trans rfl; have hcz94_1 : w92.cell? ⟨gb201, 1, none⟩ = some (.int .i64 0) := (blk_cell BK201.out 1).trans rfl; have hcz94_2 : w92.cell? ⟨gb201, 2, none⟩ = some (.int .i64 0) := (blk_cell BK201.out 2).trans rfl; have hfz94_0 := blk_frozen BK201.out 0; have hfz94_1 := blk_frozen BK201.out 1; have hfz94_2 := blk_frozen BK201.out 2; have hcz95_0 : w92.cell? ⟨gb193, 0, none⟩ = some (.string a0_0) := (blk_cell BK193.out 0).trans rfl; have hcz95_1 : w92.cell? ⟨gb193, 1, none⟩ = some (.int .i64 a0_1) := (blk_cell BK193.out 1).trans rfl; have hcz95_2 : w92.cell? ⟨gb193, 2, none⟩ = some (.int .i64 a0_2) := (blk_cell BK193.out 2).trans rfl; have hfz95_0 := blk_frozen BK193.out 0; have hfz95_1 := blk_frozen BK193.out 1; have hfz95_2 := blk_frozen BK193.out 2) | ((with_reducible refine gate_callee (f := 14) rfl ?_); refine goesL_ (some 43) rfl rfl Try.func14 (by kernel_rfl) rfl #[.agg #[.string a0_0, .int .i64 a0_1, .int .i64 a0_2]] rfl (by (try simp only [List.map_toArray, List.map_cons, List.map_nil]); first | done | rfl | (simp only [List.length_drop, List.length_take]; rfl)) ?_; (with_reducible refine (pfair_Heavy.calls k2 a0_0 a0_1 a0_2 false _ A17.out).mono ?_); rintro e w96 ⟨rfl, hb⟩; refine ⟨_, rfl, ?_⟩; have n0_ := Aside0.mk (blk_below (g := gb193) (o := .cells #[.string a0_0, .int .i64 a0_1, .int .i64 a0_2] 23 (0, 0)) (by (with_reducible repeat (first | refine blk_drewN ?_ _ | refine blk_drew ?_ | refine blk_alloc ?_ _)); refine blk_far ?_ NB193_201.out _; (with_reducible repeat (first | refine blk_drewN ?_ _ | refine blk_drew ?_ | refine blk_alloc ?_ _)); refine blk_far ?_ NB193_201.out _; (with_reducible repeat (first | refine blk_drewN ?_ _ | refine blk_drew ?_ | refine blk_alloc ?_ _)); refine blk_far ?_ NB193_201.out _; (with_reducible repeat (first | refine blk_drewN ?_ _ | refine blk_drew ?_ | refine blk_alloc ?_ _)); exact BK193.out) hb); have n1_ := Aside0.mk (blk_below (g := gb201) (o := .cells #[.int .i64 t197, .int .i64 t198, .int .i64 t199] 26 (0, 0)) (by (with_reducible repeat (first | refine blk_drewN ?_ _ | refine blk_drew ?_ | refine blk_alloc ?_ _)); refine blk_put (cs := #[.int .i64 t197, .int .i64 t198, .int .i64 0]) ?_ 2 _ rfl; (with_reducible repeat (first | refine blk_drewN ?_ _ | refine blk_drew ?_ | refine blk_alloc ?_ _)); refine blk_put (cs := #[.int .i64 t197, .int .i64 0, .int .i64 0]) ?_ 1 _ rfl; (with_reducible repeat (first | refine blk_drewN ?_ _ | refine blk_drew ?_ | refine blk_alloc ?_ _)); refine blk_put (cs := #[.int .i64 0, .int .i64 0, .int .i64 0]) ?_ 0 _ rfl; (with_reducible repeat (first | refine blk_drewN ?_ _ | refine blk_drew ?_ | refine blk_alloc ?_ _)); exact BK201.out) hb); have n2_ := Aside0.mk (below_step (by repeat (first | (with_reducible first | exact HB.out | apply below_alloc | apply pw_below_drewN | apply below_drew1 | refine below_set ?_ GE193.out | refine below_set ?_ GE201.out) | exact HB.out)) hb); clear BK193; clear BK201; clear HB; have BK193 := n0_; have BK201 := n1_; have HB := n2_; clear n0_ n1_ n2_; (try clear hb); (try clear hb2); (try clear hk); (try clear hi)))
                      go_roundg k2
                      case measure => have := HJ3.out; have := HK2.out; omega
                      case rel => exact ⟨(x3_2), (wrap64 (x4_2 + 1)), (by first | rfl | (simp; done) | (simp [*]; done)), (by first | rfl | (simp; done) | (simp [*]; done)), H', ⟨by have := HJ3.out; have := HK2.out; omega⟩, ⟨by (with_reducible repeat (first | refine blk_drewN ?_ _ | refine blk_drew ?_ | refine blk_alloc ?_ _)); exact BK193.out⟩, ⟨by repeat (first | (with_reducible first | exact HB.out | apply below_alloc | apply pw_below_drewN | apply below_drew1 | refine below_set ?_ GE193.out | refine below_set ?_ GE201.out) | exact HB.out)⟩⟩
                    · rw [if_neg c87] at H
                      have c87b0 : (t196 == 0) = false := beq_eq_false_iff_ne.mpr c87
                      have c87b1 : (t196 != 0) = true := bne_iff_ne.mpr c87
                      obtain rfl := Option.some.inj H
                      have hcz97_0 : wr.cell? ⟨gb193, 0, none⟩ = some (.string a0_0) := (blk_cell BK193.out 0).trans rfl
                      have hcz97_1 : wr.cell? ⟨gb193, 1, none⟩ = some (.int .i64 a0_1) := (blk_cell BK193.out 1).trans rfl
                      have hcz97_2 : wr.cell? ⟨gb193, 2, none⟩ = some (.int .i64 a0_2) := (blk_cell BK193.out 2).trans rfl
                      have hfz97_0 := blk_frozen BK193.out 0
                      have hfz97_1 := blk_frozen BK193.out 1
                      have hfz97_2 := blk_frozen BK193.out 2
                      go_wp2_with (first | ((with_reducible refine gate_callee (f := 17) rfl ?_); refine goesL_ (some 33) rfl rfl Try.func17 (by kernel_rfl) rfl #[.agg #[.string a0_0, .int .i64 a0_1, .int .i64 a0_2], .int .i64 x4_2] rfl (by (try simp only [List.map_toArray, List.map_cons, List.map_nil]); first | done | rfl | (simp only [List.length_drop, List.length_take]; rfl)) ?_; (with_reducible refine (pfair_Group.calls a0_0 a0_1 a0_2 x4_2 t196 _ A14.out).mono ?_); rintro e w98 ⟨rfl, hb⟩; refine ⟨_, rfl, ?_⟩; have n0_ := Aside0.mk (blk_below (g := gb193) (o := .cells #[.string a0_0, .int .i64 a0_1, .int .i64 a0_2] 23 (0, 0)) (by (with_reducible repeat (first | refine blk_drewN ?_ _ | refine blk_drew ?_ | refine blk_alloc ?_ _)); exact BK193.out) hb); have n1_ := Aside0.mk (below_step (by repeat (first | (with_reducible first | exact HB.out | apply below_alloc | apply pw_below_drewN | apply below_drew1 | refine below_set ?_ GE193.out) | exact HB.out)) hb); clear BK193; clear HB; have BK193 := n0_; have HB := n1_; clear n0_ n1_; (try clear hb); (try clear hb2); (try clear hk); (try clear hi); have hcz99_0 : w98.cell? ⟨gb193, 0, none⟩ = some (.string a0_0) := (blk_cell BK193.out 0).trans rfl; have hcz99_1 : w98.cell? ⟨gb193, 1, none⟩ = some (.int .i64 a0_1) := (blk_cell BK193.out 1).trans rfl; have hcz99_2 : w98.cell? ⟨gb193, 2, none⟩ = some (.int .i64 a0_2) := (blk_cell BK193.out 2).trans rfl; have hfz99_0 := blk_frozen BK193.out 0; have hfz99_1 := blk_frozen BK193.out 1; have hfz99_2 := blk_frozen BK193.out 2) | ((with_reducible refine gate_callee (f := 12) rfl ?_); refine goesL_ (some 37) rfl rfl Try.func12 (by kernel_rfl) rfl #[.agg #[.string a0_0, .int .i64 a0_1, .int .i64 a0_2], .int .i64 x4_2] rfl (by (try simp only [List.map_toArray, List.map_cons, List.map_nil]); first | done | rfl | (simp only [List.length_drop, List.length_take]; rfl)) ?_; (with_reducible refine (pfair_Window.calls k2 a0_0 a0_1 a0_2 x4_2 t197 t198 t199 t200 _ A15.out).mono ?_); rintro e w100 ⟨rfl, hb⟩; refine ⟨_, rfl, ?_⟩; have n0_ := Aside0.mk (blk_below (g := gb193) (o := .cells #[.string a0_0, .int .i64 a0_1, .int .i64 a0_2] 23 (0, 0)) (by (with_reducible repeat (first | refine blk_drewN ?_ _ | refine blk_drew ?_ | refine blk_alloc ?_ _)); exact BK193.out) hb); have n1_ := Aside0.mk (below_step (by repeat (first | (with_reducible first | exact HB.out | apply below_alloc | apply pw_below_drewN | apply below_drew1 | refine below_set ?_ GE193.out) | exact HB.out)) hb); clear BK193; clear HB; have BK193 := n0_; have HB := n1_; clear n0_ n1_; (try clear hb); (try clear hb2); (try clear hk); (try clear hi)) | ((with_reducible refine gate_dst (N := 6) rfl ?_); refine box_event ?hg (N := 6) ?hd (cs := #[.int .i64 0, .int .i64 0, .int .i64 0]) (t := 26) ?hr ?_; (case hd => rfl); (case hg => rfl); (case hr => first | (go_simp; done) | (go_simp; rfl)); intro gb201 hg w101 hbox hb; have n0_ := Aside0.mk (blk_below (g := gb193) (o := .cells #[.string a0_0, .int .i64 a0_1, .int .i64 a0_2] 23 (0, 0)) (by (with_reducible repeat (first | refine blk_drewN ?_ _ | refine blk_drew ?_ | refine blk_alloc ?_ _)); exact BK193.out) hb); have n1_ := Aside0.mk (below_step (by repeat (first | (with_reducible first | exact HB.out | apply below_alloc | apply pw_below_drewN | apply below_drew1 | refine below_set ?_ GE193.out) | exact HB.out)) hb); have n2_ := Aside0.mk (hbox); have n3_ := Aside0.mk ((by rw [hg]; exact (below_size (by repeat (first | (with_reducible first | exact HB.out | apply below_alloc | apply pw_below_drewN | apply below_drew1 | refine below_set ?_ GE193.out) | exact HB.out))) : w.heap.size ≤ gb201)); have n4_ := Aside0.mk ((by rw [hg]; exact (below_size (by repeat (first | (with_reducible first | exact HB.out | apply below_alloc | apply pw_below_drewN | apply below_drew1 | refine below_set ?_ GE193.out) | exact HB.out))) : w.heap.size ≤ gb201)); have n5_ := Aside0.mk ((by rw [hg]; exact Nat.ne_of_lt (blk_lt (g := gb193) (o := .cells #[.string a0_0, .int .i64 a0_1, .int .i64 a0_2] 23 (0, 0)) (by (with_reducible repeat (first | refine blk_drewN ?_ _ | refine blk_drew ?_ | refine blk_alloc ?_ _)); exact BK193.out)) : gb193 ≠ gb201)); have n6_ := Aside0.mk ((by rw [hg]; exact Nat.ne_of_gt (blk_lt (g := gb193) (o := .cells #[.string a0_0, .int .i64 a0_1, .int .i64 a0_2] 23 (0, 0)) (by (with_reducible repeat (first | refine blk_drewN ?_ _ | refine blk_drew ?_ | refine blk_alloc ?_ _)); exact BK193.out)) : gb201 ≠ gb193)); clear BK193; clear HB; have BK193 := n0_; have HB := n1_; have BK201 := n2_; have GW201 := n3_; have GE201 := n4_; have NB193_201 := n5_; have NB201_193 := n6_; clear n0_ n1_ n2_ n3_ n4_ n5_ n6_; clear hb hbox hg; have hnb102 := NB201_193.out; have hnc102 := NB193_201.out; have hcz103_0 : w101.cell? ⟨gb201, 0, none⟩ = some (.int .i64 0) := (blk_cell BK201.out 0).trans rfl; have hcz103_1 : w101.cell? ⟨gb201, 1, none⟩ = some (.int .i64 0) := (blk_cell BK201.out 1).trans rfl; have hcz103_2 : w101.cell? ⟨gb201, 2, none⟩ = some (.int .i64 0) := (blk_cell BK201.out 2).trans rfl; have hfz103_0 := blk_frozen BK201.out 0; have hfz103_1 := blk_frozen BK201.out 1; have hfz103_2 := blk_frozen BK201.out 2; have hcz104_0 : w101.cell? ⟨gb193, 0, none⟩ = some (.string a0_0) := (blk_cell BK193.out 0).trans rfl; have hcz104_1 : w101.cell? ⟨gb193, 1, none⟩ = some (.int .i64 a0_1) := (blk_cell BK193.out 1).trans rfl; have hcz104_2 : w101.cell? ⟨gb193, 2, none⟩ = some (.int .i64 a0_2) := (blk_cell BK193.out 2).trans rfl; have hfz104_0 := blk_frozen BK193.out 0; have hfz104_1 := blk_frozen BK193.out 1; have hfz104_2 := blk_frozen BK193.out 2) | ((with_reducible refine gate_callee (f := 14) rfl ?_); refine goesL_ (some 43) rfl rfl Try.func14 (by kernel_rfl) rfl #[.agg #[.string a0_0, .int .i64 a0_1, .int .i64 a0_2]] rfl (by (try simp only [List.map_toArray, List.map_cons, List.map_nil]); first | done | rfl | (simp only [List.length_drop, List.length_take]; rfl)) ?_; (with_reducible refine (pfair_Heavy.calls k2 a0_0 a0_1 a0_2 false _ A17.out).mono ?_); rintro e w105 ⟨rfl, hb⟩; refine ⟨_, rfl, ?_⟩; have n0_ := Aside0.mk (blk_below (g := gb193) (o := .cells #[.string a0_0, .int .i64 a0_1, .int .i64 a0_2] 23 (0, 0)) (by (with_reducible repeat (first | refine blk_drewN ?_ _ | refine blk_drew ?_ | refine blk_alloc ?_ _)); refine blk_far ?_ NB193_201.out _; (with_reducible repeat (first | refine blk_drewN ?_ _ | refine blk_drew ?_ | refine blk_alloc ?_ _)); refine blk_far ?_ NB193_201.out _; (with_reducible repeat (first | refine blk_drewN ?_ _ | refine blk_drew ?_ | refine blk_alloc ?_ _)); refine blk_far ?_ NB193_201.out _; (with_reducible repeat (first | refine blk_drewN ?_ _ | refine blk_drew ?_ | refine blk_alloc ?_ _)); exact BK193.out) hb); have n1_ := Aside0.mk (blk_below (g := gb201) (o := .cells #[.int .i64 t197, .int .i64 t198, .int .i64 t199] 26 (0, 0)) (by (with_reducible repeat (first | refine blk_drewN ?_ _ | refine blk_drew ?_ | refine blk_alloc ?_ _)); refine blk_put (cs := #[.int .i64 t197, .int .i64 t198, .int .i64 0]) ?_ 2 _ rfl; (with_reducible repeat (first | refine blk_drewN ?_ _ | refine blk_drew ?_ | refine blk_alloc ?_ _)); refine blk_put (cs := #[.int .i64 t197, .int .i64 0, .int .i64 0]) ?_ 1 _ rfl; (with_reducible repeat (first | refine blk_drewN ?_ _ | refine blk_drew ?_ | refine blk_alloc ?_ _)); refine blk_put (cs := #[.int .i64 0, .int .i64 0, .int .i64 0]) ?_ 0 _ rfl; (with_reducible repeat (first | refine blk_drewN ?_ _ | refine blk_drew ?_ | refine blk_alloc ?_ _)); exact BK201.out) hb); have n2_ := Aside0.mk (below_step (by repeat (first | (with_reducible first | exact HB.out | apply below_alloc | apply pw_below_drewN | apply below_drew1 | refine below_set ?_ GE193.out | refine below_set ?_ GE201.out) | exact HB.out)) hb); clear BK193; clear BK201; clear HB; have BK193 := n0_; have BK201 := n1_; have HB := n2_; clear n0_ n1_ n2_; (try clear hb); (try clear hb2); (try clear hk); (try clear hi)))
                      go_ret
                      exact ⟨by first | rfl | (simp [errW_none, errW_some] <;> rfl) | (simp [*, errW_none, errW_some] <;> rfl), by repeat (first | (with_reducible first | exact HB.out | apply below_alloc | apply pw_below_drewN | apply below_drew1 | refine below_set ?_ GE193.out | refine below_set ?_ GE201.out) | exact HB.out)⟩
                · rw [if_neg c16] at H
                  have c16b0 : (t200 == 0) = false := beq_eq_false_iff_ne.mpr c16
                  have c16b1 : (t200 != 0) = true := bne_iff_ne.mpr c16
                  obtain rfl := Option.some.inj H
                  have hcz106_0 : wr.cell? ⟨gb193, 0, none⟩ = some (.string a0_0) := (blk_cell BK193.out 0).trans rfl
                  have hcz106_1 : wr.cell? ⟨gb193, 1, none⟩ = some (.int .i64 a0_1) := (blk_cell BK193.out 1).trans rfl
                  have hcz106_2 : wr.cell? ⟨gb193, 2, none⟩ = some (.int .i64 a0_2) := (blk_cell BK193.out 2).trans rfl
                  have hfz106_0 := blk_frozen BK193.out 0
                  have hfz106_1 := blk_frozen BK193.out 1
                  have hfz106_2 := blk_frozen BK193.out 2
                  go_wp2_with (first | ((with_reducible refine gate_callee (f := 17) rfl ?_); refine goesL_ (some 33) rfl rfl Try.func17 (by kernel_rfl) rfl #[.agg #[.string a0_0, .int .i64 a0_1, .int .i64 a0_2], .int .i64 x4_2] rfl (by (try simp only [List.map_toArray, List.map_cons, List.map_nil]); first | done | rfl | (simp only [List.length_drop, List.length_take]; rfl)) ?_; (with_reducible refine (pfair_Group.calls a0_0 a0_1 a0_2 x4_2 t196 _ A14.out).mono ?_); rintro e w107 ⟨rfl, hb⟩; refine ⟨_, rfl, ?_⟩; have n0_ := Aside0.mk (blk_below (g := gb193) (o := .cells #[.string a0_0, .int .i64 a0_1, .int .i64 a0_2] 23 (0, 0)) (by (with_reducible repeat (first | refine blk_drewN ?_ _ | refine blk_drew ?_ | refine blk_alloc ?_ _)); exact BK193.out) hb); have n1_ := Aside0.mk (below_step (by repeat (first | (with_reducible first | exact HB.out | apply below_alloc | apply pw_below_drewN | apply below_drew1 | refine below_set ?_ GE193.out) | exact HB.out)) hb); clear BK193; clear HB; have BK193 := n0_; have HB := n1_; clear n0_ n1_; (try clear hb); (try clear hb2); (try clear hk); (try clear hi); have hcz108_0 : w107.cell? ⟨gb193, 0, none⟩ = some (.string a0_0) := (blk_cell BK193.out 0).trans rfl; have hcz108_1 : w107.cell? ⟨gb193, 1, none⟩ = some (.int .i64 a0_1) := (blk_cell BK193.out 1).trans rfl; have hcz108_2 : w107.cell? ⟨gb193, 2, none⟩ = some (.int .i64 a0_2) := (blk_cell BK193.out 2).trans rfl; have hfz108_0 := blk_frozen BK193.out 0; have hfz108_1 := blk_frozen BK193.out 1; have hfz108_2 := blk_frozen BK193.out 2) | ((with_reducible refine gate_callee (f := 12) rfl ?_); refine goesL_ (some 37) rfl rfl Try.func12 (by kernel_rfl) rfl #[.agg #[.string a0_0, .int .i64 a0_1, .int .i64 a0_2], .int .i64 x4_2] rfl (by (try simp only [List.map_toArray, List.map_cons, List.map_nil]); first | done | rfl | (simp only [List.length_drop, List.length_take]; rfl)) ?_; (with_reducible refine (pfair_Window.calls k2 a0_0 a0_1 a0_2 x4_2 t197 t198 t199 t200 _ A15.out).mono ?_); rintro e w109 ⟨rfl, hb⟩; refine ⟨_, rfl, ?_⟩; have n0_ := Aside0.mk (blk_below (g := gb193) (o := .cells #[.string a0_0, .int .i64 a0_1, .int .i64 a0_2] 23 (0, 0)) (by (with_reducible repeat (first | refine blk_drewN ?_ _ | refine blk_drew ?_ | refine blk_alloc ?_ _)); exact BK193.out) hb); have n1_ := Aside0.mk (below_step (by repeat (first | (with_reducible first | exact HB.out | apply below_alloc | apply pw_below_drewN | apply below_drew1 | refine below_set ?_ GE193.out) | exact HB.out)) hb); clear BK193; clear HB; have BK193 := n0_; have HB := n1_; clear n0_ n1_; (try clear hb); (try clear hb2); (try clear hk); (try clear hi)) | ((with_reducible refine gate_dst (N := 6) rfl ?_); refine box_event ?hg (N := 6) ?hd (cs := #[.int .i64 0, .int .i64 0, .int .i64 0]) (t := 26) ?hr ?_; (case hd => rfl); (case hg => rfl); (case hr => first | (go_simp; done) | (go_simp; rfl)); intro gb201 hg w110 hbox hb; have n0_ := Aside0.mk (blk_below (g := gb193) (o := .cells #[.string a0_0, .int .i64 a0_1, .int .i64 a0_2] 23 (0, 0)) (by (with_reducible repeat (first | refine blk_drewN ?_ _ | refine blk_drew ?_ | refine blk_alloc ?_ _)); exact BK193.out) hb); have n1_ := Aside0.mk (below_step (by repeat (first | (with_reducible first | exact HB.out | apply below_alloc | apply pw_below_drewN | apply below_drew1 | refine below_set ?_ GE193.out) | exact HB.out)) hb); have n2_ := Aside0.mk (hbox); have n3_ := Aside0.mk ((by rw [hg]; exact (below_size (by repeat (first | (with_reducible first | exact HB.out | apply below_alloc | apply pw_below_drewN | apply below_drew1 | refine below_set ?_ GE193.out) | exact HB.out))) : w.heap.size ≤ gb201)); have n4_ := Aside0.mk ((by rw [hg]; exact (below_size (by repeat (first | (with_reducible first | exact HB.out | apply below_alloc | apply pw_below_drewN | apply below_drew1 | refine below_set ?_ GE193.out) | exact HB.out))) : w.heap.size ≤ gb201)); have n5_ := Aside0.mk ((by rw [hg]; exact Nat.ne_of_lt (blk_lt (g := gb193) (o := .cells #[.string a0_0, .int .i64 a0_1, .int .i64 a0_2] 23 (0, 0)) (by (with_reducible repeat (first | refine blk_drewN ?_ _ | refine blk_drew ?_ | refine blk_alloc ?_ _)); exact BK193.out)) : gb193 ≠ gb201)); have n6_ := Aside0.mk ((by rw [hg]; exact Nat.ne_of_gt (blk_lt (g := gb193) (o := .cells #[.string a0_0, .int .i64 a0_1, .int .i64 a0_2] 23 (0, 0)) (by (with_reducible repeat (first | refine blk_drewN ?_ _ | refine blk_drew ?_ | refine blk_alloc ?_ _)); exact BK193.out)) : gb201 ≠ gb193)); clear BK193; clear HB; have BK193 := n0_; have HB := n1_; have BK201 := n2_; have GW201 := n3_; have GE201 := n4_; have NB193_201 := n5_; have NB201_193 := n6_; clear n0_ n1_ n2_ n3_ n4_ n5_ n6_; clear hb hbox hg; have hnb111 := NB201_193.out; have hnc111 := NB193_201.out; have hcz112_0 : w110.cell? ⟨gb201, 0, none⟩ = some (.int .i64 0) := (blk_cell BK201.out 0).trans rfl; have hcz112_1 : w110.cell? ⟨gb201, 1, none⟩ = some (.int .i64 0) := (blk_cell BK201.out 1).trans rfl; have hcz112_2 : w110.cell? ⟨gb201, 2, none⟩ = some (.int .i64 0) := (blk_cell BK201.out 2).trans rfl; have hfz112_0 := blk_frozen BK201.out 0; have hfz112_1 := blk_frozen BK201.out 1; have hfz112_2 := blk_frozen BK201.out 2))
                  go_ret
                  exact ⟨by first | rfl | (simp [errW_none, errW_some] <;> rfl) | (simp [*, errW_none, errW_some] <;> rfl), by repeat (first | (with_reducible first | exact HB.out | apply below_alloc | apply pw_below_drewN | apply below_drew1 | refine below_set ?_ GE193.out | refine below_set ?_ GE201.out) | exact HB.out)⟩
              · rw [if_neg c13] at H
                have c13b0 : decide (x4_2 ≤ a0_1) = false := decide_eq_false c13
                clear c13
                replace H := Option.bind_eq_some_iff.mp H
                obtain ⟨t195, A1130, H⟩ := H
                replace H : (if a0_1 < a0_2 then (some (t195 == (decide ((wrap64 (2 * a0_1)) ≥ a0_2)))) else (some (t195 == false))) = some r := H
                have A113 := Aside0.mk A1130
                clear A1130
                by_cases c114 : a0_1 < a0_2
                · rw [if_pos c114] at H
                  have c114b0 : decide (a0_1 < a0_2) = true := decide_eq_true c114
                  clear c114
                  obtain rfl := Option.some.inj H
                  have hcz115_0 : wr.cell? ⟨gb193, 0, none⟩ = some (.string a0_0) := (blk_cell BK193.out 0).trans rfl
                  have hcz115_1 : wr.cell? ⟨gb193, 1, none⟩ = some (.int .i64 a0_1) := (blk_cell BK193.out 1).trans rfl
                  have hcz115_2 : wr.cell? ⟨gb193, 2, none⟩ = some (.int .i64 a0_2) := (blk_cell BK193.out 2).trans rfl
                  have hfz115_0 := blk_frozen BK193.out 0
                  have hfz115_1 := blk_frozen BK193.out 1
                  have hfz115_2 := blk_frozen BK193.out 2
                  try go_wp2
                  have n0_ := Aside0.mk (blk_drew BK193.out)
                  have n1_ := Aside0.mk (below_drew1 HB.out)
                  clear BK193
                  clear HB
                  have BK193 := n0_
                  have HB := n1_
                  clear n0_ n1_
                  refine start_ (n := 17) (S := fun w' => w'.cell? ⟨gb193, 0, none⟩ = some (.string a0_0) ∧ w'.cell? ⟨gb193, 1, none⟩ = some (.int .i64 a0_1) ∧ w'.cell? ⟨gb193, 2, none⟩ = some (.int .i64 a0_2)) (ds := []) #[false, false, false, false, false, false, false, false, false, false, false, false, false, false, false, false, false] (by kernel_rfl) rfl rfl ⟨(blk_cell BK193.out 0).trans rfl, (blk_cell BK193.out 1).trans rfl, (blk_cell BK193.out 2).trans rfl⟩ (fun hHeld => ?_); refine with_tabW ontimelaw45_PfairGroups.tab19 ontimelaw45_PfairGroups.bits19 (fun HT_ HW_ => ?_)
                  generalize wr.drew = w116 at BK193 HB hHeld ⊢
                  refine pure_ (i := 2) (N := some 77) (v := ?_) (a' := ?_) #[false, false, true, false, false, false, false, false, false, false, false, false, false, false, false, false, false] rfl rfl (any_of HT_.out (by kernel_rfl)) (fun _ _ _ h => h) (Or.inl ⟨by rfl, ?_⟩) ?_ ?_
                  rotate_left
                  · intro w'
                    go_simp
                    with_reducible rfl
                  rotate_left
                  · simp only [Act.put, List.setIfInBounds_toArray, List.set_cons_zero, List.set_cons_succ, i64_w, i32_w]
                    rfl
                  refine pure_ (i := 4) (N := some 79) (v := ?_) (a' := ?_) #[false, false, true, false, true, false, false, false, false, false, false, false, false, false, false, false, false] rfl rfl (any_of HT_.out (by kernel_rfl)) (fun _ _ _ h => h) (Or.inl ⟨by rfl, ?_⟩) ?_ ?_
                  rotate_left
                  · intro w'
                    go_simp
                    with_reducible rfl
                  rotate_left
                  · simp only [Act.put, List.setIfInBounds_toArray, List.set_cons_zero, List.set_cons_succ, i64_w, i32_w]
                    rfl
                  refine take_ (i := 0) (N := some 75) (v := ?_) (a' := ?_) #[true, false, true, false, true, false, false, false, false, false, false, false, false, false, false, false, false] rfl rfl (take_ofW HT_.out HW_.out (by kernel_rfl)) (fun _ _ _ h => h) (Or.inl ⟨by rfl, ?_⟩) hHeld ?_ ?_
                  rotate_left
                  · rintro w' ⟨s0, s1, s2⟩
                    go_simp
                    with_reducible rfl
                  rotate_left
                  · simp only [Act.put, List.setIfInBounds_toArray, List.set_cons_zero, List.set_cons_succ, i64_w, i32_w]
                    rfl
                  refine take_ (i := 3) (N := some 78) (v := ?_) (a' := ?_) #[true, false, true, true, true, false, false, false, false, false, false, false, false, false, false, false, false] rfl rfl (take_ofW HT_.out HW_.out (by kernel_rfl)) (fun _ _ _ h => h) (Or.inl ⟨by rfl, ?_⟩) hHeld ?_ ?_
                  rotate_left
                  · rintro w' ⟨s0, s1, s2⟩
                    go_simp
                    with_reducible rfl
                  rotate_left
                  · simp only [Act.put, List.setIfInBounds_toArray, List.set_cons_zero, List.set_cons_succ, i64_w, i32_w]
                    rfl
                  refine take_ (i := 5) (N := some 80) (v := ?_) (a' := ?_) #[true, false, true, true, true, true, false, false, false, false, false, false, false, false, false, false, false] rfl rfl (take_ofW HT_.out HW_.out (by kernel_rfl)) (fun _ _ _ h => h) (Or.inl ⟨by rfl, ?_⟩) hHeld ?_ ?_
                  rotate_left
                  · rintro w' ⟨s0, s1, s2⟩
                    go_simp
                    with_reducible rfl
                  rotate_left
                  · simp only [Act.put, List.setIfInBounds_toArray, List.set_cons_zero, List.set_cons_succ, i64_w, i32_w]
                    rfl
                  refine pure_ (i := 6) (N := some 81) (v := ?_) (a' := ?_) #[true, false, true, true, true, true, true, false, false, false, false, false, false, false, false, false, false] rfl rfl (any_of HT_.out (by kernel_rfl)) (fun _ _ _ h => h) (Or.inl ⟨by rfl, ?_⟩) ?_ ?_
                  rotate_left
                  · intro w'
                    go_simp
                    with_reducible rfl
                  rotate_left
                  · simp only [Act.put, List.setIfInBounds_toArray, List.set_cons_zero, List.set_cons_succ, i64_w, i32_w]
                    rfl
                  refine one_ (i := 1) (N := some 76) #[true, true, true, true, true, true, true, false, false, false, false, false, false, false, false, false, false] rfl rfl (one_of HT_.out (by kernel_rfl)) (by decide) (fun K hK => ?_)
                  refine goes_ Try.func14 (by kernel_rfl) rfl #[.agg #[.string a0_0, .int .i64 a0_1, .int .i64 a0_2]] (by rfl) rfl rfl (by (try simp only [List.map_toArray, List.map_cons, List.map_nil]); first | done | rfl | (simp only [List.length_drop, List.length_take]; rfl)) ?_
                  with_reducible refine (pfair_Heavy.calls k2 a0_0 a0_1 a0_2 t195 _ A113.out).mono ?_
                  rintro e w117 ⟨rfl, hb⟩
                  refine ⟨_, rfl, ?_⟩
                  have n0_ := Aside0.mk (blk_below (g := gb193) (o := .cells #[.string a0_0, .int .i64 a0_1, .int .i64 a0_2] 23 (0, 0)) (by (with_reducible repeat (first | refine blk_drewN ?_ _ | refine blk_drew ?_ | refine blk_alloc ?_ _)); exact BK193.out) hb)
                  have n1_ := Aside0.mk (below_step (by repeat (first | (with_reducible first | exact HB.out | apply below_alloc | apply pw_below_drewN | apply below_drew1 | refine below_set ?_ GE193.out) | exact HB.out)) hb)
                  clear BK193
                  clear HB
                  have BK193 := n0_
                  have HB := n1_
                  clear n0_ n1_
                  (try clear hb)
                  (try clear hb2)
                  (try clear hk)
                  (try clear hi)
                  refine hK.out _ _ ⟨(blk_cell BK193.out 0).trans rfl, (blk_cell BK193.out 1).trans rfl, (blk_cell BK193.out 2).trans rfl⟩ (fun hHeld => ?_)
                  clear hK K
                  refine norm_ (a' := ?_) ?_ ?_
                  rotate_left
                  · show Act.put _ (some 76) _ = _
                    simp only [Act.put, List.setIfInBounds_toArray, List.set_cons_zero, List.set_cons_succ, i64_w, i32_w]
                    rfl
                  refine pure_ (i := 7) (N := some 82) (v := ?_) (a' := ?_) #[true, true, true, true, true, true, true, true, false, false, false, false, false, false, false, false, false] rfl rfl (any_of HT_.out (by kernel_rfl)) (fun _ _ _ h => h) (Or.inl ⟨by rfl, ?_⟩) ?_ ?_
                  rotate_left
                  · intro w'
                    go_simp
                    with_reducible rfl
                  rotate_left
                  · simp only [Act.put, List.setIfInBounds_toArray, List.set_cons_zero, List.set_cons_succ, i64_w, i32_w]
                    rfl
                  refine pure_ (i := 8) (N := some 83) (v := ?_) (a' := ?_) #[true, true, true, true, true, true, true, true, true, false, false, false, false, false, false, false, false] rfl rfl (any_of HT_.out (by kernel_rfl)) (fun _ _ _ h => h) (Or.inl ⟨by rfl, ?_⟩) ?_ ?_
                  rotate_left
                  · intro w'
                    go_simp
                    with_reducible rfl
                  rotate_left
                  · simp only [Act.put, List.setIfInBounds_toArray, List.set_cons_zero, List.set_cons_succ, i64_w, i32_w]
                    rfl
                  refine pure_ (i := 11) (N := some 86) (v := ?_) (a' := ?_) #[true, true, true, true, true, true, true, true, true, false, false, true, false, false, false, false, false] rfl rfl (any_of HT_.out (by kernel_rfl)) (fun _ _ _ h => h) (Or.inl ⟨by rfl, ?_⟩) ?_ ?_
                  rotate_left
                  · intro w'
                    go_simp
                    with_reducible rfl
                  rotate_left
                  · simp only [Act.put, List.setIfInBounds_toArray, List.set_cons_zero, List.set_cons_succ, i64_w, i32_w]
                    rfl
                  refine take_ (i := 9) (N := some 84) (v := ?_) (a' := ?_) #[true, true, true, true, true, true, true, true, true, true, false, true, false, false, false, false, false] rfl rfl (take_ofW HT_.out HW_.out (by kernel_rfl)) (fun _ _ _ h => h) (Or.inl ⟨by rfl, ?_⟩) hHeld ?_ ?_
                  rotate_left
                  · rintro w' ⟨s0, s1, s2⟩
                    go_simp
                    with_reducible rfl
                  rotate_left
                  · simp only [Act.put, List.setIfInBounds_toArray, List.set_cons_zero, List.set_cons_succ, i64_w, i32_w]
                    rfl
                  refine pure_ (i := 10) (N := some 85) (v := ?_) (a' := ?_) #[true, true, true, true, true, true, true, true, true, true, true, true, false, false, false, false, false] rfl rfl (any_of HT_.out (by kernel_rfl)) (fun _ _ _ h => h) (Or.inl ⟨by rfl, ?_⟩) ?_ ?_
                  rotate_left
                  · intro w'
                    go_simp
                    with_reducible rfl
                  rotate_left
                  · simp only [Act.put, List.setIfInBounds_toArray, List.set_cons_zero, List.set_cons_succ, i64_w, i32_w]
                    rfl
                  refine take_ (i := 12) (N := some 87) (v := ?_) (a' := ?_) #[true, true, true, true, true, true, true, true, true, true, true, true, true, false, false, false, false] rfl rfl (take_ofW HT_.out HW_.out (by kernel_rfl)) (fun _ _ _ h => h) (Or.inl ⟨by rfl, ?_⟩) hHeld ?_ ?_
                  rotate_left
                  · rintro w' ⟨s0, s1, s2⟩
                    go_simp
                    with_reducible rfl
                  rotate_left
                  · simp only [Act.put, List.setIfInBounds_toArray, List.set_cons_zero, List.set_cons_succ, i64_w, i32_w]
                    rfl
                  refine pure_ (i := 13) (N := some 88) (v := ?_) (a' := ?_) #[true, true, true, true, true, true, true, true, true, true, true, true, true, true, false, false, false] rfl rfl (any_of HT_.out (by kernel_rfl)) (fun _ _ _ h => h) (Or.inl ⟨by rfl, ?_⟩) ?_ ?_
                  rotate_left
                  · intro w'
                    go_simp
                    with_reducible rfl
                  rotate_left
                  · simp only [Act.put, List.setIfInBounds_toArray, List.set_cons_zero, List.set_cons_succ, i64_w, i32_w]
                    rfl
                  refine pure_ (i := 14) (N := some 89) (v := ?_) (a' := ?_) #[true, true, true, true, true, true, true, true, true, true, true, true, true, true, true, false, false] rfl rfl (any_of HT_.out (by kernel_rfl)) (fun _ _ _ h => h) (Or.inl ⟨by rfl, ?_⟩) ?_ ?_
                  rotate_left
                  · intro w'
                    go_simp
                    with_reducible rfl
                  rotate_left
                  · simp only [Act.put, List.setIfInBounds_toArray, List.set_cons_zero, List.set_cons_succ, i64_w, i32_w]
                    rfl
                  refine pure_ (i := 15) (N := some 90) (v := ?_) (a' := ?_) #[true, true, true, true, true, true, true, true, true, true, true, true, true, true, true, true, false] rfl rfl (any_of HT_.out (by kernel_rfl)) (fun _ _ _ h => h) (Or.inl ⟨by rfl, ?_⟩) ?_ ?_
                  rotate_left
                  · intro w'
                    go_simp
                    with_reducible rfl
                  rotate_left
                  · simp only [Act.put, List.setIfInBounds_toArray, List.set_cons_zero, List.set_cons_succ, i64_w, i32_w]
                    rfl
                  refine pure_ (i := 16) (N := some 2) (v := ?_) (a' := ?_) #[true, true, true, true, true, true, true, true, true, true, true, true, true, true, true, true, true] rfl rfl (any_of HT_.out (by kernel_rfl)) (fun _ _ _ h => h) (Or.inl ⟨by rfl, ?_⟩) ?_ ?_
                  rotate_left
                  · intro w'
                    go_simp
                    with_reducible rfl
                  rotate_left
                  · simp only [Act.put, List.setIfInBounds_toArray, List.set_cons_zero, List.set_cons_succ, i64_w, i32_w]
                    rfl
                  refine done_ (done_of HT_.out (by kernel_rfl)) ?_
                  try go_wp2
                  go_ret
                  exact ⟨by first | rfl | (simp [errW_none, errW_some] <;> rfl) | (simp [*, errW_none, errW_some] <;> rfl), by repeat (first | (with_reducible first | exact HB.out | apply below_alloc | apply pw_below_drewN | apply below_drew1 | refine below_set ?_ GE193.out) | exact HB.out)⟩
                · rw [if_neg c114] at H
                  have c114b0 : decide (a0_1 < a0_2) = false := decide_eq_false c114
                  clear c114
                  obtain rfl := Option.some.inj H
                  have hcz118_0 : wr.cell? ⟨gb193, 0, none⟩ = some (.string a0_0) := (blk_cell BK193.out 0).trans rfl
                  have hcz118_1 : wr.cell? ⟨gb193, 1, none⟩ = some (.int .i64 a0_1) := (blk_cell BK193.out 1).trans rfl
                  have hcz118_2 : wr.cell? ⟨gb193, 2, none⟩ = some (.int .i64 a0_2) := (blk_cell BK193.out 2).trans rfl
                  have hfz118_0 := blk_frozen BK193.out 0
                  have hfz118_1 := blk_frozen BK193.out 1
                  have hfz118_2 := blk_frozen BK193.out 2
                  try go_wp2
                  have n0_ := Aside0.mk (blk_drew BK193.out)
                  have n1_ := Aside0.mk (below_drew1 HB.out)
                  clear BK193
                  clear HB
                  have BK193 := n0_
                  have HB := n1_
                  clear n0_ n1_
                  refine start_ (n := 17) (S := fun w' => w'.cell? ⟨gb193, 0, none⟩ = some (.string a0_0) ∧ w'.cell? ⟨gb193, 1, none⟩ = some (.int .i64 a0_1) ∧ w'.cell? ⟨gb193, 2, none⟩ = some (.int .i64 a0_2)) (ds := []) #[false, false, false, false, false, false, false, false, false, false, false, false, false, false, false, false, false] (by kernel_rfl) rfl rfl ⟨(blk_cell BK193.out 0).trans rfl, (blk_cell BK193.out 1).trans rfl, (blk_cell BK193.out 2).trans rfl⟩ (fun hHeld => ?_); refine with_tabW ontimelaw45_PfairGroups.tab19 ontimelaw45_PfairGroups.bits19 (fun HT_ HW_ => ?_)
                  generalize wr.drew = w119 at BK193 HB hHeld ⊢
                  refine pure_ (i := 2) (N := some 77) (v := ?_) (a' := ?_) #[false, false, true, false, false, false, false, false, false, false, false, false, false, false, false, false, false] rfl rfl (any_of HT_.out (by kernel_rfl)) (fun _ _ _ h => h) (Or.inl ⟨by rfl, ?_⟩) ?_ ?_
                  rotate_left
                  · intro w'
                    go_simp
                    with_reducible rfl
                  rotate_left
                  · simp only [Act.put, List.setIfInBounds_toArray, List.set_cons_zero, List.set_cons_succ, i64_w, i32_w]
                    rfl
                  refine pure_ (i := 4) (N := some 79) (v := ?_) (a' := ?_) #[false, false, true, false, true, false, false, false, false, false, false, false, false, false, false, false, false] rfl rfl (any_of HT_.out (by kernel_rfl)) (fun _ _ _ h => h) (Or.inl ⟨by rfl, ?_⟩) ?_ ?_
                  rotate_left
                  · intro w'
                    go_simp
                    with_reducible rfl
                  rotate_left
                  · simp only [Act.put, List.setIfInBounds_toArray, List.set_cons_zero, List.set_cons_succ, i64_w, i32_w]
                    rfl
                  refine take_ (i := 0) (N := some 75) (v := ?_) (a' := ?_) #[true, false, true, false, true, false, false, false, false, false, false, false, false, false, false, false, false] rfl rfl (take_ofW HT_.out HW_.out (by kernel_rfl)) (fun _ _ _ h => h) (Or.inl ⟨by rfl, ?_⟩) hHeld ?_ ?_
                  rotate_left
                  · rintro w' ⟨s0, s1, s2⟩
                    go_simp
                    with_reducible rfl
                  rotate_left
                  · simp only [Act.put, List.setIfInBounds_toArray, List.set_cons_zero, List.set_cons_succ, i64_w, i32_w]
                    rfl
                  refine take_ (i := 3) (N := some 78) (v := ?_) (a' := ?_) #[true, false, true, true, true, false, false, false, false, false, false, false, false, false, false, false, false] rfl rfl (take_ofW HT_.out HW_.out (by kernel_rfl)) (fun _ _ _ h => h) (Or.inl ⟨by rfl, ?_⟩) hHeld ?_ ?_
                  rotate_left
                  · rintro w' ⟨s0, s1, s2⟩
                    go_simp
                    with_reducible rfl
                  rotate_left
                  · simp only [Act.put, List.setIfInBounds_toArray, List.set_cons_zero, List.set_cons_succ, i64_w, i32_w]
                    rfl
                  refine take_ (i := 5) (N := some 80) (v := ?_) (a' := ?_) #[true, false, true, true, true, true, false, false, false, false, false, false, false, false, false, false, false] rfl rfl (take_ofW HT_.out HW_.out (by kernel_rfl)) (fun _ _ _ h => h) (Or.inl ⟨by rfl, ?_⟩) hHeld ?_ ?_
                  rotate_left
                  · rintro w' ⟨s0, s1, s2⟩
                    go_simp
                    with_reducible rfl
                  rotate_left
                  · simp only [Act.put, List.setIfInBounds_toArray, List.set_cons_zero, List.set_cons_succ, i64_w, i32_w]
                    rfl
                  refine pure_ (i := 6) (N := some 81) (v := ?_) (a' := ?_) #[true, false, true, true, true, true, true, false, false, false, false, false, false, false, false, false, false] rfl rfl (any_of HT_.out (by kernel_rfl)) (fun _ _ _ h => h) (Or.inl ⟨by rfl, ?_⟩) ?_ ?_
                  rotate_left
                  · intro w'
                    go_simp
                    with_reducible rfl
                  rotate_left
                  · simp only [Act.put, List.setIfInBounds_toArray, List.set_cons_zero, List.set_cons_succ, i64_w, i32_w]
                    rfl
                  refine one_ (i := 1) (N := some 76) #[true, true, true, true, true, true, true, false, false, false, false, false, false, false, false, false, false] rfl rfl (one_of HT_.out (by kernel_rfl)) (by decide) (fun K hK => ?_)
                  refine goes_ Try.func14 (by kernel_rfl) rfl #[.agg #[.string a0_0, .int .i64 a0_1, .int .i64 a0_2]] (by rfl) rfl rfl (by (try simp only [List.map_toArray, List.map_cons, List.map_nil]); first | done | rfl | (simp only [List.length_drop, List.length_take]; rfl)) ?_
                  with_reducible refine (pfair_Heavy.calls k2 a0_0 a0_1 a0_2 t195 _ A113.out).mono ?_
                  rintro e w120 ⟨rfl, hb⟩
                  refine ⟨_, rfl, ?_⟩
                  have n0_ := Aside0.mk (blk_below (g := gb193) (o := .cells #[.string a0_0, .int .i64 a0_1, .int .i64 a0_2] 23 (0, 0)) (by (with_reducible repeat (first | refine blk_drewN ?_ _ | refine blk_drew ?_ | refine blk_alloc ?_ _)); exact BK193.out) hb)
                  have n1_ := Aside0.mk (below_step (by repeat (first | (with_reducible first | exact HB.out | apply below_alloc | apply pw_below_drewN | apply below_drew1 | refine below_set ?_ GE193.out) | exact HB.out)) hb)
                  clear BK193
                  clear HB
                  have BK193 := n0_
                  have HB := n1_
                  clear n0_ n1_
                  (try clear hb)
                  (try clear hb2)
                  (try clear hk)
                  (try clear hi)
                  refine hK.out _ _ ⟨(blk_cell BK193.out 0).trans rfl, (blk_cell BK193.out 1).trans rfl, (blk_cell BK193.out 2).trans rfl⟩ (fun hHeld => ?_)
                  clear hK K
                  refine norm_ (a' := ?_) ?_ ?_
                  rotate_left
                  · show Act.put _ (some 76) _ = _
                    simp only [Act.put, List.setIfInBounds_toArray, List.set_cons_zero, List.set_cons_succ, i64_w, i32_w]
                    rfl
                  refine pure_ (i := 7) (N := some 82) (v := ?_) (a' := ?_) #[true, true, true, true, true, true, true, true, false, false, false, false, false, false, false, false, false] rfl rfl (any_of HT_.out (by kernel_rfl)) (fun _ _ _ h => h) (Or.inl ⟨by rfl, ?_⟩) ?_ ?_
                  rotate_left
                  · intro w'
                    go_simp
                    with_reducible rfl
                  rotate_left
                  · simp only [Act.put, List.setIfInBounds_toArray, List.set_cons_zero, List.set_cons_succ, i64_w, i32_w]
                    rfl
                  refine pure_ (i := 8) (N := some 83) (v := undef) (a' := ?_) #[true, true, true, true, true, true, true, true, true, false, false, false, false, false, false, false, false] rfl rfl (any_of HT_.out (by kernel_rfl)) (fun _ _ _ h => h) (Or.inr ⟨by rfl, rfl⟩) ?_ ?_
                  rotate_left
                  · simp only [Act.put, List.setIfInBounds_toArray, List.set_cons_zero, List.set_cons_succ, i64_w, i32_w]
                    rfl
                  refine pure_ (i := 9) (N := some 84) (v := undef) (a' := ?_) #[true, true, true, true, true, true, true, true, true, true, false, false, false, false, false, false, false] rfl rfl (any_of HT_.out (by kernel_rfl)) (fun _ _ _ h => h) (Or.inr ⟨by rfl, rfl⟩) ?_ ?_
                  rotate_left
                  · simp only [Act.put, List.setIfInBounds_toArray, List.set_cons_zero, List.set_cons_succ, i64_w, i32_w]
                    rfl
                  refine pure_ (i := 10) (N := some 85) (v := undef) (a' := ?_) #[true, true, true, true, true, true, true, true, true, true, true, false, false, false, false, false, false] rfl rfl (any_of HT_.out (by kernel_rfl)) (fun _ _ _ h => h) (Or.inr ⟨by rfl, rfl⟩) ?_ ?_
                  rotate_left
                  · simp only [Act.put, List.setIfInBounds_toArray, List.set_cons_zero, List.set_cons_succ, i64_w, i32_w]
                    rfl
                  refine pure_ (i := 11) (N := some 86) (v := undef) (a' := ?_) #[true, true, true, true, true, true, true, true, true, true, true, true, false, false, false, false, false] rfl rfl (any_of HT_.out (by kernel_rfl)) (fun _ _ _ h => h) (Or.inr ⟨by rfl, rfl⟩) ?_ ?_
                  rotate_left
                  · simp only [Act.put, List.setIfInBounds_toArray, List.set_cons_zero, List.set_cons_succ, i64_w, i32_w]
                    rfl
                  refine pure_ (i := 12) (N := some 87) (v := undef) (a' := ?_) #[true, true, true, true, true, true, true, true, true, true, true, true, true, false, false, false, false] rfl rfl (any_of HT_.out (by kernel_rfl)) (fun _ _ _ h => h) (Or.inr ⟨by rfl, rfl⟩) ?_ ?_
                  rotate_left
                  · simp only [Act.put, List.setIfInBounds_toArray, List.set_cons_zero, List.set_cons_succ, i64_w, i32_w]
                    rfl
                  refine pure_ (i := 13) (N := some 88) (v := undef) (a' := ?_) #[true, true, true, true, true, true, true, true, true, true, true, true, true, true, false, false, false] rfl rfl (any_of HT_.out (by kernel_rfl)) (fun _ _ _ h => h) (Or.inr ⟨by rfl, rfl⟩) ?_ ?_
                  rotate_left
                  · simp only [Act.put, List.setIfInBounds_toArray, List.set_cons_zero, List.set_cons_succ, i64_w, i32_w]
                    rfl
                  refine pure_ (i := 14) (N := some 89) (v := ?_) (a' := ?_) #[true, true, true, true, true, true, true, true, true, true, true, true, true, true, true, false, false] rfl rfl (any_of HT_.out (by kernel_rfl)) (fun _ _ _ h => h) (Or.inl ⟨by rfl, ?_⟩) ?_ ?_
                  rotate_left
                  · intro w'
                    go_simp
                    with_reducible rfl
                  rotate_left
                  · simp only [Act.put, List.setIfInBounds_toArray, List.set_cons_zero, List.set_cons_succ, i64_w, i32_w]
                    rfl
                  refine pure_ (i := 15) (N := some 90) (v := ?_) (a' := ?_) #[true, true, true, true, true, true, true, true, true, true, true, true, true, true, true, true, false] rfl rfl (any_of HT_.out (by kernel_rfl)) (fun _ _ _ h => h) (Or.inl ⟨by rfl, ?_⟩) ?_ ?_
                  rotate_left
                  · intro w'
                    go_simp
                    with_reducible rfl
                  rotate_left
                  · simp only [Act.put, List.setIfInBounds_toArray, List.set_cons_zero, List.set_cons_succ, i64_w, i32_w]
                    rfl
                  refine pure_ (i := 16) (N := some 2) (v := ?_) (a' := ?_) #[true, true, true, true, true, true, true, true, true, true, true, true, true, true, true, true, true] rfl rfl (any_of HT_.out (by kernel_rfl)) (fun _ _ _ h => h) (Or.inl ⟨by rfl, ?_⟩) ?_ ?_
                  rotate_left
                  · intro w'
                    go_simp
                    with_reducible rfl
                  rotate_left
                  · simp only [Act.put, List.setIfInBounds_toArray, List.set_cons_zero, List.set_cons_succ, i64_w, i32_w]
                    rfl
                  refine done_ (done_of HT_.out (by kernel_rfl)) ?_
                  try go_wp2
                  go_ret
                  exact ⟨by first | rfl | (simp [errW_none, errW_some] <;> rfl) | (simp [*, errW_none, errW_some] <;> rfl), by repeat (first | (with_reducible first | exact HB.out | apply below_alloc | apply pw_below_drewN | apply below_drew1 | refine below_set ?_ GE193.out) | exact HB.out)⟩
  · replace c3 := Bool.eq_false_iff.mpr c3
    subst c3
    have H1 : (some false) = some r := by rw [if_neg (show ¬ (false = true) by decide)] at H; exact H
    clear H
    have H := H1
    clear H1
    obtain rfl := Option.some.inj H
    go_enter Try.func6, Try.ntmps6
    go_wp2_with (first | ((with_reducible refine gate_dst (N := 1) rfl ?_); refine box_event ?hg (N := 1) ?hd (cs := #[.string a0_0, .int .i64 a0_1, .int .i64 a0_2]) (t := 23) ?hr ?_; (case hd => rfl); (case hg => rfl); (case hr => first | (go_simp; done) | (go_simp; rfl)); intro gb193 hg w121 hbox hb; have n0_ := Aside0.mk (below_step (by repeat (first | (with_reducible first | exact HB.out | apply below_alloc | apply pw_below_drewN | apply below_drew1) | exact HB.out)) hb); have n1_ := Aside0.mk (hbox); have n2_ := Aside0.mk ((by rw [hg]; exact (below_size (by repeat (first | (with_reducible first | exact HB.out | apply below_alloc | apply pw_below_drewN | apply below_drew1) | exact HB.out))) : w.heap.size ≤ gb193)); have n3_ := Aside0.mk ((by rw [hg]; exact (below_size (by repeat (first | (with_reducible first | exact HB.out | apply below_alloc | apply pw_below_drewN | apply below_drew1) | exact HB.out))) : w.heap.size ≤ gb193)); clear HB; have HB := n0_; have BK193 := n1_; have GW193 := n2_; have GE193 := n3_; clear n0_ n1_ n2_ n3_; clear hb hbox hg) | ((with_reducible refine gate_callee (f := 11) rfl ?_); refine goesL_ (some 8) rfl rfl Try.func11 (by kernel_rfl) rfl #[] rfl (by (try simp only [List.map_toArray, List.map_cons, List.map_nil]); first | done | rfl | (simp only [List.length_drop, List.length_take]; rfl)) ?_; (with_reducible refine (ontimelaw45_awake.calls k  false _ A2.out).mono ?_); rintro e w122 ⟨rfl, hb⟩; refine ⟨_, rfl, ?_⟩; have n0_ := Aside0.mk (blk_below (g := gb193) (o := .cells #[.string a0_0, .int .i64 a0_1, .int .i64 a0_2] 23 (0, 0)) (by (with_reducible repeat (first | refine blk_drewN ?_ _ | refine blk_drew ?_ | refine blk_alloc ?_ _)); exact BK193.out) hb); have n1_ := Aside0.mk (below_step (by repeat (first | (with_reducible first | exact HB.out | apply below_alloc | apply pw_below_drewN | apply below_drew1 | refine below_set ?_ GE193.out) | exact HB.out)) hb); clear BK193; clear HB; have BK193 := n0_; have HB := n1_; clear n0_ n1_; (try clear hb); (try clear hb2); (try clear hk); (try clear hi)))
    go_ret
    exact ⟨by first | rfl | (simp [errW_none, errW_some] <;> rfl) | (simp [*, errW_none, errW_some] <;> rfl), by repeat (first | (with_reducible first | exact HB.out | apply below_alloc | apply pw_below_drewN | apply below_drew1 | refine below_set ?_ GE193.out) | exact HB.out)⟩

end Go.Proofs.Ytbjhkcfgahbipaa.P
