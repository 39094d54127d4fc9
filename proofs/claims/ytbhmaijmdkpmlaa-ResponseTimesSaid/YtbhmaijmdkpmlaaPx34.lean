-- Written by wip/gen.py: the kit's print, with contracts of mine in it.
import Derived.Test.YtbhmaijmdkpmlaaPx0
import Derived.Test.YtbhmaijmdkpmlaaPx33
namespace Go.Proofs.Ytbhmaijmdkpmlaa.P
open Go.RowKit Go.Proofs.YtbhmaijmdkpmlaaW.PrintWords Go.Proofs.YtbhmaijmdkpmlaaW.PrintLast Go.Proofs.YtbhmaijmdkpmlaaW.PrintMore
attribute [local go_sem] max2_int min2_int max_two min_two max_three min_three max_four min_four   -- for this text's walks alone
set_option linter.unusedVariables false
set_option linter.unusedSimpArgs false

/-! ### ontimeref44_Blocking: function 26 -/
mutual
def ontimeref44_Blocking.l0 : Nat → List (S93) → Int → Int → Int → Option (Int)
  | 0, _, _, _, _ => none
  | k + 1, x0, x1, x5, x6 => if x6 < (x0.length : Int) then (ontimeref44_Blocking.l1 k x0 x1 x5 x6 0) else (some x5)
def ontimeref44_Blocking.l1 : Nat → List (S93) → Int → Int → Int → Int → Option (Int)
  | 0, _, _, _, _, _ => none
  | k + 1, x0, x1, x5, x6, x7 => if 0 ≤ x6 then (if x6 < (x0.length : Int) then (if x7 < (((rd_T93 x0 x6).f3).length : Int) then (if 0 ≤ x7 then ((ontimeref43_Ceiling.f k x0 ((rd_T94 ((rd_T93 x0 x6).f3) x7).f0)).bind fun t196 => (if t196 ≤ x1 then (if (wrap64 ((wrap64 (((rd_T94 ((rd_T93 x0 x6).f3) x7).f2) - ((rd_T94 ((rd_T93 x0 x6).f3) x7).f1))) - 1)) > x5 then (ontimeref44_Blocking.l1 k x0 x1 (wrap64 ((wrap64 (((rd_T94 ((rd_T93 x0 x6).f3) x7).f2) - ((rd_T94 ((rd_T93 x0 x6).f3) x7).f1))) - 1)) x6 (wrap64 (x7 + 1))) else (ontimeref44_Blocking.l1 k x0 x1 x5 x6 (wrap64 (x7 + 1)))) else (ontimeref44_Blocking.l1 k x0 x1 x5 x6 (wrap64 (x7 + 1))))) else (none)) else (ontimeref44_Blocking.l0 k x0 x1 x5 (wrap64 (x6 + 1)))) else (none)) else (none)
end
def ontimeref44_Blocking.f (k : Nat) (l0 : List (S93)) (a1 : Int) : Option (Int) := ontimeref44_Blocking.l0 k l0 a1 0 (wrap64 (a1 + 1))
theorem ontimeref44_Blocking.mono_l : ∀ k, (∀ y0 y1 y2 y3, LeO (ontimeref44_Blocking.l0 k y0 y1 y2 y3) (ontimeref44_Blocking.l0 (k + 1) y0 y1 y2 y3)) ∧ (∀ y0 y1 y2 y3 y4, LeO (ontimeref44_Blocking.l1 k y0 y1 y2 y3 y4) (ontimeref44_Blocking.l1 (k + 1) y0 y1 y2 y3 y4))
  | 0 => ⟨fun _ _ _ _ r h => by simp [ontimeref44_Blocking.l0] at h, fun _ _ _ _ _ r h => by simp [ontimeref44_Blocking.l1] at h⟩
  | k + 1 => by
    obtain ⟨ih0, ih1⟩ := ontimeref44_Blocking.mono_l k
    refine ⟨?_, ?_⟩
    · intro y0 y1 y2 y3
      unfold ontimeref44_Blocking.l0
      repeat' first
      | (with_reducible exact ih0 _ _ _ _)
      | (with_reducible exact ih1 _ _ _ _ _)
      | (with_reducible exact ontimeref43_Ceiling.mono _ _ _)
      | (with_reducible exact LeO.refl _)
      | (with_reducible exact LeO.none _)
      | (with_reducible refine LeO.ite ?_ ?_)
      | (with_reducible refine LeO.bind ?_ (fun _ => ?_))
      | exact ih0 _ _ _ _
      | exact ih1 _ _ _ _ _
      | exact ontimeref43_Ceiling.mono _ _ _
      | exact LeO.none _
      | refine LeO.ite ?_ ?_
      | refine LeO.bind ?_ (fun _ => ?_)
    · intro y0 y1 y2 y3 y4
      unfold ontimeref44_Blocking.l1
      repeat' first
      | (with_reducible exact ih0 _ _ _ _)
      | (with_reducible exact ih1 _ _ _ _ _)
      | (with_reducible exact ontimeref43_Ceiling.mono _ _ _)
      | (with_reducible exact LeO.refl _)
      | (with_reducible exact LeO.none _)
      | (with_reducible refine LeO.ite ?_ ?_)
      | (with_reducible refine LeO.bind ?_ (fun _ => ?_))
      | exact ih0 _ _ _ _
      | exact ih1 _ _ _ _ _
      | exact ontimeref43_Ceiling.mono _ _ _
      | exact LeO.none _
      | refine LeO.ite ?_ ?_
      | refine LeO.bind ?_ (fun _ => ?_)
theorem ontimeref44_Blocking.mono : ∀ a0 a1 k, LeO (ontimeref44_Blocking.f k a0 a1) (ontimeref44_Blocking.f (k + 1) a0 a1) := by
  intro a0 a1 k
  obtain ⟨ih0, ih1⟩ := ontimeref44_Blocking.mono_l k
  unfold ontimeref44_Blocking.f
  repeat' first
      | (with_reducible exact ih0 _ _ _ _)
      | (with_reducible exact ih1 _ _ _ _ _)
      | (with_reducible exact ontimeref43_Ceiling.mono _ _ _)
      | (with_reducible exact LeO.refl _)
      | (with_reducible exact LeO.none _)
      | (with_reducible refine LeO.ite ?_ ?_)
      | (with_reducible refine LeO.bind ?_ (fun _ => ?_))
      | exact ih0 _ _ _ _
      | exact ih1 _ _ _ _ _
      | exact ontimeref43_Ceiling.mono _ _ _
      | exact LeO.none _
      | refine LeO.ite ?_ ?_
      | refine LeO.bind ?_ (fun _ => ?_)
set_option maxHeartbeats 8000000 in
set_option maxRecDepth 100000 in
theorem ontimeref44_Blocking.calls (k : Nat) (A0 : Option Addr) (c0 : Nat) (l0 : List (S93)) (a1 : Int) (r : Int) (w : World) (hr0 : Kd.C k93 w A0 l0.length l0) (hc0 : l0.length ≤ c0) (h : ontimeref44_Blocking.f k l0 a1 = some r) :
    Calls Try.prog 26 #[.slice A0 l0.length c0, .int .i64 a1] w fun e w' => e = .returned (.int .i64 r) ∧ Below w.heap.size w w' := by
  have hu94 := Try.underlying94
  have HR0 := Aside0.mk hr0
  have HC0 := Aside0.mk hc0
  clear hr0 hc0
  have HB := Aside0.mk (Below.refl w.heap.size w)
  have H : (ontimeref44_Blocking.l0 k l0 a1 0 (wrap64 (a1 + 1))) = some r := h
  clear h
  have H' := Aside0.mk H
  clear H
  go_enter Try.func26, Try.ntmps26
  go_wp2
  go_loopg [5, 6] k (fun kq v5 v6 w' => ∃ (x5_1 : Int) (x6_1 : Int), v5 = .int .i64 x5_1 ∧ v6 = .int .i64 x6_1 ∧ Aside0 (ontimeref44_Blocking.l0 kq l0 a1 x5_1 x6_1 = some r) ∧ Aside0 (kq ≤ k) ∧ Aside0 (Below w.heap.size w w'))
  case atStart => exact ⟨(0), (wrap64 (a1 + 1)), (by first | rfl | (simp; done) | (simp [*]; done)), (by first | rfl | (simp; done) | (simp [*]; done)), H', ⟨Nat.le_refl _⟩, ⟨by repeat (first | (with_reducible first | exact HB.out | apply below_alloc | apply pw_below_drewN | apply below_drew1) | exact HB.out)⟩⟩
  case round =>
    clear H'
    try clear c2
    try clear p2
    obtain ⟨x5_1, x6_1, rfl, rfl, HA, HK1, HB⟩ := hrel
    cases gk with
    | zero => exact absurd HA.out (by simp [ontimeref44_Blocking.l0])
    | succ k1 =>
      have H := HA.out
      clear HA
      simp only [ontimeref44_Blocking.l0] at H
      by_cases c3 : x6_1 < (l0.length : Int)
      · rw [if_pos c3] at H
        have c3b0 : decide (x6_1 < (l0.length : Int)) = true := decide_eq_true c3
        clear c3
        have H' := Aside0.mk H
        clear H
        go_wp2
        go_loopg [5, 7] k1 (fun kq v5 v7 w' => ∃ (x5_2 : Int) (x7_2 : Int), v5 = .int .i64 x5_2 ∧ v7 = .int .i64 x7_2 ∧ Aside0 (ontimeref44_Blocking.l1 kq l0 a1 x5_2 x6_1 x7_2 = some r) ∧ Aside0 (kq ≤ k1) ∧ Aside0 (Below w.heap.size w w'))
        case atStart => exact ⟨(x5_1), (0), (by first | rfl | (simp; done) | (simp [*]; done)), (by first | rfl | (simp; done) | (simp [*]; done)), H', ⟨Nat.le_refl _⟩, ⟨by repeat (first | (with_reducible first | exact HB.out | apply below_alloc | apply pw_below_drewN | apply below_drew1) | exact HB.out)⟩⟩
        case round =>
          clear H'
          try clear c2
          try clear p2
          try clear c3
          try clear c3b0
          try clear p2
          obtain ⟨x5_2, x7_2, rfl, rfl, HA, HK2, HB⟩ := hrel
          cases gk with
          | zero => exact absurd HA.out (by simp [ontimeref44_Blocking.l1])
          | succ k2 =>
            have H := HA.out
            clear HA
            simp only [ontimeref44_Blocking.l1] at H
            by_cases c4 : 0 ≤ x6_1
            · rw [if_pos c4] at H
              have c4b0 : decide (0 ≤ x6_1) = true := decide_eq_true c4
              clear c4
              by_cases c5 : x6_1 < (l0.length : Int)
              · rw [if_pos c5] at H
                have c5b0 : decide (x6_1 < (l0.length : Int)) = true := decide_eq_true c5
                clear c5
                by_cases c6 : x7_2 < (((rd_T93 l0 x6_1).f3).length : Int)
                · rw [if_pos c6] at H
                  have c6b0 : decide (x7_2 < (((rd_T93 l0 x6_1).f3).length : Int)) = true := decide_eq_true c6
                  clear c6
                  by_cases c7 : 0 ≤ x7_2
                  · rw [if_pos c7] at H
                    have c7b0 : decide (0 ≤ x7_2) = true := decide_eq_true c7
                    clear c7
                    replace H := Option.bind_eq_some_iff.mp H
                    obtain ⟨t196, A80, H⟩ := H
                    replace H : (if t196 ≤ a1 then (if (wrap64 ((wrap64 (((rd_T94 ((rd_T93 l0 x6_1).f3) x7_2).f2) - ((rd_T94 ((rd_T93 l0 x6_1).f3) x7_2).f1))) - 1)) > x5_2 then (ontimeref44_Blocking.l1 k2 l0 a1 (wrap64 ((wrap64 (((rd_T94 ((rd_T93 l0 x6_1).f3) x7_2).f2) - ((rd_T94 ((rd_T93 l0 x6_1).f3) x7_2).f1))) - 1)) x6_1 (wrap64 (x7_2 + 1))) else (ontimeref44_Blocking.l1 k2 l0 a1 x5_2 x6_1 (wrap64 (x7_2 + 1)))) else (ontimeref44_Blocking.l1 k2 l0 a1 x5_2 x6_1 (wrap64 (x7_2 + 1)))) = some r := H
                    have A8 := Aside0.mk A80
                    clear A80
                    by_cases c9 : t196 ≤ a1
                    · rw [if_pos c9] at H
                      have c9b0 : decide (t196 ≤ a1) = true := decide_eq_true c9
                      clear c9
                      by_cases c10 : (wrap64 ((wrap64 (((rd_T94 ((rd_T93 l0 x6_1).f3) x7_2).f2) - ((rd_T94 ((rd_T93 l0 x6_1).f3) x7_2).f1))) - 1)) > x5_2
                      · rw [if_pos c10] at H
                        have c10b0 : decide (x5_2 < (wrap64 ((wrap64 (((rd_T94 ((rd_T93 l0 x6_1).f3) x7_2).f2) - ((rd_T94 ((rd_T93 l0 x6_1).f3) x7_2).f1))) - 1))) = true := decide_eq_true c10
                        clear c10
                        have H' := Aside0.mk H
                        clear H
                        have p192 : 0 ≤ (x6_1 : Int) := of_decide_eq_true (by first | (with_reducible assumption) | assumption)
                        have q192 : x6_1 < (l0.length : Int) := of_decide_eq_true (by first | (with_reducible assumption) | assumption)
                        obtain ⟨ad192, A192_3, c192_3, e192, hx192_0, hx192_1, hx192_2, hx192_3, hl192_3, hi192_3⟩ := at_T93 HR0.out x6_1 p192 q192
                        cases e192
                        replace hx192_0 := (HB.out.cell (World.block_lt_of_cell? w _ hx192_0)).trans hx192_0
                        replace hx192_1 := (HB.out.cell (World.block_lt_of_cell? w _ hx192_1)).trans hx192_1
                        replace hx192_2 := (HB.out.cell (World.block_lt_of_cell? w _ hx192_2)).trans hx192_2
                        replace hx192_3 := (HB.out.cell (World.block_lt_of_cell? w _ hx192_3)).trans hx192_3
                        have HR192_3 := Aside0.mk hi192_3
                        have HC192_3 := Aside0.mk hl192_3
                        clear hi192_3 hl192_3
                        replace p192 := eq_true p192
                        replace q192 := eq_true q192
                        have p193 : 0 ≤ (x6_1 : Int) := of_decide_eq_true (by first | (with_reducible assumption) | assumption)
                        have q193 : x6_1 < (l0.length : Int) := of_decide_eq_true (by first | (with_reducible assumption) | assumption)
                        obtain ⟨ad193, A193_3, c193_3, e193, hx193_0, hx193_1, hx193_2, hx193_3, hl193_3, hi193_3⟩ := at_T93 HR0.out x6_1 p193 q193
                        obtain rfl : ad192 = ad193 := (by injection e193)
                        replace hx193_0 := (HB.out.cell (World.block_lt_of_cell? w _ hx193_0)).trans hx193_0
                        replace hx193_1 := (HB.out.cell (World.block_lt_of_cell? w _ hx193_1)).trans hx193_1
                        replace hx193_2 := (HB.out.cell (World.block_lt_of_cell? w _ hx193_2)).trans hx193_2
                        replace hx193_3 := (HB.out.cell (World.block_lt_of_cell? w _ hx193_3)).trans hx193_3
                        have HR193_3 := Aside0.mk hi193_3
                        have HC193_3 := Aside0.mk hl193_3
                        clear hi193_3 hl193_3
                        replace p193 := eq_true p193
                        replace q193 := eq_true q193
                        have ea_ := Option.some.inj (hx192_3.symm.trans hx193_3)
                        injection ea_ with ea_ en_ ec_
                        subst ea_
                        subst ec_
                        clear en_
                        have p194 : 0 ≤ (x7_2 : Int) := of_decide_eq_true (by first | (with_reducible assumption) | assumption)
                        have q194 : x7_2 < (((rd_T93 l0 x6_1).f3).length : Int) := of_decide_eq_true (by first | (with_reducible assumption) | assumption)
                        obtain ⟨ad194, e194, hx194_0, hx194_1, hx194_2⟩ := at_T94 HR193_3.out x7_2 p194 q194
                        cases e194
                        replace hx194_0 := (HB.out.cell (World.block_lt_of_cell? w _ hx194_0)).trans hx194_0
                        replace hx194_1 := (HB.out.cell (World.block_lt_of_cell? w _ hx194_1)).trans hx194_1
                        replace hx194_2 := (HB.out.cell (World.block_lt_of_cell? w _ hx194_2)).trans hx194_2
                        replace p194 := eq_true p194
                        replace q194 := eq_true q194
                        go_wp2_with (first | ((with_reducible refine gate_dst (N := 8) rfl ?_); refine box_event ?hg (N := 8) ?hd (cs := #[.int .i64 0, .int .i64 0, .int .i64 0]) (t := 94) ?hr ?_; (case hd => rfl); (case hg => rfl); (case hr => first | (go_simp; done) | (go_simp; rfl)); intro gb195 hg w11 hbox hb; have n0_ := Aside0.mk (below_step (by repeat (first | (with_reducible first | exact HB.out | apply below_alloc | apply pw_below_drewN | apply below_drew1) | exact HB.out)) hb); have n1_ := Aside0.mk (hbox); have n2_ := Aside0.mk ((by rw [hg]; exact (below_size (by repeat (first | (with_reducible first | exact HB.out | apply below_alloc | apply pw_below_drewN | apply below_drew1) | exact HB.out))) : w.heap.size ≤ gb195)); have n3_ := Aside0.mk ((by rw [hg]; exact (below_size (by repeat (first | (with_reducible first | exact HB.out | apply below_alloc | apply pw_below_drewN | apply below_drew1) | exact HB.out))) : w.heap.size ≤ gb195)); clear HB; have HB := n0_; have BK195 := n1_; have GW195 := n2_; have GE195 := n3_; clear n0_ n1_ n2_ n3_; clear hb hbox hg; have hcz12_0 : w11.cell? ⟨gb195, 0, none⟩ = some (.int .i64 0) := (blk_cell BK195.out 0).trans rfl; have hcz12_1 : w11.cell? ⟨gb195, 1, none⟩ = some (.int .i64 0) := (blk_cell BK195.out 1).trans rfl; have hcz12_2 : w11.cell? ⟨gb195, 2, none⟩ = some (.int .i64 0) := (blk_cell BK195.out 2).trans rfl; have hfz12_0 := blk_frozen BK195.out 0; have hfz12_1 := blk_frozen BK195.out 1; have hfz12_2 := blk_frozen BK195.out 2) | ((with_reducible refine gate_callee (f := 42) rfl ?_); refine goesL_ (some 38) rfl rfl Try.func42 (by kernel_rfl) rfl #[.slice (some ad192) l0.length c0, .int .i64 ((rd_T94 ((rd_T93 l0 x6_1).f3) x7_2).f0)] rfl (by (try simp only [List.map_toArray, List.map_cons, List.map_nil]); first | done | rfl | (simp only [List.length_drop, List.length_take]; rfl)) ?_; (with_reducible refine (ontimeref43_Ceiling.calls k2 _ _ l0 ((rd_T94 ((rd_T93 l0 x6_1).f3) x7_2).f0) t196 _ ?side1 ?side2 A8.out).mono ?_); (case side1 => exact Kd.C_below HR0.out (by repeat (first | (with_reducible first | exact HB.out | apply below_alloc | apply pw_below_drewN | apply below_drew1 | refine below_set ?_ GE195.out) | exact HB.out))); (case side2 => exact HC0.out); rintro e w' ⟨rfl, ⟨nd, rfl⟩⟩; refine ⟨_, rfl, ?_⟩))
                        go_roundg k2
                        case measure => have := HK1.out; have := HK2.out; omega
                        case rel => exact ⟨(wrap64 ((wrap64 (((rd_T94 ((rd_T93 l0 x6_1).f3) x7_2).f2) - ((rd_T94 ((rd_T93 l0 x6_1).f3) x7_2).f1))) - 1)), (wrap64 (x7_2 + 1)), (by first | rfl | (simp; done) | (simp [*]; done)), (by first | rfl | (simp; done) | (simp [*]; done)), H', ⟨by have := HK1.out; have := HK2.out; omega⟩, ⟨by repeat (first | (with_reducible first | exact HB.out | apply below_alloc | apply pw_below_drewN | apply below_drew1 | refine below_set ?_ GE195.out) | exact HB.out)⟩⟩
                      · rw [if_neg c10] at H
                        have c10b0 : decide (x5_2 < (wrap64 ((wrap64 (((rd_T94 ((rd_T93 l0 x6_1).f3) x7_2).f2) - ((rd_T94 ((rd_T93 l0 x6_1).f3) x7_2).f1))) - 1))) = false := decide_eq_false c10
                        clear c10
                        have H' := Aside0.mk H
                        clear H
                        have p192 : 0 ≤ (x6_1 : Int) := of_decide_eq_true (by first | (with_reducible assumption) | assumption)
                        have q192 : x6_1 < (l0.length : Int) := of_decide_eq_true (by first | (with_reducible assumption) | assumption)
                        obtain ⟨ad192, A192_3, c192_3, e192, hx192_0, hx192_1, hx192_2, hx192_3, hl192_3, hi192_3⟩ := at_T93 HR0.out x6_1 p192 q192
                        cases e192
                        replace hx192_0 := (HB.out.cell (World.block_lt_of_cell? w _ hx192_0)).trans hx192_0
                        replace hx192_1 := (HB.out.cell (World.block_lt_of_cell? w _ hx192_1)).trans hx192_1
                        replace hx192_2 := (HB.out.cell (World.block_lt_of_cell? w _ hx192_2)).trans hx192_2
                        replace hx192_3 := (HB.out.cell (World.block_lt_of_cell? w _ hx192_3)).trans hx192_3
                        have HR192_3 := Aside0.mk hi192_3
                        have HC192_3 := Aside0.mk hl192_3
                        clear hi192_3 hl192_3
                        replace p192 := eq_true p192
                        replace q192 := eq_true q192
                        have p193 : 0 ≤ (x6_1 : Int) := of_decide_eq_true (by first | (with_reducible assumption) | assumption)
                        have q193 : x6_1 < (l0.length : Int) := of_decide_eq_true (by first | (with_reducible assumption) | assumption)
                        obtain ⟨ad193, A193_3, c193_3, e193, hx193_0, hx193_1, hx193_2, hx193_3, hl193_3, hi193_3⟩ := at_T93 HR0.out x6_1 p193 q193
                        obtain rfl : ad192 = ad193 := (by injection e193)
                        replace hx193_0 := (HB.out.cell (World.block_lt_of_cell? w _ hx193_0)).trans hx193_0
                        replace hx193_1 := (HB.out.cell (World.block_lt_of_cell? w _ hx193_1)).trans hx193_1
                        replace hx193_2 := (HB.out.cell (World.block_lt_of_cell? w _ hx193_2)).trans hx193_2
                        replace hx193_3 := (HB.out.cell (World.block_lt_of_cell? w _ hx193_3)).trans hx193_3
                        have HR193_3 := Aside0.mk hi193_3
                        have HC193_3 := Aside0.mk hl193_3
                        clear hi193_3 hl193_3
                        replace p193 := eq_true p193
                        replace q193 := eq_true q193
                        have ea_ := Option.some.inj (hx192_3.symm.trans hx193_3)
                        injection ea_ with ea_ en_ ec_
                        subst ea_
                        subst ec_
                        clear en_
                        have p194 : 0 ≤ (x7_2 : Int) := of_decide_eq_true (by first | (with_reducible assumption) | assumption)
                        have q194 : x7_2 < (((rd_T93 l0 x6_1).f3).length : Int) := of_decide_eq_true (by first | (with_reducible assumption) | assumption)
                        obtain ⟨ad194, e194, hx194_0, hx194_1, hx194_2⟩ := at_T94 HR193_3.out x7_2 p194 q194
                        cases e194
                        replace hx194_0 := (HB.out.cell (World.block_lt_of_cell? w _ hx194_0)).trans hx194_0
                        replace hx194_1 := (HB.out.cell (World.block_lt_of_cell? w _ hx194_1)).trans hx194_1
                        replace hx194_2 := (HB.out.cell (World.block_lt_of_cell? w _ hx194_2)).trans hx194_2
                        replace p194 := eq_true p194
                        replace q194 := eq_true q194
                        go_wp2_with (first | ((with_reducible refine gate_dst (N := 8) rfl ?_); refine box_event ?hg (N := 8) ?hd (cs := #[.int .i64 0, .int .i64 0, .int .i64 0]) (t := 94) ?hr ?_; (case hd => rfl); (case hg => rfl); (case hr => first | (go_simp; done) | (go_simp; rfl)); intro gb195 hg w13 hbox hb; have n0_ := Aside0.mk (below_step (by repeat (first | (with_reducible first | exact HB.out | apply below_alloc | apply pw_below_drewN | apply below_drew1) | exact HB.out)) hb); have n1_ := Aside0.mk (hbox); have n2_ := Aside0.mk ((by rw [hg]; exact (below_size (by repeat (first | (with_reducible first | exact HB.out | apply below_alloc | apply pw_below_drewN | apply below_drew1) | exact HB.out))) : w.heap.size ≤ gb195)); have n3_ := Aside0.mk ((by rw [hg]; exact (below_size (by repeat (first | (with_reducible first | exact HB.out | apply below_alloc | apply pw_below_drewN | apply below_drew1) | exact HB.out))) : w.heap.size ≤ gb195)); clear HB; have HB := n0_; have BK195 := n1_; have GW195 := n2_; have GE195 := n3_; clear n0_ n1_ n2_ n3_; clear hb hbox hg; have hcz14_0 : w13.cell? ⟨gb195, 0, none⟩ = some (.int .i64 0) := (blk_cell BK195.out 0).trans rfl; have hcz14_1 : w13.cell? ⟨gb195, 1, none⟩ = some (.int .i64 0) := (blk_cell BK195.out 1).trans rfl; have hcz14_2 : w13.cell? ⟨gb195, 2, none⟩ = some (.int .i64 0) := (blk_cell BK195.out 2).trans rfl; have hfz14_0 := blk_frozen BK195.out 0; have hfz14_1 := blk_frozen BK195.out 1; have hfz14_2 := blk_frozen BK195.out 2) | ((with_reducible refine gate_callee (f := 42) rfl ?_); refine goesL_ (some 38) rfl rfl Try.func42 (by kernel_rfl) rfl #[.slice (some ad192) l0.length c0, .int .i64 ((rd_T94 ((rd_T93 l0 x6_1).f3) x7_2).f0)] rfl (by (try simp only [List.map_toArray, List.map_cons, List.map_nil]); first | done | rfl | (simp only [List.length_drop, List.length_take]; rfl)) ?_; (with_reducible refine (ontimeref43_Ceiling.calls k2 _ _ l0 ((rd_T94 ((rd_T93 l0 x6_1).f3) x7_2).f0) t196 _ ?side1 ?side2 A8.out).mono ?_); (case side1 => exact Kd.C_below HR0.out (by repeat (first | (with_reducible first | exact HB.out | apply below_alloc | apply pw_below_drewN | apply below_drew1 | refine below_set ?_ GE195.out) | exact HB.out))); (case side2 => exact HC0.out); rintro e w' ⟨rfl, ⟨nd, rfl⟩⟩; refine ⟨_, rfl, ?_⟩))
                        go_roundg k2
                        case measure => have := HK1.out; have := HK2.out; omega
                        case rel => exact ⟨(x5_2), (wrap64 (x7_2 + 1)), (by first | rfl | (simp; done) | (simp [*]; done)), (by first | rfl | (simp; done) | (simp [*]; done)), H', ⟨by have := HK1.out; have := HK2.out; omega⟩, ⟨by repeat (first | (with_reducible first | exact HB.out | apply below_alloc | apply pw_below_drewN | apply below_drew1 | refine below_set ?_ GE195.out) | exact HB.out)⟩⟩
                    · rw [if_neg c9] at H
                      have c9b0 : decide (t196 ≤ a1) = false := decide_eq_false c9
                      clear c9
                      have H' := Aside0.mk H
                      clear H
                      have p192 : 0 ≤ (x6_1 : Int) := of_decide_eq_true (by first | (with_reducible assumption) | assumption)
                      have q192 : x6_1 < (l0.length : Int) := of_decide_eq_true (by first | (with_reducible assumption) | assumption)
                      obtain ⟨ad192, A192_3, c192_3, e192, hx192_0, hx192_1, hx192_2, hx192_3, hl192_3, hi192_3⟩ := at_T93 HR0.out x6_1 p192 q192
                      cases e192
                      replace hx192_0 := (HB.out.cell (World.block_lt_of_cell? w _ hx192_0)).trans hx192_0
                      replace hx192_1 := (HB.out.cell (World.block_lt_of_cell? w _ hx192_1)).trans hx192_1
                      replace hx192_2 := (HB.out.cell (World.block_lt_of_cell? w _ hx192_2)).trans hx192_2
                      replace hx192_3 := (HB.out.cell (World.block_lt_of_cell? w _ hx192_3)).trans hx192_3
                      have HR192_3 := Aside0.mk hi192_3
                      have HC192_3 := Aside0.mk hl192_3
                      clear hi192_3 hl192_3
                      replace p192 := eq_true p192
                      replace q192 := eq_true q192
                      have p193 : 0 ≤ (x6_1 : Int) := of_decide_eq_true (by first | (with_reducible assumption) | assumption)
                      have q193 : x6_1 < (l0.length : Int) := of_decide_eq_true (by first | (with_reducible assumption) | assumption)
                      obtain ⟨ad193, A193_3, c193_3, e193, hx193_0, hx193_1, hx193_2, hx193_3, hl193_3, hi193_3⟩ := at_T93 HR0.out x6_1 p193 q193
                      obtain rfl : ad192 = ad193 := (by injection e193)
                      replace hx193_0 := (HB.out.cell (World.block_lt_of_cell? w _ hx193_0)).trans hx193_0
                      replace hx193_1 := (HB.out.cell (World.block_lt_of_cell? w _ hx193_1)).trans hx193_1
                      replace hx193_2 := (HB.out.cell (World.block_lt_of_cell? w _ hx193_2)).trans hx193_2
                      replace hx193_3 := (HB.out.cell (World.block_lt_of_cell? w _ hx193_3)).trans hx193_3
                      have HR193_3 := Aside0.mk hi193_3
                      have HC193_3 := Aside0.mk hl193_3
                      clear hi193_3 hl193_3
                      replace p193 := eq_true p193
                      replace q193 := eq_true q193
                      have ea_ := Option.some.inj (hx192_3.symm.trans hx193_3)
                      injection ea_ with ea_ en_ ec_
                      subst ea_
                      subst ec_
                      clear en_
                      have p194 : 0 ≤ (x7_2 : Int) := of_decide_eq_true (by first | (with_reducible assumption) | assumption)
                      have q194 : x7_2 < (((rd_T93 l0 x6_1).f3).length : Int) := of_decide_eq_true (by first | (with_reducible assumption) | assumption)
                      obtain ⟨ad194, e194, hx194_0, hx194_1, hx194_2⟩ := at_T94 HR193_3.out x7_2 p194 q194
                      cases e194
                      replace hx194_0 := (HB.out.cell (World.block_lt_of_cell? w _ hx194_0)).trans hx194_0
                      replace hx194_1 := (HB.out.cell (World.block_lt_of_cell? w _ hx194_1)).trans hx194_1
                      replace hx194_2 := (HB.out.cell (World.block_lt_of_cell? w _ hx194_2)).trans hx194_2
                      replace p194 := eq_true p194
                      replace q194 := eq_true q194
                      go_wp2_with (first | ((with_reducible refine gate_dst (N := 8) rfl ?_); refine box_event ?hg (N := 8) ?hd (cs := #[.int .i64 0, .int .i64 0, .int .i64 0]) (t := 94) ?hr ?_; (case hd => rfl); (case hg => rfl); (case hr => first | (go_simp; done) | (go_simp; rfl)); intro gb195 hg w15 hbox hb; have n0_ := Aside0.mk (below_step (by repeat (first | (with_reducible first | exact HB.out | apply below_alloc | apply pw_below_drewN | apply below_drew1) | exact HB.out)) hb); have n1_ := Aside0.mk (hbox); have n2_ := Aside0.mk ((by rw [hg]; exact (below_size (by repeat (first | (with_reducible first | exact HB.out | apply below_alloc | apply pw_below_drewN | apply below_drew1) | exact HB.out))) : w.heap.size ≤ gb195)); have n3_ := Aside0.mk ((by rw [hg]; exact (below_size (by repeat (first | (with_reducible first | exact HB.out | apply below_alloc | apply pw_below_drewN | apply below_drew1) | exact HB.out))) : w.heap.size ≤ gb195)); clear HB; have HB := n0_; have BK195 := n1_; have GW195 := n2_; have GE195 := n3_; clear n0_ n1_ n2_ n3_; clear hb hbox hg; have hcz16_0 : w15.cell? ⟨gb195, 0, none⟩ = some (.int .i64 0) := (blk_cell BK195.out 0).trans rfl; have hcz16_1 : w15.cell? ⟨gb195, 1, none⟩ = some (.int .i64 0) := (blk_cell BK195.out 1).trans rfl; have hcz16_2 : w15.cell? ⟨gb195, 2, none⟩ = some (.int .i64 0) := (blk_cell BK195.out 2).trans rfl; have hfz16_0 := blk_frozen BK195.out 0; have hfz16_1 := blk_frozen BK195.out 1; have hfz16_2 := blk_frozen BK195.out 2) | ((with_reducible refine gate_callee (f := 42) rfl ?_); refine goesL_ (some 38) rfl rfl Try.func42 (by kernel_rfl) rfl #[.slice (some ad192) l0.length c0, .int .i64 ((rd_T94 ((rd_T93 l0 x6_1).f3) x7_2).f0)] rfl (by (try simp only [List.map_toArray, List.map_cons, List.map_nil]); first | done | rfl | (simp only [List.length_drop, List.length_take]; rfl)) ?_; (with_reducible refine (ontimeref43_Ceiling.calls k2 _ _ l0 ((rd_T94 ((rd_T93 l0 x6_1).f3) x7_2).f0) t196 _ ?side1 ?side2 A8.out).mono ?_); (case side1 => exact Kd.C_below HR0.out (by repeat (first | (with_reducible first | exact HB.out | apply below_alloc | apply pw_below_drewN | apply below_drew1 | refine below_set ?_ GE195.out) | exact HB.out))); (case side2 => exact HC0.out); rintro e w' ⟨rfl, ⟨nd, rfl⟩⟩; refine ⟨_, rfl, ?_⟩))
                      go_roundg k2
                      case measure => have := HK1.out; have := HK2.out; omega
                      case rel => exact ⟨(x5_2), (wrap64 (x7_2 + 1)), (by first | rfl | (simp; done) | (simp [*]; done)), (by first | rfl | (simp; done) | (simp [*]; done)), H', ⟨by have := HK1.out; have := HK2.out; omega⟩, ⟨by repeat (first | (with_reducible first | exact HB.out | apply below_alloc | apply pw_below_drewN | apply below_drew1 | refine below_set ?_ GE195.out) | exact HB.out)⟩⟩
                  · rw [if_neg c7] at H
                    exact absurd H (by simp)
                · rw [if_neg c6] at H
                  have c6b0 : decide (x7_2 < (((rd_T93 l0 x6_1).f3).length : Int)) = false := decide_eq_false c6
                  clear c6
                  have H' := Aside0.mk H
                  clear H
                  have p192 : 0 ≤ (x6_1 : Int) := of_decide_eq_true (by first | (with_reducible assumption) | assumption)
                  have q192 : x6_1 < (l0.length : Int) := of_decide_eq_true (by first | (with_reducible assumption) | assumption)
                  obtain ⟨ad192, A192_3, c192_3, e192, hx192_0, hx192_1, hx192_2, hx192_3, hl192_3, hi192_3⟩ := at_T93 HR0.out x6_1 p192 q192
                  cases e192
                  replace hx192_0 := (HB.out.cell (World.block_lt_of_cell? w _ hx192_0)).trans hx192_0
                  replace hx192_1 := (HB.out.cell (World.block_lt_of_cell? w _ hx192_1)).trans hx192_1
                  replace hx192_2 := (HB.out.cell (World.block_lt_of_cell? w _ hx192_2)).trans hx192_2
                  replace hx192_3 := (HB.out.cell (World.block_lt_of_cell? w _ hx192_3)).trans hx192_3
                  have HR192_3 := Aside0.mk hi192_3
                  have HC192_3 := Aside0.mk hl192_3
                  clear hi192_3 hl192_3
                  replace p192 := eq_true p192
                  replace q192 := eq_true q192
                  go_wp2
                  go_roundg k2
                  case measure => have := HK1.out; have := HK2.out; omega
                  case rel => exact ⟨(x5_2), (wrap64 (x6_1 + 1)), (by first | rfl | (simp; done) | (simp [*]; done)), (by first | rfl | (simp; done) | (simp [*]; done)), H', ⟨by have := HK1.out; have := HK2.out; omega⟩, ⟨by repeat (first | (with_reducible first | exact HB.out | apply below_alloc | apply pw_below_drewN | apply below_drew1) | exact HB.out)⟩⟩
              · rw [if_neg c5] at H
                exact absurd H (by simp)
            · rw [if_neg c4] at H
              exact absurd H (by simp)
      · rw [if_neg c3] at H
        have c3b0 : decide (x6_1 < (l0.length : Int)) = false := decide_eq_false c3
        clear c3
        obtain rfl := Option.some.inj H
        go_wp2
        go_ret
        exact ⟨by first | rfl | (simp [errW_none, errW_some] <;> rfl) | (simp [*, errW_none, errW_some] <;> rfl), by repeat (first | (with_reducible first | exact HB.out | apply below_alloc | apply pw_below_drewN | apply below_drew1) | exact HB.out)⟩

end Go.Proofs.Ytbhmaijmdkpmlaa.P
