-- Written by wip/gen.py: the kit's print, with contracts of mine in it.
import Derived.Test.YtbhmaijmdkpmlaaPx0
namespace Go.Proofs.Ytbhmaijmdkpmlaa.P
open Go.RowKit Go.Proofs.YtbhmaijmdkpmlaaW.PrintWords Go.Proofs.YtbhmaijmdkpmlaaW.PrintLast Go.Proofs.YtbhmaijmdkpmlaaW.PrintMore
attribute [local go_sem] max2_int min2_int max_two min_two max_three min_three max_four min_four   -- for this text's walks alone
set_option linter.unusedVariables false
set_option linter.unusedSimpArgs false

/-! ### ontimelaw44_plain: function 27 -/
mutual
def ontimelaw44_plain.l0 : Nat → List (S93) → List (S49) → Int → Int → Option ((List (S93)))
  | 0, _, _, _, _ => none
  | k + 1, x3, x9, x10, x11 => if x11 < x10 then (if 0 ≤ x11 then (if x11 < (x9.length : Int) then (ontimelaw44_plain.l1 k x3 x9 x10 x11 ((rd_T49 x9 x11).f3) (((rd_T49 x9 x11).f3).length : Int) 0 ((rd_T49 x9 x11).f0) ((rd_T49 x9 x11).f1) ((rd_T49 x9 x11).f2) ([] : List (S94))) else (none)) else (none)) else (some x3)
def ontimelaw44_plain.l1 : Nat → List (S93) → List (S49) → Int → Int → List (S68) → Int → Int → Int → Int → Int → List (S94) → Option ((List (S93)))
  | 0, _, _, _, _, _, _, _, _, _, _, _ => none
  | k + 1, x3, x9, x10, x11, x23, x24, x25, x200000, x200001, x200002, x200003 => if x25 < x24 then (if 0 ≤ x25 then (if x25 < (x23.length : Int) then (if x200003.length < 5864062014805 then (ontimelaw44_plain.l1 k x3 x9 x10 x11 x23 x24 (wrap64 (x25 + 1)) x200000 x200001 x200002 (x200003 ++ [(⟨(rd_T68 x23 x25).f0, (rd_T68 x23 x25).f1, (rd_T68 x23 x25).f2⟩ : S94)])) else (none)) else (none)) else (none)) else (if x3.length < 2932031007402 then (ontimelaw44_plain.l0 k (x3 ++ [(⟨x200000, x200001, x200002, x200003⟩ : S93)]) x9 x10 (wrap64 (x11 + 1))) else (none))
end
def ontimelaw44_plain.f (k : Nat) (l0 : List (S49)) : Option ((List (S93))) := ontimelaw44_plain.l0 k ([] : List (S93)) l0 (l0.length : Int) 0
theorem ontimelaw44_plain.mono_l : ∀ k, (∀ y0 y1 y2 y3, LeO (ontimelaw44_plain.l0 k y0 y1 y2 y3) (ontimelaw44_plain.l0 (k + 1) y0 y1 y2 y3)) ∧ (∀ y0 y1 y2 y3 y4 y5 y6 y7 y8 y9 y10, LeO (ontimelaw44_plain.l1 k y0 y1 y2 y3 y4 y5 y6 y7 y8 y9 y10) (ontimelaw44_plain.l1 (k + 1) y0 y1 y2 y3 y4 y5 y6 y7 y8 y9 y10))
  | 0 => ⟨fun _ _ _ _ r h => by simp [ontimelaw44_plain.l0] at h, fun _ _ _ _ _ _ _ _ _ _ _ r h => by simp [ontimelaw44_plain.l1] at h⟩
  | k + 1 => by
    obtain ⟨ih0, ih1⟩ := ontimelaw44_plain.mono_l k
    refine ⟨?_, ?_⟩
    · intro y0 y1 y2 y3
      unfold ontimelaw44_plain.l0
      repeat' first
      | (with_reducible exact ih0 _ _ _ _)
      | (with_reducible exact ih1 _ _ _ _ _ _ _ _ _ _ _)
      | (with_reducible exact LeO.refl _)
      | (with_reducible exact LeO.none _)
      | (with_reducible refine LeO.ite ?_ ?_)
      | (with_reducible refine LeO.bind ?_ (fun _ => ?_))
      | exact ih0 _ _ _ _
      | exact ih1 _ _ _ _ _ _ _ _ _ _ _
      | exact LeO.none _
      | refine LeO.ite ?_ ?_
      | refine LeO.bind ?_ (fun _ => ?_)
    · intro y0 y1 y2 y3 y4 y5 y6 y7 y8 y9 y10
      unfold ontimelaw44_plain.l1
      repeat' first
      | (with_reducible exact ih0 _ _ _ _)
      | (with_reducible exact ih1 _ _ _ _ _ _ _ _ _ _ _)
      | (with_reducible exact LeO.refl _)
      | (with_reducible exact LeO.none _)
      | (with_reducible refine LeO.ite ?_ ?_)
      | (with_reducible refine LeO.bind ?_ (fun _ => ?_))
      | exact ih0 _ _ _ _
      | exact ih1 _ _ _ _ _ _ _ _ _ _ _
      | exact LeO.none _
      | refine LeO.ite ?_ ?_
      | refine LeO.bind ?_ (fun _ => ?_)
theorem ontimelaw44_plain.mono : ∀ a0 k, LeO (ontimelaw44_plain.f k a0) (ontimelaw44_plain.f (k + 1) a0) := by
  intro a0 k
  obtain ⟨ih0, ih1⟩ := ontimelaw44_plain.mono_l k
  unfold ontimelaw44_plain.f
  repeat' first
      | (with_reducible exact ih0 _ _ _ _)
      | (with_reducible exact ih1 _ _ _ _ _ _ _ _ _ _ _)
      | (with_reducible exact LeO.refl _)
      | (with_reducible exact LeO.none _)
      | (with_reducible refine LeO.ite ?_ ?_)
      | (with_reducible refine LeO.bind ?_ (fun _ => ?_))
      | exact ih0 _ _ _ _
      | exact ih1 _ _ _ _ _ _ _ _ _ _ _
      | exact LeO.none _
      | refine LeO.ite ?_ ?_
      | refine LeO.bind ?_ (fun _ => ?_)
set_option maxHeartbeats 8000000 in
set_option maxRecDepth 100000 in
theorem ontimelaw44_plain.calls (k : Nat) (A0 : Option Addr) (c0 : Nat) (l0 : List (S49)) (r : List (S93)) (w : World) (hr0 : Kd.C k49 w A0 l0.length l0) (hc0 : l0.length ≤ c0) (h : ontimelaw44_plain.f k l0 = some r) :
    Calls Try.prog 27 #[.slice A0 l0.length c0] w fun e w' => ∃ v0_ : Value, e = .returned (v0_) ∧ Kd.S k93 93 w' w.heap.size (fun _ => True) v0_ r ∧ Below w.heap.size w w' := by
  have hu49 := Try.underlying49
  have hu93 := Try.underlying93
  have hu68 := Try.underlying68
  have hu94 := Try.underlying94
  have HR0 := Aside0.mk hr0
  have HC0 := Aside0.mk hc0
  clear hr0 hc0
  have HB := Aside0.mk (Below.refl w.heap.size w)
  have H : (ontimelaw44_plain.l0 k ([] : List (S93)) l0 (l0.length : Int) 0) = some r := h
  clear h
  have H' := Aside0.mk H
  clear H
  go_enter Try.func27, Try.ntmps27
  go_wp2
  go_loopg [3, 11] k (fun kq v3 v11 w' => ∃ (x3_1 : List (S93)) (x11_1 : Int), v11 = .int .i64 x11_1 ∧ Aside0 (ontimelaw44_plain.l0 kq x3_1 l0 (l0.length : Int) x11_1 = some r) ∧ Aside0 (kq ≤ k) ∧ Aside0 (Kd.S k93 93 w' w.heap.size (fun _ => True) v3 x3_1) ∧ Aside0 (Below w.heap.size w w'))
  case atStart => exact ⟨(([] : List (S93))), (0), (by first | rfl | (simp; done) | (simp [*]; done)), H', ⟨Nat.le_refl _⟩, ⟨by first | exact Kd.S_nil _ _ _ _ _ | exact Kd.N_nil _ _ _ _ _ | exact Kd.V_nil _ _ _ _ _ | exact Kd.Q_nil _ _ _ _ _ | exact Kd.R_nil _ _ _ _ _⟩, ⟨by repeat (first | (with_reducible first | exact HB.out | apply below_alloc | apply pw_below_drewN | apply below_drew1) | exact HB.out)⟩⟩
  case round =>
    clear H'
    obtain ⟨x3_1, x11_1, rfl, HA, HK1, HO_3, HB⟩ := hrel
    cases gk with
    | zero => exact absurd HA.out (by simp [ontimelaw44_plain.l0])
    | succ k1 =>
      have H := HA.out
      clear HA
      simp only [ontimelaw44_plain.l0] at H
      by_cases c2 : x11_1 < (l0.length : Int)
      · rw [if_pos c2] at H
        have c2b0 : decide (x11_1 < (l0.length : Int)) = true := decide_eq_true c2
        clear c2
        by_cases c3 : 0 ≤ x11_1
        · rw [if_pos c3] at H
          have c3b0 : decide (0 ≤ x11_1) = true := decide_eq_true c3
          clear c3
          by_cases c4 : x11_1 < (l0.length : Int)
          · rw [if_pos c4] at H
            have c4b0 : decide (x11_1 < (l0.length : Int)) = true := decide_eq_true c4
            clear c4
            have H' := Aside0.mk H
            clear H
            have p197 : 0 ≤ (x11_1 : Int) := of_decide_eq_true (by first | (with_reducible assumption) | assumption)
            have q197 : x11_1 < (l0.length : Int) := of_decide_eq_true (by first | (with_reducible assumption) | assumption)
            obtain ⟨ad197, A197_3, c197_3, e197, hx197_0, hx197_1, hx197_2, hx197_3, hl197_3, hi197_3⟩ := at_T49 HR0.out x11_1 p197 q197
            cases e197
            replace hx197_0 := (HB.out.cell (World.block_lt_of_cell? w _ hx197_0)).trans hx197_0
            replace hx197_1 := (HB.out.cell (World.block_lt_of_cell? w _ hx197_1)).trans hx197_1
            replace hx197_2 := (HB.out.cell (World.block_lt_of_cell? w _ hx197_2)).trans hx197_2
            replace hx197_3 := (HB.out.cell (World.block_lt_of_cell? w _ hx197_3)).trans hx197_3
            have HR197_3 := Aside0.mk hi197_3
            have HC197_3 := Aside0.mk hl197_3
            clear hi197_3 hl197_3
            replace p197 := eq_true p197
            replace q197 := eq_true q197
            go_wp2_with (first | ((with_reducible refine gate_dst (N := 5) rfl ?_); refine box_event ?hg (N := 5) ?hd (cs := #[.int .i64 0, .int .i64 0, .int .i64 0, .slice none 0 0]) (t := 49) ?hr ?_; (case hd => rfl); (case hg => rfl); (case hr => first | (go_simp; done) | (go_simp; rfl)); intro gb198 hg w5 hbox hb; have n0_ := Aside0.mk (Kd.S_below (by (with_reducible repeat (first | apply Kd.S_alloc | apply Kd.S_drewN | apply Kd.S_drew)); exact HO_3.out) hb); have n1_ := Aside0.mk (below_step (by repeat (first | (with_reducible first | exact HB.out | apply below_alloc | apply pw_below_drewN | apply below_drew1) | exact HB.out)) hb); have n2_ := Aside0.mk (hbox); have n3_ := Aside0.mk ((by rw [hg]; exact (below_size (by repeat (first | (with_reducible first | exact HB.out | apply below_alloc | apply pw_below_drewN | apply below_drew1) | exact HB.out))) : w.heap.size ≤ gb198)); have n4_ := Aside0.mk ((by rw [hg]; exact (below_size (by repeat (first | (with_reducible first | exact HB.out | apply below_alloc | apply pw_below_drewN | apply below_drew1) | exact HB.out))) : w.heap.size ≤ gb198)); clear HO_3; clear HB; have HO_3 := n0_; have HB := n1_; have BK198 := n2_; have GW198 := n3_; have GE198 := n4_; clear n0_ n1_ n2_ n3_ n4_; clear hb hbox hg; have hcz6_0 : w5.cell? ⟨gb198, 0, none⟩ = some (.int .i64 0) := (blk_cell BK198.out 0).trans rfl; have hcz6_1 : w5.cell? ⟨gb198, 1, none⟩ = some (.int .i64 0) := (blk_cell BK198.out 1).trans rfl; have hcz6_2 : w5.cell? ⟨gb198, 2, none⟩ = some (.int .i64 0) := (blk_cell BK198.out 2).trans rfl; have hcz6_3 : w5.cell? ⟨gb198, 3, none⟩ = some (.slice none 0 0) := (blk_cell BK198.out 3).trans rfl; have hfz6_0 := blk_frozen BK198.out 0; have hfz6_1 := blk_frozen BK198.out 1; have hfz6_2 := blk_frozen BK198.out 2; have hfz6_3 := blk_frozen BK198.out 3) | ((with_reducible refine gate_dst (N := 6) rfl ?_); refine box_event ?hg (N := 6) ?hd (cs := #[.int .i64 0, .int .i64 0, .int .i64 0, .slice none 0 0]) (t := 93) ?hr ?_; (case hd => rfl); (case hg => rfl); (case hr => first | (go_simp; done) | (go_simp; rfl)); intro gb199 hg w7 hbox hb; have n0_ := Aside0.mk (Kd.S_below (Kd.S_elderB (by (with_reducible repeat (first | apply Kd.S_alloc | apply Kd.S_drewN | apply Kd.S_drew)); exact (Kd.S_mono (Kd.S_far (p := ⟨gb198, 3, none⟩) (Kd.S_far (p := ⟨gb198, 2, none⟩) (Kd.S_far (p := ⟨gb198, 1, none⟩) (Kd.S_far (p := ⟨gb198, 0, none⟩) (Kd.S_types HO_3.out BK198.out (by decide)) (fun _ hk => hk.2) (.int .i64 ((rd_T49 l0 x11_1).f0))) (fun _ hk => hk.2) (.int .i64 ((rd_T49 l0 x11_1).f1))) (fun _ hk => hk.2) (.int .i64 ((rd_T49 l0 x11_1).f2))) (fun _ hk => hk.2) (.slice A197_3 ((rd_T49 l0 x11_1).f3).length c197_3)) (fun _ h_ => h_.1))) gb199 (Nat.le_of_eq hg.symm)) hb); have n1_ := Aside0.mk (blk_below (g := gb198) (o := .cells #[.int .i64 ((rd_T49 l0 x11_1).f0), .int .i64 ((rd_T49 l0 x11_1).f1), .int .i64 ((rd_T49 l0 x11_1).f2), .slice A197_3 ((rd_T49 l0 x11_1).f3).length c197_3] 49 (0, 0)) (by (with_reducible repeat (first | refine blk_drewN ?_ _ | refine blk_drew ?_ | refine blk_alloc ?_ _)); refine blk_put (cs := #[.int .i64 ((rd_T49 l0 x11_1).f0), .int .i64 ((rd_T49 l0 x11_1).f1), .int .i64 ((rd_T49 l0 x11_1).f2), .slice none 0 0]) ?_ 3 _ rfl; (with_reducible repeat (first | refine blk_drewN ?_ _ | refine blk_drew ?_ | refine blk_alloc ?_ _)); refine blk_put (cs := #[.int .i64 ((rd_T49 l0 x11_1).f0), .int .i64 ((rd_T49 l0 x11_1).f1), .int .i64 0, .slice none 0 0]) ?_ 2 _ rfl; (with_reducible repeat (first | refine blk_drewN ?_ _ | refine blk_drew ?_ | refine blk_alloc ?_ _)); refine blk_put (cs := #[.int .i64 ((rd_T49 l0 x11_1).f0), .int .i64 0, .int .i64 0, .slice none 0 0]) ?_ 1 _ rfl; (with_reducible repeat (first | refine blk_drewN ?_ _ | refine blk_drew ?_ | refine blk_alloc ?_ _)); refine blk_put (cs := #[.int .i64 0, .int .i64 0, .int .i64 0, .slice none 0 0]) ?_ 0 _ rfl; (with_reducible repeat (first | refine blk_drewN ?_ _ | refine blk_drew ?_ | refine blk_alloc ?_ _)); exact BK198.out) hb); have n2_ := Aside0.mk (below_step (by repeat (first | (with_reducible first | exact HB.out | apply below_alloc | apply pw_below_drewN | apply below_drew1 | refine below_set ?_ GE198.out) | exact HB.out)) hb); have n3_ := Aside0.mk (hbox); have n4_ := Aside0.mk ((by rw [hg]; exact (below_size (by repeat (first | (with_reducible first | exact HB.out | apply below_alloc | apply pw_below_drewN | apply below_drew1 | refine below_set ?_ GE198.out) | exact HB.out))) : w.heap.size ≤ gb199)); have n5_ := Aside0.mk ((by rw [hg]; exact (below_size (by repeat (first | (with_reducible first | exact HB.out | apply below_alloc | apply pw_below_drewN | apply below_drew1 | refine below_set ?_ GE198.out) | exact HB.out))) : w.heap.size ≤ gb199)); have n6_ := Aside0.mk ((by rw [hg]; exact Nat.ne_of_lt (blk_lt (g := gb198) (o := .cells #[.int .i64 ((rd_T49 l0 x11_1).f0), .int .i64 ((rd_T49 l0 x11_1).f1), .int .i64 ((rd_T49 l0 x11_1).f2), .slice A197_3 ((rd_T49 l0 x11_1).f3).length c197_3] 49 (0, 0)) (by (with_reducible repeat (first | refine blk_drewN ?_ _ | refine blk_drew ?_ | refine blk_alloc ?_ _)); refine blk_put (cs := #[.int .i64 ((rd_T49 l0 x11_1).f0), .int .i64 ((rd_T49 l0 x11_1).f1), .int .i64 ((rd_T49 l0 x11_1).f2), .slice none 0 0]) ?_ 3 _ rfl; (with_reducible repeat (first | refine blk_drewN ?_ _ | refine blk_drew ?_ | refine blk_alloc ?_ _)); refine blk_put (cs := #[.int .i64 ((rd_T49 l0 x11_1).f0), .int .i64 ((rd_T49 l0 x11_1).f1), .int .i64 0, .slice none 0 0]) ?_ 2 _ rfl; (with_reducible repeat (first | refine blk_drewN ?_ _ | refine blk_drew ?_ | refine blk_alloc ?_ _)); refine blk_put (cs := #[.int .i64 ((rd_T49 l0 x11_1).f0), .int .i64 0, .int .i64 0, .slice none 0 0]) ?_ 1 _ rfl; (with_reducible repeat (first | refine blk_drewN ?_ _ | refine blk_drew ?_ | refine blk_alloc ?_ _)); refine blk_put (cs := #[.int .i64 0, .int .i64 0, .int .i64 0, .slice none 0 0]) ?_ 0 _ rfl; (with_reducible repeat (first | refine blk_drewN ?_ _ | refine blk_drew ?_ | refine blk_alloc ?_ _)); exact BK198.out)) : gb198 ≠ gb199)); have n7_ := Aside0.mk ((by rw [hg]; exact Nat.ne_of_gt (blk_lt (g := gb198) (o := .cells #[.int .i64 ((rd_T49 l0 x11_1).f0), .int .i64 ((rd_T49 l0 x11_1).f1), .int .i64 ((rd_T49 l0 x11_1).f2), .slice A197_3 ((rd_T49 l0 x11_1).f3).length c197_3] 49 (0, 0)) (by (with_reducible repeat (first | refine blk_drewN ?_ _ | refine blk_drew ?_ | refine blk_alloc ?_ _)); refine blk_put (cs := #[.int .i64 ((rd_T49 l0 x11_1).f0), .int .i64 ((rd_T49 l0 x11_1).f1), .int .i64 ((rd_T49 l0 x11_1).f2), .slice none 0 0]) ?_ 3 _ rfl; (with_reducible repeat (first | refine blk_drewN ?_ _ | refine blk_drew ?_ | refine blk_alloc ?_ _)); refine blk_put (cs := #[.int .i64 ((rd_T49 l0 x11_1).f0), .int .i64 ((rd_T49 l0 x11_1).f1), .int .i64 0, .slice none 0 0]) ?_ 2 _ rfl; (with_reducible repeat (first | refine blk_drewN ?_ _ | refine blk_drew ?_ | refine blk_alloc ?_ _)); refine blk_put (cs := #[.int .i64 ((rd_T49 l0 x11_1).f0), .int .i64 0, .int .i64 0, .slice none 0 0]) ?_ 1 _ rfl; (with_reducible repeat (first | refine blk_drewN ?_ _ | refine blk_drew ?_ | refine blk_alloc ?_ _)); refine blk_put (cs := #[.int .i64 0, .int .i64 0, .int .i64 0, .slice none 0 0]) ?_ 0 _ rfl; (with_reducible repeat (first | refine blk_drewN ?_ _ | refine blk_drew ?_ | refine blk_alloc ?_ _)); exact BK198.out)) : gb199 ≠ gb198)); clear HO_3; clear BK198; clear HB; have HO_3 := n0_; have BK198 := n1_; have HB := n2_; have BK199 := n3_; have GW199 := n4_; have GE199 := n5_; have NB198_199 := n6_; have NB199_198 := n7_; clear n0_ n1_ n2_ n3_ n4_ n5_ n6_ n7_; clear hb hbox hg; have hnb8 := NB199_198.out; have hnc8 := NB198_199.out; have hcz9_0 : w7.cell? ⟨gb199, 0, none⟩ = some (.int .i64 0) := (blk_cell BK199.out 0).trans rfl; have hcz9_1 : w7.cell? ⟨gb199, 1, none⟩ = some (.int .i64 0) := (blk_cell BK199.out 1).trans rfl; have hcz9_2 : w7.cell? ⟨gb199, 2, none⟩ = some (.int .i64 0) := (blk_cell BK199.out 2).trans rfl; have hcz9_3 : w7.cell? ⟨gb199, 3, none⟩ = some (.slice none 0 0) := (blk_cell BK199.out 3).trans rfl; have hfz9_0 := blk_frozen BK199.out 0; have hfz9_1 := blk_frozen BK199.out 1; have hfz9_2 := blk_frozen BK199.out 2; have hfz9_3 := blk_frozen BK199.out 3; have hcz10_0 : w7.cell? ⟨gb198, 0, none⟩ = some (.int .i64 ((rd_T49 l0 x11_1).f0)) := (blk_cell BK198.out 0).trans rfl; have hcz10_1 : w7.cell? ⟨gb198, 1, none⟩ = some (.int .i64 ((rd_T49 l0 x11_1).f1)) := (blk_cell BK198.out 1).trans rfl; have hcz10_2 : w7.cell? ⟨gb198, 2, none⟩ = some (.int .i64 ((rd_T49 l0 x11_1).f2)) := (blk_cell BK198.out 2).trans rfl; have hcz10_3 : w7.cell? ⟨gb198, 3, none⟩ = some (.slice A197_3 ((rd_T49 l0 x11_1).f3).length c197_3) := (blk_cell BK198.out 3).trans rfl; have hfz10_0 := blk_frozen BK198.out 0; have hfz10_1 := blk_frozen BK198.out 1; have hfz10_2 := blk_frozen BK198.out 2; have hfz10_3 := blk_frozen BK198.out 3))
            go_loopg [25] k1 (fun kq v25 w' => ∃ (x25_2 : Int) (x200003_2 : List (S94)) (u200003 : Value), v25 = .int .i64 x25_2 ∧ Aside0 (ontimelaw44_plain.l1 kq x3_1 l0 (l0.length : Int) x11_1 ((rd_T49 l0 x11_1).f3) (((rd_T49 l0 x11_1).f3).length : Int) x25_2 ((rd_T49 l0 x11_1).f0) ((rd_T49 l0 x11_1).f1) ((rd_T49 l0 x11_1).f2) x200003_2 = some r) ∧ Aside0 (kq ≤ k1) ∧ Aside0 (Kd.S k93 93 w' w.heap.size (fun k_ => some k_ ≠ (u200003 : Value).ownBlock ∧ k_ ≠ gb199) u3 x3_1) ∧ Aside0 (Kd.R k94 94 w' w.heap.size (fun _ => True) u200003 x200003_2) ∧ Aside0 (w'.heap[gb198]? = some (.cells #[.int .i64 ((rd_T49 l0 x11_1).f0), .int .i64 ((rd_T49 l0 x11_1).f1), .int .i64 ((rd_T49 l0 x11_1).f2), (.slice A197_3 ((rd_T49 l0 x11_1).f3).length c197_3)] 49 (0, 0))) ∧ Aside0 (w'.heap[gb199]? = some (.cells #[.int .i64 ((rd_T49 l0 x11_1).f0), .int .i64 ((rd_T49 l0 x11_1).f1), .int .i64 ((rd_T49 l0 x11_1).f2), u200003] 93 (0, 0))) ∧ Aside0 (Below w.heap.size w w'))
            case atStart => exact ⟨(0), (([] : List (S94))), (.slice none 0 0), (by first | rfl | (simp; done) | (simp [*]; done)), H', ⟨Nat.le_refl _⟩, ⟨by (with_reducible repeat (first | apply Kd.S_alloc | apply Kd.S_drewN | apply Kd.S_drew)); exact Kd.S_mono (Kd.S_far (p := ⟨gb199, 3, none⟩) (Kd.S_far (p := ⟨gb199, 2, none⟩) (Kd.S_far (p := ⟨gb199, 1, none⟩) (Kd.S_far (p := ⟨gb199, 0, none⟩) (Kd.S_mono HO_3.out (fun k_ hk => (⟨hk, hk.2⟩ : _ ∧ k_ ≠ gb199))) (fun _ hk => hk.2) (.int .i64 ((rd_T49 l0 x11_1).f0))) (fun _ hk => hk.2) (.int .i64 ((rd_T49 l0 x11_1).f1))) (fun _ hk => hk.2) (.int .i64 ((rd_T49 l0 x11_1).f2))) (fun _ hk => hk.2) (.slice none 0 0)) (fun _ hk => ⟨(by simp [Value.ownBlock]), hk.1.2⟩)⟩, ⟨by first | exact Kd.R_nil _ _ _ _ _ | exact Kd.N_nil _ _ _ _ _ | exact Kd.V_nil _ _ _ _ _ | exact Kd.Q_nil _ _ _ _ _ | exact Kd.S_nil _ _ _ _ _⟩, ⟨by (with_reducible repeat (first | refine blk_drewN ?_ _ | refine blk_drew ?_ | refine blk_alloc ?_ _)); refine blk_far ?_ NB198_199.out _; (with_reducible repeat (first | refine blk_drewN ?_ _ | refine blk_drew ?_ | refine blk_alloc ?_ _)); refine blk_far ?_ NB198_199.out _; (with_reducible repeat (first | refine blk_drewN ?_ _ | refine blk_drew ?_ | refine blk_alloc ?_ _)); refine blk_far ?_ NB198_199.out _; (with_reducible repeat (first | refine blk_drewN ?_ _ | refine blk_drew ?_ | refine blk_alloc ?_ _)); refine blk_far ?_ NB198_199.out _; (with_reducible repeat (first | refine blk_drewN ?_ _ | refine blk_drew ?_ | refine blk_alloc ?_ _)); exact BK198.out⟩, ⟨by (with_reducible repeat (first | refine blk_drewN ?_ _ | refine blk_drew ?_ | refine blk_alloc ?_ _)); refine blk_put (cs := #[.int .i64 ((rd_T49 l0 x11_1).f0), .int .i64 ((rd_T49 l0 x11_1).f1), .int .i64 ((rd_T49 l0 x11_1).f2), .slice none 0 0]) ?_ 3 _ rfl; (with_reducible repeat (first | refine blk_drewN ?_ _ | refine blk_drew ?_ | refine blk_alloc ?_ _)); refine blk_put (cs := #[.int .i64 ((rd_T49 l0 x11_1).f0), .int .i64 ((rd_T49 l0 x11_1).f1), .int .i64 0, .slice none 0 0]) ?_ 2 _ rfl; (with_reducible repeat (first | refine blk_drewN ?_ _ | refine blk_drew ?_ | refine blk_alloc ?_ _)); refine blk_put (cs := #[.int .i64 ((rd_T49 l0 x11_1).f0), .int .i64 0, .int .i64 0, .slice none 0 0]) ?_ 1 _ rfl; (with_reducible repeat (first | refine blk_drewN ?_ _ | refine blk_drew ?_ | refine blk_alloc ?_ _)); refine blk_put (cs := #[.int .i64 0, .int .i64 0, .int .i64 0, .slice none 0 0]) ?_ 0 _ rfl; (with_reducible repeat (first | refine blk_drewN ?_ _ | refine blk_drew ?_ | refine blk_alloc ?_ _)); exact BK199.out⟩, ⟨by repeat (first | (with_reducible first | exact HB.out | apply below_alloc | apply pw_below_drewN | apply below_drew1 | refine below_set ?_ GE198.out | refine below_set ?_ GE199.out) | exact HB.out)⟩⟩
            case round =>
              clear H'
              try clear c1
              try clear p1
              try clear q1
              try clear hx1
              try clear c2
              try clear c2b0
              try clear p2
              try clear c3
              try clear c3b0
              try clear c4
              try clear c4b0
              try clear c8
              try clear hcz10_0
              try clear hcz10_1
              try clear hcz10_2
              try clear hcz10_3
              try clear hcz6_0
              try clear hcz6_1
              try clear hcz6_2
              try clear hcz6_3
              try clear hcz9_0
              try clear hcz9_1
              try clear hcz9_2
              try clear hcz9_3
              try clear hfz10_0
              try clear hfz10_1
              try clear hfz10_2
              try clear hfz10_3
              try clear hfz6_0
              try clear hfz6_1
              try clear hfz6_2
              try clear hfz6_3
              try clear hfz9_0
              try clear hfz9_1
              try clear hfz9_2
              try clear hfz9_3
              try clear hx197_0
              try clear hx197_1
              try clear hx197_2
              try clear hx197_3
              try clear p197
              try clear q197
              obtain ⟨x25_2, x200003_2, u200003, rfl, HA, HK2, HO_3, HO_200003, BK198, BK199, HB⟩ := hrel
              cases gk with
              | zero => exact absurd HA.out (by simp [ontimelaw44_plain.l1])
              | succ k2 =>
                have H := HA.out
                clear HA
                simp only [ontimelaw44_plain.l1] at H
                by_cases c11 : x25_2 < (((rd_T49 l0 x11_1).f3).length : Int)
                · rw [if_pos c11] at H
                  have c11b0 : decide (x25_2 < (((rd_T49 l0 x11_1).f3).length : Int)) = true := decide_eq_true c11
                  clear c11
                  by_cases c12 : 0 ≤ x25_2
                  · rw [if_pos c12] at H
                    have c12b0 : decide (0 ≤ x25_2) = true := decide_eq_true c12
                    clear c12
                    by_cases c13 : x25_2 < (((rd_T49 l0 x11_1).f3).length : Int)
                    · rw [if_pos c13] at H
                      have c13b0 : decide (x25_2 < (((rd_T49 l0 x11_1).f3).length : Int)) = true := decide_eq_true c13
                      clear c13
                      by_cases c14 : x200003_2.length < 5864062014805
                      · rw [if_pos c14] at H
                        have LMc14 := Aside0.mk c14
                        clear c14
                        obtain ⟨y202, hy202⟩ : ∃ y_ : List (S94), y_ = (x200003_2 ++ [(⟨(rd_T68 ((rd_T49 l0 x11_1).f3) x25_2).f0, (rd_T68 ((rd_T49 l0 x11_1).f3) x25_2).f1, (rd_T68 ((rd_T49 l0 x11_1).f3) x25_2).f2⟩ : S94)]) := ⟨_, rfl⟩
                        replace H : (ontimelaw44_plain.l1 k2 x3_1 l0 (l0.length : Int) x11_1 ((rd_T49 l0 x11_1).f3) (((rd_T49 l0 x11_1).f3).length : Int) (wrap64 (x25_2 + 1)) ((rd_T49 l0 x11_1).f0) ((rd_T49 l0 x11_1).f1) ((rd_T49 l0 x11_1).f2) y202) = some r := by first | (rw [hy202]; with_reducible exact H) | (have H2_ := (Option.bind_some _ _).symm.trans H; rw [hy202]; with_reducible exact H2_) | (have H2_ := (Option.bind_some _ _).symm.trans H; with_reducible exact H2_) | with_reducible exact H | (rw [hy202]; exact H) | exact H
                        have Ny202 := Aside0.mk hy202
                        clear hy202
                        have H' := Aside0.mk H
                        clear H
                        have p200 : 0 ≤ (x25_2 : Int) := of_decide_eq_true (by first | (with_reducible assumption) | assumption)
                        have q200 : x25_2 < (((rd_T49 l0 x11_1).f3).length : Int) := of_decide_eq_true (by first | (with_reducible assumption) | assumption)
                        obtain ⟨ad200, e200, hx200_0, hx200_1, hx200_2⟩ := at_T68 HR197_3.out x25_2 p200 q200
                        cases e200
                        replace hx200_0 := (HB.out.cell (World.block_lt_of_cell? w _ hx200_0)).trans hx200_0
                        replace hx200_1 := (HB.out.cell (World.block_lt_of_cell? w _ hx200_1)).trans hx200_1
                        replace hx200_2 := (HB.out.cell (World.block_lt_of_cell? w _ hx200_2)).trans hx200_2
                        replace p200 := eq_true p200
                        replace q200 := eq_true q200
                        go_wp2_with (first | ((with_reducible refine gate_dst (N := 8) rfl ?_); refine box_event ?hg (N := 8) ?hd (cs := #[.int .i64 0, .int .i64 0, .int .i64 0]) (t := 68) ?hr ?_; (case hd => rfl); (case hg => rfl); (case hr => first | (go_simp; done) | (go_simp; rfl)); intro gb201 hg w15 hbox hb; have n0_ := Aside0.mk (Kd.S_below (by (with_reducible repeat (first | apply Kd.S_alloc | apply Kd.S_drewN | apply Kd.S_drew)); exact HO_3.out) hb); have n1_ := Aside0.mk (Kd.R_below (by (with_reducible repeat (first | apply Kd.R_alloc | apply Kd.R_drewN | apply Kd.R_drew)); exact HO_200003.out) hb); have n2_ := Aside0.mk (blk_below (g := gb198) (o := .cells #[.int .i64 ((rd_T49 l0 x11_1).f0), .int .i64 ((rd_T49 l0 x11_1).f1), .int .i64 ((rd_T49 l0 x11_1).f2), .slice (some ad200) ((rd_T49 l0 x11_1).f3).length c197_3] 49 (0, 0)) (by (with_reducible repeat (first | refine blk_drewN ?_ _ | refine blk_drew ?_ | refine blk_alloc ?_ _)); exact BK198.out) hb); have n3_ := Aside0.mk (blk_below (g := gb199) (o := .cells #[.int .i64 ((rd_T49 l0 x11_1).f0), .int .i64 ((rd_T49 l0 x11_1).f1), .int .i64 ((rd_T49 l0 x11_1).f2), u200003] 93 (0, 0)) (by (with_reducible repeat (first | refine blk_drewN ?_ _ | refine blk_drew ?_ | refine blk_alloc ?_ _)); exact BK199.out) hb); have n4_ := Aside0.mk (below_step (by repeat (first | (with_reducible first | exact HB.out | apply below_alloc | apply pw_below_drewN | apply below_drew1 | refine below_set ?_ GE198.out | refine below_set ?_ GE199.out) | exact HB.out)) hb); have n5_ := Aside0.mk (hbox); have n6_ := Aside0.mk ((by rw [hg]; exact (below_size (by repeat (first | (with_reducible first | exact HB.out | apply below_alloc | apply pw_below_drewN | apply below_drew1 | refine below_set ?_ GE198.out | refine below_set ?_ GE199.out) | exact HB.out))) : w.heap.size ≤ gb201)); have n7_ := Aside0.mk ((by rw [hg]; exact (below_size (by repeat (first | (with_reducible first | exact HB.out | apply below_alloc | apply pw_below_drewN | apply below_drew1 | refine below_set ?_ GE198.out | refine below_set ?_ GE199.out) | exact HB.out))) : w.heap.size ≤ gb201)); have n8_ := Aside0.mk ((by rw [hg]; exact Nat.ne_of_lt (blk_lt (g := gb198) (o := .cells #[.int .i64 ((rd_T49 l0 x11_1).f0), .int .i64 ((rd_T49 l0 x11_1).f1), .int .i64 ((rd_T49 l0 x11_1).f2), .slice (some ad200) ((rd_T49 l0 x11_1).f3).length c197_3] 49 (0, 0)) (by (with_reducible repeat (first | refine blk_drewN ?_ _ | refine blk_drew ?_ | refine blk_alloc ?_ _)); exact BK198.out)) : gb198 ≠ gb201)); have n9_ := Aside0.mk ((by rw [hg]; exact Nat.ne_of_gt (blk_lt (g := gb198) (o := .cells #[.int .i64 ((rd_T49 l0 x11_1).f0), .int .i64 ((rd_T49 l0 x11_1).f1), .int .i64 ((rd_T49 l0 x11_1).f2), .slice (some ad200) ((rd_T49 l0 x11_1).f3).length c197_3] 49 (0, 0)) (by (with_reducible repeat (first | refine blk_drewN ?_ _ | refine blk_drew ?_ | refine blk_alloc ?_ _)); exact BK198.out)) : gb201 ≠ gb198)); have n10_ := Aside0.mk ((by rw [hg]; exact Nat.ne_of_lt (blk_lt (g := gb199) (o := .cells #[.int .i64 ((rd_T49 l0 x11_1).f0), .int .i64 ((rd_T49 l0 x11_1).f1), .int .i64 ((rd_T49 l0 x11_1).f2), u200003] 93 (0, 0)) (by (with_reducible repeat (first | refine blk_drewN ?_ _ | refine blk_drew ?_ | refine blk_alloc ?_ _)); exact BK199.out)) : gb199 ≠ gb201)); have n11_ := Aside0.mk ((by rw [hg]; exact Nat.ne_of_gt (blk_lt (g := gb199) (o := .cells #[.int .i64 ((rd_T49 l0 x11_1).f0), .int .i64 ((rd_T49 l0 x11_1).f1), .int .i64 ((rd_T49 l0 x11_1).f2), u200003] 93 (0, 0)) (by (with_reducible repeat (first | refine blk_drewN ?_ _ | refine blk_drew ?_ | refine blk_alloc ?_ _)); exact BK199.out)) : gb201 ≠ gb199)); clear HO_3; clear HO_200003; clear BK198; clear BK199; clear HB; have HO_3 := n0_; have HO_200003 := n1_; have BK198 := n2_; have BK199 := n3_; have HB := n4_; have BK201 := n5_; have GW201 := n6_; have GE201 := n7_; have NB198_201 := n8_; have NB201_198 := n9_; have NB199_201 := n10_; have NB201_199 := n11_; clear n0_ n1_ n2_ n3_ n4_ n5_ n6_ n7_ n8_ n9_ n10_ n11_; clear hb hbox hg; have hnb16 := NB201_198.out; have hnc16 := NB198_201.out; have hnb17 := NB201_199.out; have hnc17 := NB199_201.out; have hcz18_0 : w15.cell? ⟨gb201, 0, none⟩ = some (.int .i64 0) := (blk_cell BK201.out 0).trans rfl; have hcz18_1 : w15.cell? ⟨gb201, 1, none⟩ = some (.int .i64 0) := (blk_cell BK201.out 1).trans rfl; have hcz18_2 : w15.cell? ⟨gb201, 2, none⟩ = some (.int .i64 0) := (blk_cell BK201.out 2).trans rfl; have hfz18_0 := blk_frozen BK201.out 0; have hfz18_1 := blk_frozen BK201.out 1; have hfz18_2 := blk_frozen BK201.out 2; have hnb19 := NB199_198.out; have hnc19 := NB198_199.out; have hcz20_0 : w15.cell? ⟨gb199, 0, none⟩ = some (.int .i64 ((rd_T49 l0 x11_1).f0)) := (blk_cell BK199.out 0).trans rfl; have hcz20_1 : w15.cell? ⟨gb199, 1, none⟩ = some (.int .i64 ((rd_T49 l0 x11_1).f1)) := (blk_cell BK199.out 1).trans rfl; have hcz20_2 : w15.cell? ⟨gb199, 2, none⟩ = some (.int .i64 ((rd_T49 l0 x11_1).f2)) := (blk_cell BK199.out 2).trans rfl; have hcz20_3 : w15.cell? ⟨gb199, 3, none⟩ = some (u200003) := (blk_cell BK199.out 3).trans rfl; have hfz20_0 := blk_frozen BK199.out 0; have hfz20_1 := blk_frozen BK199.out 1; have hfz20_2 := blk_frozen BK199.out 2; have hfz20_3 := blk_frozen BK199.out 3) | ((with_reducible refine gate_builtin (b := .append) (xs := #[.tmp 30, .tmp 38]) rfl ?_); at_builtin; refine Kd.R_append k94 (w0 := w) w.heap.size rfl (.tmp 30) (.tmp 38) 91 94 (.agg #[(.int .i64 0), (.int .i64 0), (.int .i64 0)]) 24 rfl Try.underlying91 info94 rfl (by decide) (by omega) u200003 x200003_2 (⟨(rd_T68 ((rd_T49 l0 x11_1).f3) x25_2).f0, (rd_T68 ((rd_T49 l0 x11_1).f3) x25_2).f1, (rd_T68 ((rd_T49 l0 x11_1).f3) x25_2).f2⟩ : S94) [.int .i64 ((rd_T68 ((rd_T49 l0 x11_1).f3) x25_2).f0), .int .i64 ((rd_T68 ((rd_T49 l0 x11_1).f3) x25_2).f1), .int .i64 ((rd_T68 ((rd_T49 l0 x11_1).f3) x25_2).f2)] (fun _ => True) (fun _ => False) rfl (by first | (go_simp; done) | (go_simp; rfl)) ?aP (fun _ hk => hk.elim) ?aF ?aO ?aB ?aS ?aL ?_; (case aP => exact k94_mkM _ _ _ (⟨(rd_T68 ((rd_T49 l0 x11_1).f3) x25_2).f0, (rd_T68 ((rd_T49 l0 x11_1).f3) x25_2).f1, (rd_T68 ((rd_T49 l0 x11_1).f3) x25_2).f2⟩ : S94)); (case aB => exact (by repeat (first | (with_reducible first | exact HB.out | apply below_alloc | apply pw_below_drewN | apply below_drew1 | refine below_set ?_ GE198.out | refine below_set ?_ GE199.out | refine below_set ?_ GE201.out) | exact HB.out))); (case aF => exact (fun _ _ => trivial)); (case aO => exact (by (with_reducible repeat (first | apply Kd.R_alloc | apply Kd.R_drewN | apply Kd.R_drew)); exact Kd.R_mono (Kd.R_far (p := ⟨gb201, 2, none⟩) (Kd.R_far (p := ⟨gb201, 1, none⟩) (Kd.R_far (p := ⟨gb201, 0, none⟩) (Kd.R_types HO_200003.out BK201.out (by decide)) (fun _ hk => hk.2) (.int .i64 ((rd_T68 ((rd_T49 l0 x11_1).f3) x25_2).f0))) (fun _ hk => hk.2) (.int .i64 ((rd_T68 ((rd_T49 l0 x11_1).f3) x25_2).f1))) (fun _ hk => hk.2) (.int .i64 ((rd_T68 ((rd_T49 l0 x11_1).f3) x25_2).f2))) (fun _ hk => trivial))); (case aS => exact (below_size (by repeat (first | (with_reducible first | exact HB.out | apply below_alloc | apply pw_below_drewN | apply below_drew1 | refine below_set ?_ GE198.out | refine below_set ?_ GE199.out | refine below_set ?_ GE201.out) | exact HB.out)))); (case aL => have := LMc14.out; omega); intro v203 w21 ho hb hg hat; rw [← Ny202.out] at ho; have n0_ := Aside0.mk (Kd.S_after (ok := (fun k_ => k_ ≠ gb199)) (by (with_reducible repeat (first | apply Kd.S_alloc | apply Kd.S_drewN | apply Kd.S_drew)); exact Kd.S_mono (Kd.S_far (p := ⟨gb201, 2, none⟩) (Kd.S_far (p := ⟨gb201, 1, none⟩) (Kd.S_far (p := ⟨gb201, 0, none⟩) (Kd.S_types HO_3.out BK201.out (by decide)) (fun _ hk => hk.2) (.int .i64 ((rd_T68 ((rd_T49 l0 x11_1).f3) x25_2).f0))) (fun _ hk => hk.2) (.int .i64 ((rd_T68 ((rd_T49 l0 x11_1).f3) x25_2).f1))) (fun _ hk => hk.2) (.int .i64 ((rd_T68 ((rd_T49 l0 x11_1).f3) x25_2).f2))) (fun _ hk => ⟨hk.1.2, hk.1.1⟩)) hg hat); have n1_ := Aside0.mk (blk_grown (g := gb198) (o := .cells #[.int .i64 ((rd_T49 l0 x11_1).f0), .int .i64 ((rd_T49 l0 x11_1).f1), .int .i64 ((rd_T49 l0 x11_1).f2), .slice (some ad200) ((rd_T49 l0 x11_1).f3).length c197_3] 49 (0, 0)) (by (with_reducible repeat (first | refine blk_drewN ?_ _ | refine blk_drew ?_ | refine blk_alloc ?_ _)); refine blk_far ?_ NB198_201.out _; (with_reducible repeat (first | refine blk_drewN ?_ _ | refine blk_drew ?_ | refine blk_alloc ?_ _)); refine blk_far ?_ NB198_201.out _; (with_reducible repeat (first | refine blk_drewN ?_ _ | refine blk_drew ?_ | refine blk_alloc ?_ _)); refine blk_far ?_ NB198_201.out _; (with_reducible repeat (first | refine blk_drewN ?_ _ | refine blk_drew ?_ | refine blk_alloc ?_ _)); exact BK198.out) hg (Kd.R_ne HO_200003.out BK198.out (by decide))); have n2_ := Aside0.mk (blk_grown (g := gb199) (o := .cells #[.int .i64 ((rd_T49 l0 x11_1).f0), .int .i64 ((rd_T49 l0 x11_1).f1), .int .i64 ((rd_T49 l0 x11_1).f2), u200003] 93 (0, 0)) (by (with_reducible repeat (first | refine blk_drewN ?_ _ | refine blk_drew ?_ | refine blk_alloc ?_ _)); refine blk_far ?_ NB199_201.out _; (with_reducible repeat (first | refine blk_drewN ?_ _ | refine blk_drew ?_ | refine blk_alloc ?_ _)); refine blk_far ?_ NB199_201.out _; (with_reducible repeat (first | refine blk_drewN ?_ _ | refine blk_drew ?_ | refine blk_alloc ?_ _)); refine blk_far ?_ NB199_201.out _; (with_reducible repeat (first | refine blk_drewN ?_ _ | refine blk_drew ?_ | refine blk_alloc ?_ _)); exact BK199.out) hg (Kd.R_ne HO_200003.out BK199.out (by decide))); have n3_ := Aside0.mk (blk_grown (g := gb201) (o := .cells #[.int .i64 ((rd_T68 ((rd_T49 l0 x11_1).f3) x25_2).f0), .int .i64 ((rd_T68 ((rd_T49 l0 x11_1).f3) x25_2).f1), .int .i64 ((rd_T68 ((rd_T49 l0 x11_1).f3) x25_2).f2)] 68 (0, 0)) (by (with_reducible repeat (first | refine blk_drewN ?_ _ | refine blk_drew ?_ | refine blk_alloc ?_ _)); refine blk_put (cs := #[.int .i64 ((rd_T68 ((rd_T49 l0 x11_1).f3) x25_2).f0), .int .i64 ((rd_T68 ((rd_T49 l0 x11_1).f3) x25_2).f1), .int .i64 0]) ?_ 2 _ rfl; (with_reducible repeat (first | refine blk_drewN ?_ _ | refine blk_drew ?_ | refine blk_alloc ?_ _)); refine blk_put (cs := #[.int .i64 ((rd_T68 ((rd_T49 l0 x11_1).f3) x25_2).f0), .int .i64 0, .int .i64 0]) ?_ 1 _ rfl; (with_reducible repeat (first | refine blk_drewN ?_ _ | refine blk_drew ?_ | refine blk_alloc ?_ _)); refine blk_put (cs := #[.int .i64 0, .int .i64 0, .int .i64 0]) ?_ 0 _ rfl; (with_reducible repeat (first | refine blk_drewN ?_ _ | refine blk_drew ?_ | refine blk_alloc ?_ _)); exact BK201.out) hg (Kd.R_ne HO_200003.out BK201.out (by decide))); have n4_ := Aside0.mk (hb); have n5_ := Aside0.mk (ho); clear HO_3; clear BK198; clear BK199; clear BK201; clear HB; clear HO_200003; have HO_3 := n0_; have BK198 := n1_; have BK199 := n2_; have BK201 := n3_; have HB := n4_; have HO204 := n5_; clear n0_ n1_ n2_ n3_ n4_ n5_; clear ho hb hg hat; obtain ⟨Ao22, co22, eo22⟩ := Kd.R_slice HO204.out; subst eo22; have hcz23_0 : w21.cell? ⟨gb199, 0, none⟩ = some (.int .i64 ((rd_T49 l0 x11_1).f0)) := (blk_cell BK199.out 0).trans rfl; have hcz23_1 : w21.cell? ⟨gb199, 1, none⟩ = some (.int .i64 ((rd_T49 l0 x11_1).f1)) := (blk_cell BK199.out 1).trans rfl; have hcz23_2 : w21.cell? ⟨gb199, 2, none⟩ = some (.int .i64 ((rd_T49 l0 x11_1).f2)) := (blk_cell BK199.out 2).trans rfl; have hcz23_3 : w21.cell? ⟨gb199, 3, none⟩ = some (u200003) := (blk_cell BK199.out 3).trans rfl; have hfz23_0 := blk_frozen BK199.out 0; have hfz23_1 := blk_frozen BK199.out 1; have hfz23_2 := blk_frozen BK199.out 2; have hfz23_3 := blk_frozen BK199.out 3))
                        go_roundg k2
                        case measure => have := HK1.out; have := HK2.out; omega
                        case rel => exact ⟨(wrap64 (x25_2 + 1)), (y202), (.slice Ao22 y202.length co22), (by first | rfl | (simp; done) | (simp [*]; done)), H', ⟨by have := HK1.out; have := HK2.out; omega⟩, ⟨by (with_reducible repeat (first | apply Kd.S_alloc | apply Kd.S_drewN | apply Kd.S_drew)); exact Kd.S_mono (Kd.S_far (p := ⟨gb199, 3, none⟩) (Kd.S_mono HO_3.out (fun k_ hk => (⟨hk, hk.1⟩ : _ ∧ k_ ≠ gb199))) (fun _ hk => hk.2) (.slice Ao22 y202.length co22)) (fun _ hk => ⟨hk.1.2, hk.1.1⟩)⟩, ⟨by (with_reducible repeat (first | apply Kd.R_alloc | apply Kd.R_drewN | apply Kd.R_drew)); exact Kd.R_mono (Kd.R_far (p := ⟨gb199, 3, none⟩) (Kd.R_types HO204.out BK199.out (by decide)) (fun _ hk => hk.2) (.slice Ao22 y202.length co22)) (fun _ hk => trivial)⟩, ⟨by (with_reducible repeat (first | refine blk_drewN ?_ _ | refine blk_drew ?_ | refine blk_alloc ?_ _)); refine blk_far ?_ NB198_199.out _; (with_reducible repeat (first | refine blk_drewN ?_ _ | refine blk_drew ?_ | refine blk_alloc ?_ _)); exact BK198.out⟩, ⟨by (with_reducible repeat (first | refine blk_drewN ?_ _ | refine blk_drew ?_ | refine blk_alloc ?_ _)); refine blk_put (cs := #[.int .i64 ((rd_T49 l0 x11_1).f0), .int .i64 ((rd_T49 l0 x11_1).f1), .int .i64 ((rd_T49 l0 x11_1).f2), u200003]) ?_ 3 _ rfl; (with_reducible repeat (first | refine blk_drewN ?_ _ | refine blk_drew ?_ | refine blk_alloc ?_ _)); exact BK199.out⟩, ⟨by repeat (first | (with_reducible first | exact HB.out | apply below_alloc | apply pw_below_drewN | apply below_drew1 | refine below_set ?_ GE198.out | refine below_set ?_ GE199.out | refine below_set ?_ GE201.out) | exact HB.out)⟩⟩
                      · rw [if_neg c14] at H
                        exact absurd H (by simp)
                    · rw [if_neg c13] at H
                      exact absurd H (by simp)
                  · rw [if_neg c12] at H
                    exact absurd H (by simp)
                · rw [if_neg c11] at H
                  have c11b0 : decide (x25_2 < (((rd_T49 l0 x11_1).f3).length : Int)) = false := decide_eq_false c11
                  clear c11
                  by_cases c24 : x3_1.length < 2932031007402
                  · rw [if_pos c24] at H
                    have LMc24 := Aside0.mk c24
                    clear c24
                    obtain ⟨y205, hy205⟩ : ∃ y_ : List (S93), y_ = (x3_1 ++ [(⟨((rd_T49 l0 x11_1).f0), ((rd_T49 l0 x11_1).f1), ((rd_T49 l0 x11_1).f2), x200003_2⟩ : S93)]) := ⟨_, rfl⟩
                    replace H : (ontimelaw44_plain.l0 k2 y205 l0 (l0.length : Int) (wrap64 (x11_1 + 1))) = some r := by first | (rw [hy205]; with_reducible exact H) | (have H2_ := (Option.bind_some _ _).symm.trans H; rw [hy205]; with_reducible exact H2_) | (have H2_ := (Option.bind_some _ _).symm.trans H; with_reducible exact H2_) | with_reducible exact H | (rw [hy205]; exact H) | exact H
                    have Ny205 := Aside0.mk hy205
                    clear hy205
                    have H' := Aside0.mk H
                    clear H
                    have hnb25 := NB199_198.out
                    have hnc25 := NB198_199.out
                    have hcz26_0 : wr.cell? ⟨gb199, 0, none⟩ = some (.int .i64 ((rd_T49 l0 x11_1).f0)) := (blk_cell BK199.out 0).trans rfl
                    have hcz26_1 : wr.cell? ⟨gb199, 1, none⟩ = some (.int .i64 ((rd_T49 l0 x11_1).f1)) := (blk_cell BK199.out 1).trans rfl
                    have hcz26_2 : wr.cell? ⟨gb199, 2, none⟩ = some (.int .i64 ((rd_T49 l0 x11_1).f2)) := (blk_cell BK199.out 2).trans rfl
                    have hcz26_3 : wr.cell? ⟨gb199, 3, none⟩ = some (u200003) := (blk_cell BK199.out 3).trans rfl
                    have hfz26_0 := blk_frozen BK199.out 0
                    have hfz26_1 := blk_frozen BK199.out 1
                    have hfz26_2 := blk_frozen BK199.out 2
                    have hfz26_3 := blk_frozen BK199.out 3
                    obtain ⟨Ao28, co28, eo28⟩ := Kd.R_slice HO_200003.out
                    subst eo28
                    go_wp2_with (first | ((with_reducible refine gate_builtin (b := .append) (xs := #[.tmp 42, .tmp 44]) rfl ?_); at_builtin; refine Kd.S_append k93 (w0 := w) w.heap.size rfl (.tmp 42) (.tmp 44) 43 93 (.agg #[(.int .i64 0), (.int .i64 0), (.int .i64 0), (.slice none 0 0)]) 48 rfl Try.underlying43 info93 rfl (by decide) (by omega) u3 x3_1 (⟨((rd_T49 l0 x11_1).f0), ((rd_T49 l0 x11_1).f1), ((rd_T49 l0 x11_1).f2), x200003_2⟩ : S93) [.int .i64 ((rd_T49 l0 x11_1).f0), .int .i64 ((rd_T49 l0 x11_1).f1), .int .i64 ((rd_T49 l0 x11_1).f2), .slice Ao28 x200003_2.length co28] (fun k_ => k_ ≠ gb199) (fun k_ => some k_ = (.slice Ao28 x200003_2.length co28 : Value).ownBlock) rfl rfl ?aP (fun k_ hk_ => ((Kd.R_mono (ok' := fun k_ => ((fun k_ => k_ ≠ gb199)) k_ ∧ some k_ ≠ (u3 : Value).ownBlock) (Kd.R_types (Kd.R_apart' (HO_200003.out) (Kd.S_typed HO_3.out) (by decide)) BK199.out (by decide)) (fun k_ hk => ⟨hk.2, hk.1.2⟩))).1 k_ hk_.symm) ?aF ?aO ?aB ?aS ?aL ?_; (case aP => exact k93_mkM _ _ _ (⟨((rd_T49 l0 x11_1).f0), ((rd_T49 l0 x11_1).f1), ((rd_T49 l0 x11_1).f2), x200003_2⟩ : S93) (Kd.R_mono (Kd.R_tight rfl (Kd.R_mono (ok' := fun k_ => ((fun k_ => k_ ≠ gb199)) k_ ∧ some k_ ≠ (u3 : Value).ownBlock) (Kd.R_types (Kd.R_apart' (HO_200003.out) (Kd.S_typed HO_3.out) (by decide)) BK199.out (by decide)) (fun k_ hk => ⟨hk.2, hk.1.2⟩))) (fun _ h_ => h_))); (case aB => exact (by repeat (first | (with_reducible first | exact HB.out | apply below_alloc | apply pw_below_drewN | apply below_drew1 | refine below_set ?_ GE198.out | refine below_set ?_ GE199.out) | exact HB.out))); (case aF => exact (fun k_ hk => Kd.freshB (g := gb199) (o := .cells #[.int .i64 ((rd_T49 l0 x11_1).f0), .int .i64 ((rd_T49 l0 x11_1).f1), .int .i64 ((rd_T49 l0 x11_1).f2), .slice Ao28 x200003_2.length co28] 93 (0, 0)) (by (with_reducible repeat (first | refine blk_drewN ?_ _ | refine blk_drew ?_ | refine blk_alloc ?_ _)); exact BK199.out) k_ hk)); (case aO => exact (by (with_reducible repeat (first | apply Kd.S_alloc | apply Kd.S_drewN | apply Kd.S_drew)); exact Kd.S_mono HO_3.out (fun k_ hk => ⟨hk.2, fun e_ => hk.1 e_⟩))); (case aS => exact (below_size (by repeat (first | (with_reducible first | exact HB.out | apply below_alloc | apply pw_below_drewN | apply below_drew1 | refine below_set ?_ GE198.out | refine below_set ?_ GE199.out) | exact HB.out)))); (case aL => have := LMc24.out; omega); intro v206 w27 ho hb hg hat; rw [← Ny205.out] at ho; have n0_ := Aside0.mk (blk_grown (g := gb198) (o := .cells #[.int .i64 ((rd_T49 l0 x11_1).f0), .int .i64 ((rd_T49 l0 x11_1).f1), .int .i64 ((rd_T49 l0 x11_1).f2), .slice A197_3 ((rd_T49 l0 x11_1).f3).length c197_3] 49 (0, 0)) (by (with_reducible repeat (first | refine blk_drewN ?_ _ | refine blk_drew ?_ | refine blk_alloc ?_ _)); exact BK198.out) hg (Kd.S_ne HO_3.out BK198.out (by decide))); have n1_ := Aside0.mk (blk_grown (g := gb199) (o := .cells #[.int .i64 ((rd_T49 l0 x11_1).f0), .int .i64 ((rd_T49 l0 x11_1).f1), .int .i64 ((rd_T49 l0 x11_1).f2), .slice Ao28 x200003_2.length co28] 93 (0, 0)) (by (with_reducible repeat (first | refine blk_drewN ?_ _ | refine blk_drew ?_ | refine blk_alloc ?_ _)); exact BK199.out) hg (Kd.S_away HO_3.out (fun _ hk => hk.2))); have n2_ := Aside0.mk (hb); have n3_ := Aside0.mk (ho); clear BK198; clear BK199; clear HB; clear HO_3; clear HO_200003; have BK198 := n0_; have BK199 := n1_; have HB := n2_; have HO207 := n3_; clear n0_ n1_ n2_ n3_; clear ho hb hg hat))
                    go_roundg k2
                    case measure => have := HK1.out; have := HK2.out; omega
                    case rel => exact ⟨(y205), (wrap64 (x11_1 + 1)), (by first | rfl | (simp; done) | (simp [*]; done)), H', ⟨by have := HK1.out; have := HK2.out; omega⟩, ⟨by (with_reducible repeat (first | apply Kd.S_alloc | apply Kd.S_drewN | apply Kd.S_drew)); exact Kd.S_mono HO207.out (fun _ hk => trivial)⟩, ⟨by repeat (first | (with_reducible first | exact HB.out | apply below_alloc | apply pw_below_drewN | apply below_drew1 | refine below_set ?_ GE198.out | refine below_set ?_ GE199.out) | exact HB.out)⟩⟩
                  · rw [if_neg c24] at H
                    exact absurd H (by simp)
          · rw [if_neg c4] at H
            exact absurd H (by simp)
        · rw [if_neg c3] at H
          exact absurd H (by simp)
      · rw [if_neg c2] at H
        have c2b0 : decide (x11_1 < (l0.length : Int)) = false := decide_eq_false c2
        clear c2
        obtain rfl := Option.some.inj H
        go_wp2
        go_ret
        exact ⟨_, by first | rfl | (simp [errW_none, errW_some] <;> rfl) | (simp [*, errW_none, errW_some] <;> rfl), by (with_reducible repeat (first | apply Kd.S_alloc | apply Kd.S_drewN | apply Kd.S_drew)); exact HO_3.out, by repeat (first | (with_reducible first | exact HB.out | apply below_alloc | apply pw_below_drewN | apply below_drew1) | exact HB.out)⟩

end Go.Proofs.Ytbhmaijmdkpmlaa.P
