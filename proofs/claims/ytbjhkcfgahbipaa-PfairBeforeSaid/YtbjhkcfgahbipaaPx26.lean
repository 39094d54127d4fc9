-- Written by wip/gen.py: the kit's print, with contracts of mine in it.
import Derived.Test.YtbjhkcfgahbipaaPx0
import Derived.Test.YtbjhkcfgahbipaaPx5
import Derived.Test.YtbjhkcfgahbipaaPx7
import Derived.Test.YtbjhkcfgahbipaaPx24
import Derived.Test.YtbjhkcfgahbipaaPx25
namespace Go.Proofs.Ytbjhkcfgahbipaa.P
open Go.RowKit Go.Proofs.YtbjhkcfgahbipaaW.PrintWords Go.Proofs.YtbjhkcfgahbipaaW.PrintLast Go.Proofs.YtbjhkcfgahbipaaW.PrintMore
attribute [local go_sem] max2_int min2_int max_two min_two max_three min_three max_four min_four   -- for this text's walks alone
set_option linter.unusedVariables false
set_option linter.unusedSimpArgs false

/-! ### pfair_Before: function 22 -/
def pfair_Before.j0 : Nat → Bool → Int → ByteArray → Int → Int → Int → Int → Int → ByteArray → Int → Int → Int → Int → Int → Int → Int → Int → Int → Int → Option (Bool)
  | 0, _, _, _, _, _, _, _, _, _, _, _, _, _, _, _, _, _, _, _ => none
  | k + 1, x34, x226000, x226001, x226002, x226003, x226004, x226005, x227000, x227001, x227002, x227003, x227004, x227005, x232000, x232001, x232002, x237000, x237001, x237002 => if x34 = true then (some false) else ((cmp_Compare_int.f (wrap64 (x226004 + x232002)) (wrap64 (x227004 + x237002))).bind fun t237 => (if t237 = 0 then ((pfair_Overlaps.f k x226001 x226002 x226003 x226005).bind fun t238 => ((pfair_Overlaps.f k x227001 x227002 x227003 x227005).bind fun t239 => (if (t238 != t239) = true then (some t238) else (if t238 = true then ((pfair_Candidate_group.f k x226000 x226001 x226002 x226003 x226004 x226005).bind fun t240 => ((pfair_Candidate_group.f k x227000 x227001 x227002 x227003 x227004 x227005).bind fun t241 => ((cmp_Compare_int.f t240 t241).bind fun t242 => (if t242 = 0 then (some (decide (x226000 < x227000))) else (some (decide (t242 > 0))))))) else (some (decide (x226000 < x227000))))))) else (some (decide (t237 < 0)))))
def pfair_Before.f (k : Nat) (a0_0 : Int) (a0_1 : ByteArray) (a0_2 : Int) (a0_3 : Int) (a0_4 : Int) (a0_5 : Int) (a1_0 : Int) (a1_1 : ByteArray) (a1_2 : Int) (a1_3 : Int) (a1_4 : Int) (a1_5 : Int) : Option (Bool) := (pfair_Window.f k a0_1 a0_2 a0_3 a0_5).bind fun bt227 => ((pfair_Window.f k a1_1 a1_2 a1_3 a1_5).bind fun bt232 => (if bt227.2.2.2 = 0 then (pfair_Before.j0 k (bt232.2.2.2 != 0) a0_0 a0_1 a0_2 a0_3 a0_4 a0_5 a1_0 a1_1 a1_2 a1_3 a1_4 a1_5 bt227.1 bt227.2.1 bt227.2.2.1 bt232.1 bt232.2.1 bt232.2.2.1) else (pfair_Before.j0 k true a0_0 a0_1 a0_2 a0_3 a0_4 a0_5 a1_0 a1_1 a1_2 a1_3 a1_4 a1_5 bt227.1 bt227.2.1 bt227.2.2.1 bt232.1 bt232.2.1 bt232.2.2.1)))
theorem pfair_Before.mono_l : ∀ k, (∀ y0 y1 y2 y3 y4 y5 y6 y7 y8 y9 y10 y11 y12 y13 y14 y15 y16 y17 y18, LeO (pfair_Before.j0 k y0 y1 y2 y3 y4 y5 y6 y7 y8 y9 y10 y11 y12 y13 y14 y15 y16 y17 y18) (pfair_Before.j0 (k + 1) y0 y1 y2 y3 y4 y5 y6 y7 y8 y9 y10 y11 y12 y13 y14 y15 y16 y17 y18))
  | 0 => fun _ _ _ _ _ _ _ _ _ _ _ _ _ _ _ _ _ _ _ r h => by simp [pfair_Before.j0] at h
  | k + 1 => by
    have ih0 := pfair_Before.mono_l k
    · intro y0 y1 y2 y3 y4 y5 y6 y7 y8 y9 y10 y11 y12 y13 y14 y15 y16 y17 y18
      unfold pfair_Before.j0
      repeat' first
      | (with_reducible exact ih0 _ _ _ _ _ _ _ _ _ _ _ _ _ _ _ _ _ _ _)
      | (with_reducible exact pfair_Candidate_group.mono _ _ _ _ _ _ _)
      | (with_reducible exact pfair_Overlaps.mono _ _ _ _ _)
      | (with_reducible exact pfair_Window.mono _ _ _ _ _)
      | (with_reducible exact LeO.refl _)
      | (with_reducible exact LeO.none _)
      | (with_reducible refine LeO.ite ?_ ?_)
      | (with_reducible refine LeO.bind ?_ (fun _ => ?_))
      | exact ih0 _ _ _ _ _ _ _ _ _ _ _ _ _ _ _ _ _ _ _
      | exact pfair_Candidate_group.mono _ _ _ _ _ _ _
      | exact pfair_Overlaps.mono _ _ _ _ _
      | exact pfair_Window.mono _ _ _ _ _
      | exact LeO.none _
      | refine LeO.ite ?_ ?_
      | refine LeO.bind ?_ (fun _ => ?_)
theorem pfair_Before.mono : ∀ a0 a1 a2 a3 a4 a5 a6 a7 a8 a9 a10 a11 k, LeO (pfair_Before.f k a0 a1 a2 a3 a4 a5 a6 a7 a8 a9 a10 a11) (pfair_Before.f (k + 1) a0 a1 a2 a3 a4 a5 a6 a7 a8 a9 a10 a11) := by
  intro a0 a1 a2 a3 a4 a5 a6 a7 a8 a9 a10 a11 k
  have ih0 := pfair_Before.mono_l k
  unfold pfair_Before.f
  repeat' first
      | (with_reducible exact ih0 _ _ _ _ _ _ _ _ _ _ _ _ _ _ _ _ _ _ _)
      | (with_reducible exact pfair_Candidate_group.mono _ _ _ _ _ _ _)
      | (with_reducible exact pfair_Overlaps.mono _ _ _ _ _)
      | (with_reducible exact pfair_Window.mono _ _ _ _ _)
      | (with_reducible exact LeO.refl _)
      | (with_reducible exact LeO.none _)
      | (with_reducible refine LeO.ite ?_ ?_)
      | (with_reducible refine LeO.bind ?_ (fun _ => ?_))
      | exact ih0 _ _ _ _ _ _ _ _ _ _ _ _ _ _ _ _ _ _ _
      | exact pfair_Candidate_group.mono _ _ _ _ _ _ _
      | exact pfair_Overlaps.mono _ _ _ _ _
      | exact pfair_Window.mono _ _ _ _ _
      | exact LeO.none _
      | refine LeO.ite ?_ ?_
      | refine LeO.bind ?_ (fun _ => ?_)
def pfair_Before.T8 : Bool × List (List Nat × List Nat) := (true, [([], []), ([0], [0]), ([], []), ([2], [2]), ([1, 3], [1, 3]), ([], []), ([5], [5]), ([], []), ([7], [7]), ([6, 8, 4], [6, 8]), ([4, 9, 0, 1, 2, 3, 4], [4]), ([9, 10, 0, 1, 2, 3, 4, 5, 6, 7, 8, 9, 10], [9])])
def pfair_Before.B8 : List Nat := [0, 1, 0, 4, 15, 0, 32, 0, 128, 511, 1023, 2047]
theorem pfair_Before.tab8 : rtab .any (opsOf Try.f22 8) = pfair_Before.T8 := by kernel_rfl
theorem pfair_Before.bits8 : waitsOk pfair_Before.T8.2 pfair_Before.B8 = true := by kernel_rfl
set_option maxHeartbeats 8000000 in
set_option maxRecDepth 100000 in
theorem pfair_Before.calls (k : Nat) (a0_0 : Int) (a0_1 : ByteArray) (a0_2 : Int) (a0_3 : Int) (a0_4 : Int) (a0_5 : Int) (a1_0 : Int) (a1_1 : ByteArray) (a1_2 : Int) (a1_3 : Int) (a1_4 : Int) (a1_5 : Int) (r : Bool) (w : World) (h : pfair_Before.f k a0_0 a0_1 a0_2 a0_3 a0_4 a0_5 a1_0 a1_1 a1_2 a1_3 a1_4 a1_5 = some r) :
    Calls Try.prog 22 #[.agg #[.int .i64 a0_0, .string a0_1, .int .i64 a0_2, .int .i64 a0_3, .int .i64 a0_4, .int .i64 a0_5], .agg #[.int .i64 a1_0, .string a1_1, .int .i64 a1_2, .int .i64 a1_3, .int .i64 a1_4, .int .i64 a1_5]] w fun e w' => e = .returned (.bool r) ∧ Below w.heap.size w w' := by
  have hu42 := Try.underlying42
  have hu23 := Try.underlying23
  have hu26 := Try.underlying26
  have HB := Aside0.mk (Below.refl w.heap.size w)
  have H : ((pfair_Window.f k a0_1 a0_2 a0_3 a0_5).bind fun bt227 => ((pfair_Window.f k a1_1 a1_2 a1_3 a1_5).bind fun bt232 => (if bt227.2.2.2 = 0 then (pfair_Before.j0 k (bt232.2.2.2 != 0) a0_0 a0_1 a0_2 a0_3 a0_4 a0_5 a1_0 a1_1 a1_2 a1_3 a1_4 a1_5 bt227.1 bt227.2.1 bt227.2.2.1 bt232.1 bt232.2.1 bt232.2.2.1) else (pfair_Before.j0 k true a0_0 a0_1 a0_2 a0_3 a0_4 a0_5 a1_0 a1_1 a1_2 a1_3 a1_4 a1_5 bt227.1 bt227.2.1 bt227.2.2.1 bt232.1 bt232.2.1 bt232.2.2.1)))) = some r := h
  clear h
  replace H := Option.bind_eq_some_iff.mp H
  obtain ⟨⟨t227, t228, t229, t230⟩, A30, H⟩ := H
  replace H : ((pfair_Window.f k a1_1 a1_2 a1_3 a1_5).bind fun bt232 => (if t230 = 0 then (pfair_Before.j0 k (bt232.2.2.2 != 0) a0_0 a0_1 a0_2 a0_3 a0_4 a0_5 a1_0 a1_1 a1_2 a1_3 a1_4 a1_5 t227 t228 t229 bt232.1 bt232.2.1 bt232.2.2.1) else (pfair_Before.j0 k true a0_0 a0_1 a0_2 a0_3 a0_4 a0_5 a1_0 a1_1 a1_2 a1_3 a1_4 a1_5 t227 t228 t229 bt232.1 bt232.2.1 bt232.2.2.1))) = some r := H
  have A3 := Aside0.mk A30
  clear A30
  replace H := Option.bind_eq_some_iff.mp H
  obtain ⟨⟨t232, t233, t234, t235⟩, A40, H⟩ := H
  replace H : (if t230 = 0 then (pfair_Before.j0 k (t235 != 0) a0_0 a0_1 a0_2 a0_3 a0_4 a0_5 a1_0 a1_1 a1_2 a1_3 a1_4 a1_5 t227 t228 t229 t232 t233 t234) else (pfair_Before.j0 k true a0_0 a0_1 a0_2 a0_3 a0_4 a0_5 a1_0 a1_1 a1_2 a1_3 a1_4 a1_5 t227 t228 t229 t232 t233 t234)) = some r := H
  have A4 := Aside0.mk A40
  clear A40
  have HC5 := Aside0.mk H
  clear H
  go_enter Try.func22, Try.ntmps22
  go_upto_region 3 with (first | ((with_reducible refine gate_dst (N := 2) rfl ?_); refine box_event ?hg (N := 2) ?hd (cs := #[.int .i64 a0_0, .string a0_1, .int .i64 a0_2, .int .i64 a0_3, .int .i64 a0_4, .int .i64 a0_5]) (t := 42) ?hr ?_; (case hd => rfl); (case hg => rfl); (case hr => first | (go_simp; done) | (go_simp; rfl)); intro gb225 hg w6 hbox hb; have n0_ := Aside0.mk (below_step (by repeat (first | (with_reducible first | exact HB.out | apply below_alloc | apply pw_below_drewN | apply below_drew1) | exact HB.out)) hb); have n1_ := Aside0.mk (hbox); have n2_ := Aside0.mk ((by rw [hg]; exact (below_size (by repeat (first | (with_reducible first | exact HB.out | apply below_alloc | apply pw_below_drewN | apply below_drew1) | exact HB.out))) : w.heap.size ≤ gb225)); have n3_ := Aside0.mk ((by rw [hg]; exact (below_size (by repeat (first | (with_reducible first | exact HB.out | apply below_alloc | apply pw_below_drewN | apply below_drew1) | exact HB.out))) : w.heap.size ≤ gb225)); clear HB; have HB := n0_; have BK225 := n1_; have GW225 := n2_; have GE225 := n3_; clear n0_ n1_ n2_ n3_; clear hb hbox hg) | ((with_reducible refine gate_dst (N := 3) rfl ?_); refine box_event ?hg (N := 3) ?hd (cs := #[.int .i64 a1_0, .string a1_1, .int .i64 a1_2, .int .i64 a1_3, .int .i64 a1_4, .int .i64 a1_5]) (t := 42) ?hr ?_; (case hd => rfl); (case hg => rfl); (case hr => first | (go_simp; done) | (go_simp; rfl)); intro gb226 hg w7 hbox hb; have n0_ := Aside0.mk (blk_below (g := gb225) (o := .cells #[.int .i64 a0_0, .string a0_1, .int .i64 a0_2, .int .i64 a0_3, .int .i64 a0_4, .int .i64 a0_5] 42 (0, 0)) (by (with_reducible repeat (first | refine blk_drewN ?_ _ | refine blk_drew ?_ | refine blk_alloc ?_ _)); exact BK225.out) hb); have n1_ := Aside0.mk (below_step (by repeat (first | (with_reducible first | exact HB.out | apply below_alloc | apply pw_below_drewN | apply below_drew1 | refine below_set ?_ GE225.out) | exact HB.out)) hb); have n2_ := Aside0.mk (hbox); have n3_ := Aside0.mk ((by rw [hg]; exact (below_size (by repeat (first | (with_reducible first | exact HB.out | apply below_alloc | apply pw_below_drewN | apply below_drew1 | refine below_set ?_ GE225.out) | exact HB.out))) : w.heap.size ≤ gb226)); have n4_ := Aside0.mk ((by rw [hg]; exact (below_size (by repeat (first | (with_reducible first | exact HB.out | apply below_alloc | apply pw_below_drewN | apply below_drew1 | refine below_set ?_ GE225.out) | exact HB.out))) : w.heap.size ≤ gb226)); have n5_ := Aside0.mk ((by rw [hg]; exact Nat.ne_of_lt (blk_lt (g := gb225) (o := .cells #[.int .i64 a0_0, .string a0_1, .int .i64 a0_2, .int .i64 a0_3, .int .i64 a0_4, .int .i64 a0_5] 42 (0, 0)) (by (with_reducible repeat (first | refine blk_drewN ?_ _ | refine blk_drew ?_ | refine blk_alloc ?_ _)); exact BK225.out)) : gb225 ≠ gb226)); have n6_ := Aside0.mk ((by rw [hg]; exact Nat.ne_of_gt (blk_lt (g := gb225) (o := .cells #[.int .i64 a0_0, .string a0_1, .int .i64 a0_2, .int .i64 a0_3, .int .i64 a0_4, .int .i64 a0_5] 42 (0, 0)) (by (with_reducible repeat (first | refine blk_drewN ?_ _ | refine blk_drew ?_ | refine blk_alloc ?_ _)); exact BK225.out)) : gb226 ≠ gb225)); clear BK225; clear HB; have BK225 := n0_; have HB := n1_; have BK226 := n2_; have GW226 := n3_; have GE226 := n4_; have NB225_226 := n5_; have NB226_225 := n6_; clear n0_ n1_ n2_ n3_ n4_ n5_ n6_; clear hb hbox hg; have hnb8 := NB225_226.out; have hnc8 := NB226_225.out; have hcz9_0 : w7.cell? ⟨gb225, 0, none⟩ = some (.int .i64 a0_0) := (blk_cell BK225.out 0).trans rfl; have hcz9_1 : w7.cell? ⟨gb225, 1, none⟩ = some (.string a0_1) := (blk_cell BK225.out 1).trans rfl; have hcz9_2 : w7.cell? ⟨gb225, 2, none⟩ = some (.int .i64 a0_2) := (blk_cell BK225.out 2).trans rfl; have hcz9_3 : w7.cell? ⟨gb225, 3, none⟩ = some (.int .i64 a0_3) := (blk_cell BK225.out 3).trans rfl; have hcz9_4 : w7.cell? ⟨gb225, 4, none⟩ = some (.int .i64 a0_4) := (blk_cell BK225.out 4).trans rfl; have hcz9_5 : w7.cell? ⟨gb225, 5, none⟩ = some (.int .i64 a0_5) := (blk_cell BK225.out 5).trans rfl; have hfz9_0 := blk_frozen BK225.out 0; have hfz9_1 := blk_frozen BK225.out 1; have hfz9_2 := blk_frozen BK225.out 2; have hfz9_3 := blk_frozen BK225.out 3; have hfz9_4 := blk_frozen BK225.out 4; have hfz9_5 := blk_frozen BK225.out 5) | ((with_reducible refine gate_callee (f := 12) rfl ?_); refine goesL_ (some 18) rfl rfl Try.func12 (by kernel_rfl) rfl #[.agg #[.string a0_1, .int .i64 a0_2, .int .i64 a0_3], .int .i64 a0_5] rfl (by (try simp only [List.map_toArray, List.map_cons, List.map_nil]); first | done | rfl | (simp only [List.length_drop, List.length_take]; rfl)) ?_; (with_reducible refine (pfair_Window.calls k a0_1 a0_2 a0_3 a0_5 t227 t228 t229 t230 _ A3.out).mono ?_); rintro e w10 ⟨rfl, hb⟩; refine ⟨_, rfl, ?_⟩; have n0_ := Aside0.mk (blk_below (g := gb225) (o := .cells #[.int .i64 a0_0, .string a0_1, .int .i64 a0_2, .int .i64 a0_3, .int .i64 a0_4, .int .i64 a0_5] 42 (0, 0)) (by (with_reducible repeat (first | refine blk_drewN ?_ _ | refine blk_drew ?_ | refine blk_alloc ?_ _)); exact BK225.out) hb); have n1_ := Aside0.mk (blk_below (g := gb226) (o := .cells #[.int .i64 a1_0, .string a1_1, .int .i64 a1_2, .int .i64 a1_3, .int .i64 a1_4, .int .i64 a1_5] 42 (0, 0)) (by (with_reducible repeat (first | refine blk_drewN ?_ _ | refine blk_drew ?_ | refine blk_alloc ?_ _)); exact BK226.out) hb); have n2_ := Aside0.mk (below_step (by repeat (first | (with_reducible first | exact HB.out | apply below_alloc | apply pw_below_drewN | apply below_drew1 | refine below_set ?_ GE225.out | refine below_set ?_ GE226.out) | exact HB.out)) hb); clear BK225; clear BK226; clear HB; have BK225 := n0_; have BK226 := n1_; have HB := n2_; clear n0_ n1_ n2_; (try clear hb); (try clear hb2); (try clear hk); (try clear hi)) | ((with_reducible refine gate_dst (N := 5) rfl ?_); refine box_event ?hg (N := 5) ?hd (cs := #[.int .i64 0, .int .i64 0, .int .i64 0]) (t := 26) ?hr ?_; (case hd => rfl); (case hg => rfl); (case hr => first | (go_simp; done) | (go_simp; rfl)); intro gb231 hg w11 hbox hb; have n0_ := Aside0.mk (blk_below (g := gb225) (o := .cells #[.int .i64 a0_0, .string a0_1, .int .i64 a0_2, .int .i64 a0_3, .int .i64 a0_4, .int .i64 a0_5] 42 (0, 0)) (by (with_reducible repeat (first | refine blk_drewN ?_ _ | refine blk_drew ?_ | refine blk_alloc ?_ _)); exact BK225.out) hb); have n1_ := Aside0.mk (blk_below (g := gb226) (o := .cells #[.int .i64 a1_0, .string a1_1, .int .i64 a1_2, .int .i64 a1_3, .int .i64 a1_4, .int .i64 a1_5] 42 (0, 0)) (by (with_reducible repeat (first | refine blk_drewN ?_ _ | refine blk_drew ?_ | refine blk_alloc ?_ _)); exact BK226.out) hb); have n2_ := Aside0.mk (below_step (by repeat (first | (with_reducible first | exact HB.out | apply below_alloc | apply pw_below_drewN | apply below_drew1 | refine below_set ?_ GE225.out | refine below_set ?_ GE226.out) | exact HB.out)) hb); have n3_ := Aside0.mk (hbox); have n4_ := Aside0.mk ((by rw [hg]; exact (below_size (by repeat (first | (with_reducible first | exact HB.out | apply below_alloc | apply pw_below_drewN | apply below_drew1 | refine below_set ?_ GE225.out | refine below_set ?_ GE226.out) | exact HB.out))) : w.heap.size ≤ gb231)); have n5_ := Aside0.mk ((by rw [hg]; exact (below_size (by repeat (first | (with_reducible first | exact HB.out | apply below_alloc | apply pw_below_drewN | apply below_drew1 | refine below_set ?_ GE225.out | refine below_set ?_ GE226.out) | exact HB.out))) : w.heap.size ≤ gb231)); have n6_ := Aside0.mk ((by rw [hg]; exact Nat.ne_of_lt (blk_lt (g := gb225) (o := .cells #[.int .i64 a0_0, .string a0_1, .int .i64 a0_2, .int .i64 a0_3, .int .i64 a0_4, .int .i64 a0_5] 42 (0, 0)) (by (with_reducible repeat (first | refine blk_drewN ?_ _ | refine blk_drew ?_ | refine blk_alloc ?_ _)); exact BK225.out)) : gb225 ≠ gb231)); have n7_ := Aside0.mk ((by rw [hg]; exact Nat.ne_of_gt (blk_lt (g := gb225) (o := .cells #[.int .i64 a0_0, .string a0_1, .int .i64 a0_2, .int .i64 a0_3, .int .i64 a0_4, .int .i64 a0_5] 42 (0, 0)) (by (with_reducible repeat (first | refine blk_drewN ?_ _ | refine blk_drew ?_ | refine blk_alloc ?_ _)); exact BK225.out)) : gb231 ≠ gb225)); have n8_ := Aside0.mk ((by rw [hg]; exact Nat.ne_of_lt (blk_lt (g := gb226) (o := .cells #[.int .i64 a1_0, .string a1_1, .int .i64 a1_2, .int .i64 a1_3, .int .i64 a1_4, .int .i64 a1_5] 42 (0, 0)) (by (with_reducible repeat (first | refine blk_drewN ?_ _ | refine blk_drew ?_ | refine blk_alloc ?_ _)); exact BK226.out)) : gb226 ≠ gb231)); have n9_ := Aside0.mk ((by rw [hg]; exact Nat.ne_of_gt (blk_lt (g := gb226) (o := .cells #[.int .i64 a1_0, .string a1_1, .int .i64 a1_2, .int .i64 a1_3, .int .i64 a1_4, .int .i64 a1_5] 42 (0, 0)) (by (with_reducible repeat (first | refine blk_drewN ?_ _ | refine blk_drew ?_ | refine blk_alloc ?_ _)); exact BK226.out)) : gb231 ≠ gb226)); clear BK225; clear BK226; clear HB; have BK225 := n0_; have BK226 := n1_; have HB := n2_; have BK231 := n3_; have GW231 := n4_; have GE231 := n5_; have NB225_231 := n6_; have NB231_225 := n7_; have NB226_231 := n8_; have NB231_226 := n9_; clear n0_ n1_ n2_ n3_ n4_ n5_ n6_ n7_ n8_ n9_; clear hb hbox hg; have hnb12 := NB231_225.out; have hnc12 := NB225_231.out; have hnb13 := NB231_226.out; have hnc13 := NB226_231.out; have hcz14_0 : w11.cell? ⟨gb231, 0, none⟩ = some (.int .i64 0) := (blk_cell BK231.out 0).trans rfl; have hcz14_1 : w11.cell? ⟨gb231, 1, none⟩ = some (.int .i64 0) := (blk_cell BK231.out 1).trans rfl; have hcz14_2 : w11.cell? ⟨gb231, 2, none⟩ = some (.int .i64 0) := (blk_cell BK231.out 2).trans rfl; have hfz14_0 := blk_frozen BK231.out 0; have hfz14_1 := blk_frozen BK231.out 1; have hfz14_2 := blk_frozen BK231.out 2; have hcz15_0 : w11.cell? ⟨gb226, 0, none⟩ = some (.int .i64 a1_0) := (blk_cell BK226.out 0).trans rfl; have hcz15_1 : w11.cell? ⟨gb226, 1, none⟩ = some (.string a1_1) := (blk_cell BK226.out 1).trans rfl; have hcz15_2 : w11.cell? ⟨gb226, 2, none⟩ = some (.int .i64 a1_2) := (blk_cell BK226.out 2).trans rfl; have hcz15_3 : w11.cell? ⟨gb226, 3, none⟩ = some (.int .i64 a1_3) := (blk_cell BK226.out 3).trans rfl; have hcz15_4 : w11.cell? ⟨gb226, 4, none⟩ = some (.int .i64 a1_4) := (blk_cell BK226.out 4).trans rfl; have hcz15_5 : w11.cell? ⟨gb226, 5, none⟩ = some (.int .i64 a1_5) := (blk_cell BK226.out 5).trans rfl; have hfz15_0 := blk_frozen BK226.out 0; have hfz15_1 := blk_frozen BK226.out 1; have hfz15_2 := blk_frozen BK226.out 2; have hfz15_3 := blk_frozen BK226.out 3; have hfz15_4 := blk_frozen BK226.out 4; have hfz15_5 := blk_frozen BK226.out 5) | ((with_reducible refine gate_callee (f := 12) rfl ?_); refine goesL_ (some 26) rfl rfl Try.func12 (by kernel_rfl) rfl #[.agg #[.string a1_1, .int .i64 a1_2, .int .i64 a1_3], .int .i64 a1_5] rfl (by (try simp only [List.map_toArray, List.map_cons, List.map_nil]); first | done | rfl | (simp only [List.length_drop, List.length_take]; rfl)) ?_; (with_reducible refine (pfair_Window.calls k a1_1 a1_2 a1_3 a1_5 t232 t233 t234 t235 _ A4.out).mono ?_); rintro e w16 ⟨rfl, hb⟩; refine ⟨_, rfl, ?_⟩; have n0_ := Aside0.mk (blk_below (g := gb225) (o := .cells #[.int .i64 a0_0, .string a0_1, .int .i64 a0_2, .int .i64 a0_3, .int .i64 a0_4, .int .i64 a0_5] 42 (0, 0)) (by (with_reducible repeat (first | refine blk_drewN ?_ _ | refine blk_drew ?_ | refine blk_alloc ?_ _)); refine blk_far ?_ NB225_231.out _; (with_reducible repeat (first | refine blk_drewN ?_ _ | refine blk_drew ?_ | refine blk_alloc ?_ _)); refine blk_far ?_ NB225_231.out _; (with_reducible repeat (first | refine blk_drewN ?_ _ | refine blk_drew ?_ | refine blk_alloc ?_ _)); refine blk_far ?_ NB225_231.out _; (with_reducible repeat (first | refine blk_drewN ?_ _ | refine blk_drew ?_ | refine blk_alloc ?_ _)); exact BK225.out) hb); have n1_ := Aside0.mk (blk_below (g := gb226) (o := .cells #[.int .i64 a1_0, .string a1_1, .int .i64 a1_2, .int .i64 a1_3, .int .i64 a1_4, .int .i64 a1_5] 42 (0, 0)) (by (with_reducible repeat (first | refine blk_drewN ?_ _ | refine blk_drew ?_ | refine blk_alloc ?_ _)); refine blk_far ?_ NB226_231.out _; (with_reducible repeat (first | refine blk_drewN ?_ _ | refine blk_drew ?_ | refine blk_alloc ?_ _)); refine blk_far ?_ NB226_231.out _; (with_reducible repeat (first | refine blk_drewN ?_ _ | refine blk_drew ?_ | refine blk_alloc ?_ _)); refine blk_far ?_ NB226_231.out _; (with_reducible repeat (first | refine blk_drewN ?_ _ | refine blk_drew ?_ | refine blk_alloc ?_ _)); exact BK226.out) hb); have n2_ := Aside0.mk (blk_below (g := gb231) (o := .cells #[.int .i64 t227, .int .i64 t228, .int .i64 t229] 26 (0, 0)) (by (with_reducible repeat (first | refine blk_drewN ?_ _ | refine blk_drew ?_ | refine blk_alloc ?_ _)); refine blk_put (cs := #[.int .i64 t227, .int .i64 t228, .int .i64 0]) ?_ 2 _ rfl; (with_reducible repeat (first | refine blk_drewN ?_ _ | refine blk_drew ?_ | refine blk_alloc ?_ _)); refine blk_put (cs := #[.int .i64 t227, .int .i64 0, .int .i64 0]) ?_ 1 _ rfl; (with_reducible repeat (first | refine blk_drewN ?_ _ | refine blk_drew ?_ | refine blk_alloc ?_ _)); refine blk_put (cs := #[.int .i64 0, .int .i64 0, .int .i64 0]) ?_ 0 _ rfl; (with_reducible repeat (first | refine blk_drewN ?_ _ | refine blk_drew ?_ | refine blk_alloc ?_ _)); exact BK231.out) hb); have n3_ := Aside0.mk (below_step (by repeat (first | (with_reducible first | exact HB.out | apply below_alloc | apply pw_below_drewN | apply below_drew1 | refine below_set ?_ GE225.out | refine below_set ?_ GE226.out | refine below_set ?_ GE231.out) | exact HB.out)) hb); clear BK225; clear BK226; clear BK231; clear HB; have BK225 := n0_; have BK226 := n1_; have BK231 := n2_; have HB := n3_; clear n0_ n1_ n2_ n3_; (try clear hb); (try clear hb2); (try clear hk); (try clear hi)) | ((with_reducible refine gate_dst (N := 7) rfl ?_); refine box_event ?hg (N := 7) ?hd (cs := #[.int .i64 0, .int .i64 0, .int .i64 0]) (t := 26) ?hr ?_; (case hd => rfl); (case hg => rfl); (case hr => first | (go_simp; done) | (go_simp; rfl)); intro gb236 hg w17 hbox hb; have n0_ := Aside0.mk (blk_below (g := gb225) (o := .cells #[.int .i64 a0_0, .string a0_1, .int .i64 a0_2, .int .i64 a0_3, .int .i64 a0_4, .int .i64 a0_5] 42 (0, 0)) (by (with_reducible repeat (first | refine blk_drewN ?_ _ | refine blk_drew ?_ | refine blk_alloc ?_ _)); exact BK225.out) hb); have n1_ := Aside0.mk (blk_below (g := gb226) (o := .cells #[.int .i64 a1_0, .string a1_1, .int .i64 a1_2, .int .i64 a1_3, .int .i64 a1_4, .int .i64 a1_5] 42 (0, 0)) (by (with_reducible repeat (first | refine blk_drewN ?_ _ | refine blk_drew ?_ | refine blk_alloc ?_ _)); exact BK226.out) hb); have n2_ := Aside0.mk (blk_below (g := gb231) (o := .cells #[.int .i64 t227, .int .i64 t228, .int .i64 t229] 26 (0, 0)) (by (with_reducible repeat (first | refine blk_drewN ?_ _ | refine blk_drew ?_ | refine blk_alloc ?_ _)); exact BK231.out) hb); have n3_ := Aside0.mk (below_step (by repeat (first | (with_reducible first | exact HB.out | apply below_alloc | apply pw_below_drewN | apply below_drew1 | refine below_set ?_ GE225.out | refine below_set ?_ GE226.out | refine below_set ?_ GE231.out) | exact HB.out)) hb); have n4_ := Aside0.mk (hbox); have n5_ := Aside0.mk ((by rw [hg]; exact (below_size (by repeat (first | (with_reducible first | exact HB.out | apply below_alloc | apply pw_below_drewN | apply below_drew1 | refine below_set ?_ GE225.out | refine below_set ?_ GE226.out | refine below_set ?_ GE231.out) | exact HB.out))) : w.heap.size ≤ gb236)); have n6_ := Aside0.mk ((by rw [hg]; exact (below_size (by repeat (first | (with_reducible first | exact HB.out | apply below_alloc | apply pw_below_drewN | apply below_drew1 | refine below_set ?_ GE225.out | refine below_set ?_ GE226.out | refine below_set ?_ GE231.out) | exact HB.out))) : w.heap.size ≤ gb236)); have n7_ := Aside0.mk ((by rw [hg]; exact Nat.ne_of_lt (blk_lt (g := gb225) (o := .cells #[.int .i64 a0_0, .string a0_1, .int .i64 a0_2, .int .i64 a0_3, .int .i64 a0_4, .int .i64 a0_5] 42 (0, 0)) (by (with_reducible repeat (first | refine blk_drewN ?_ _ | refine blk_drew ?_ | refine blk_alloc ?_ _)); exact BK225.out)) : gb225 ≠ gb236)); have n8_ := Aside0.mk ((by rw [hg]; exact Nat.ne_of_gt (blk_lt (g := gb225) (o := .cells #[.int .i64 a0_0, .string a0_1, .int .i64 a0_2, .int .i64 a0_3, .int .i64 a0_4, .int .i64 a0_5] 42 (0, 0)) (by (with_reducible repeat (first | refine blk_drewN ?_ _ | refine blk_drew ?_ | refine blk_alloc ?_ _)); exact BK225.out)) : gb236 ≠ gb225)); have n9_ := Aside0.mk ((by rw [hg]; exact Nat.ne_of_lt (blk_lt (g := gb226) (o := .cells #[.int .i64 a1_0, .string a1_1, .int .i64 a1_2, .int .i64 a1_3, .int .i64 a1_4, .int .i64 a1_5] 42 (0, 0)) (by (with_reducible repeat (first | refine blk_drewN ?_ _ | refine blk_drew ?_ | refine blk_alloc ?_ _)); exact BK226.out)) : gb226 ≠ gb236)); have n10_ := Aside0.mk ((by rw [hg]; exact Nat.ne_of_gt (blk_lt (g := gb226) (o := .cells #[.int .i64 a1_0, .string a1_1, .int .i64 a1_2, .int .i64 a1_3, .int .i64 a1_4, .int .i64 a1_5] 42 (0, 0)) (by (with_reducible repeat (first | refine blk_drewN ?_ _ | refine blk_drew ?_ | refine blk_alloc ?_ _)); exact BK226.out)) : gb236 ≠ gb226)); have n11_ := Aside0.mk ((by rw [hg]; exact Nat.ne_of_lt (blk_lt (g := gb231) (o := .cells #[.int .i64 t227, .int .i64 t228, .int .i64 t229] 26 (0, 0)) (by (with_reducible repeat (first | refine blk_drewN ?_ _ | refine blk_drew ?_ | refine blk_alloc ?_ _)); exact BK231.out)) : gb231 ≠ gb236)); have n12_ := Aside0.mk ((by rw [hg]; exact Nat.ne_of_gt (blk_lt (g := gb231) (o := .cells #[.int .i64 t227, .int .i64 t228, .int .i64 t229] 26 (0, 0)) (by (with_reducible repeat (first | refine blk_drewN ?_ _ | refine blk_drew ?_ | refine blk_alloc ?_ _)); exact BK231.out)) : gb236 ≠ gb231)); clear BK225; clear BK226; clear BK231; clear HB; have BK225 := n0_; have BK226 := n1_; have BK231 := n2_; have HB := n3_; have BK236 := n4_; have GW236 := n5_; have GE236 := n6_; have NB225_236 := n7_; have NB236_225 := n8_; have NB226_236 := n9_; have NB236_226 := n10_; have NB231_236 := n11_; have NB236_231 := n12_; clear n0_ n1_ n2_ n3_ n4_ n5_ n6_ n7_ n8_ n9_ n10_ n11_ n12_; clear hb hbox hg; have hnb18 := NB236_225.out; have hnc18 := NB225_236.out; have hnb19 := NB236_226.out; have hnc19 := NB226_236.out; have hnb20 := NB236_231.out; have hnc20 := NB231_236.out; have hcz21_0 : w17.cell? ⟨gb236, 0, none⟩ = some (.int .i64 0) := (blk_cell BK236.out 0).trans rfl; have hcz21_1 : w17.cell? ⟨gb236, 1, none⟩ = some (.int .i64 0) := (blk_cell BK236.out 1).trans rfl; have hcz21_2 : w17.cell? ⟨gb236, 2, none⟩ = some (.int .i64 0) := (blk_cell BK236.out 2).trans rfl; have hfz21_0 := blk_frozen BK236.out 0; have hfz21_1 := blk_frozen BK236.out 1; have hfz21_2 := blk_frozen BK236.out 2))
  (try simp only [Act.put, List.setIfInBounds_toArray, List.set_cons_zero, List.set_cons_succ])
  go_cut [34] (fun v34 wc => ∃ (kq : Nat) (x34_4 : Bool), v34 = .bool x34_4 ∧ Aside0 (pfair_Before.j0 kq x34_4 a0_0 a0_1 a0_2 a0_3 a0_4 a0_5 a1_0 a1_1 a1_2 a1_3 a1_4 a1_5 t227 t228 t229 t232 t233 t234 = some r) ∧ Aside0 (kq ≤ k) ∧ Aside0 (wc.heap[gb225]? = some (.cells #[.int .i64 a0_0, .string a0_1, .int .i64 a0_2, .int .i64 a0_3, .int .i64 a0_4, .int .i64 a0_5] 42 (0, 0))) ∧ Aside0 (wc.heap[gb226]? = some (.cells #[.int .i64 a1_0, .string a1_1, .int .i64 a1_2, .int .i64 a1_3, .int .i64 a1_4, .int .i64 a1_5] 42 (0, 0))) ∧ Aside0 (wc.heap[gb231]? = some (.cells #[.int .i64 t227, .int .i64 t228, .int .i64 t229] 26 (0, 0))) ∧ Aside0 (wc.heap[gb236]? = some (.cells #[.int .i64 t232, .int .i64 t233, .int .i64 t234] 26 (0, 0))) ∧ Aside0 (Below w.heap.size w wc))
  case first =>
    have H := HC5.out
    clear HC5
    by_cases c22 : t230 = 0
    · rw [if_pos c22] at H
      have c22b0 : (t230 == 0) = true := beq_iff_eq.mpr c22
      have c22b1 : (t230 != 0) = false := bne_eq_false_iff_eq.mpr c22
      clear c22
      (first | rw [c22b0] | (simp only [i64_w, i32_w]; rw [c22b0]) | skip)
      have H' := Aside0.mk H
      clear H
      go_wp2
      go_meet
      case rel => exact ⟨_, ((t235 != 0)), (by first | rfl | (simp; done) | (simp [*]; done)), H', ⟨by first | omega | exact Nat.le_refl _⟩, ⟨by (with_reducible repeat (first | refine blk_drewN ?_ _ | refine blk_drew ?_ | refine blk_alloc ?_ _)); refine blk_far ?_ NB225_236.out _; (with_reducible repeat (first | refine blk_drewN ?_ _ | refine blk_drew ?_ | refine blk_alloc ?_ _)); refine blk_far ?_ NB225_236.out _; (with_reducible repeat (first | refine blk_drewN ?_ _ | refine blk_drew ?_ | refine blk_alloc ?_ _)); refine blk_far ?_ NB225_236.out _; (with_reducible repeat (first | refine blk_drewN ?_ _ | refine blk_drew ?_ | refine blk_alloc ?_ _)); exact BK225.out⟩, ⟨by (with_reducible repeat (first | refine blk_drewN ?_ _ | refine blk_drew ?_ | refine blk_alloc ?_ _)); refine blk_far ?_ NB226_236.out _; (with_reducible repeat (first | refine blk_drewN ?_ _ | refine blk_drew ?_ | refine blk_alloc ?_ _)); refine blk_far ?_ NB226_236.out _; (with_reducible repeat (first | refine blk_drewN ?_ _ | refine blk_drew ?_ | refine blk_alloc ?_ _)); refine blk_far ?_ NB226_236.out _; (with_reducible repeat (first | refine blk_drewN ?_ _ | refine blk_drew ?_ | refine blk_alloc ?_ _)); exact BK226.out⟩, ⟨by (with_reducible repeat (first | refine blk_drewN ?_ _ | refine blk_drew ?_ | refine blk_alloc ?_ _)); refine blk_far ?_ NB231_236.out _; (with_reducible repeat (first | refine blk_drewN ?_ _ | refine blk_drew ?_ | refine blk_alloc ?_ _)); refine blk_far ?_ NB231_236.out _; (with_reducible repeat (first | refine blk_drewN ?_ _ | refine blk_drew ?_ | refine blk_alloc ?_ _)); refine blk_far ?_ NB231_236.out _; (with_reducible repeat (first | refine blk_drewN ?_ _ | refine blk_drew ?_ | refine blk_alloc ?_ _)); exact BK231.out⟩, ⟨by (with_reducible repeat (first | refine blk_drewN ?_ _ | refine blk_drew ?_ | refine blk_alloc ?_ _)); refine blk_put (cs := #[.int .i64 t232, .int .i64 t233, .int .i64 0]) ?_ 2 _ rfl; (with_reducible repeat (first | refine blk_drewN ?_ _ | refine blk_drew ?_ | refine blk_alloc ?_ _)); refine blk_put (cs := #[.int .i64 t232, .int .i64 0, .int .i64 0]) ?_ 1 _ rfl; (with_reducible repeat (first | refine blk_drewN ?_ _ | refine blk_drew ?_ | refine blk_alloc ?_ _)); refine blk_put (cs := #[.int .i64 0, .int .i64 0, .int .i64 0]) ?_ 0 _ rfl; (with_reducible repeat (first | refine blk_drewN ?_ _ | refine blk_drew ?_ | refine blk_alloc ?_ _)); exact BK236.out⟩, ⟨by repeat (first | (with_reducible first | exact HB.out | apply below_alloc | apply pw_below_drewN | apply below_drew1 | refine below_set ?_ GE225.out | refine below_set ?_ GE226.out | refine below_set ?_ GE231.out | refine below_set ?_ GE236.out) | exact HB.out)⟩⟩
    · rw [if_neg c22] at H
      have c22b0 : (t230 == 0) = false := beq_eq_false_iff_ne.mpr c22
      have c22b1 : (t230 != 0) = true := bne_iff_ne.mpr c22
      (first | rw [c22b0] | (simp only [i64_w, i32_w]; rw [c22b0]) | skip)
      have H' := Aside0.mk H
      clear H
      go_wp2
      go_meet
      case rel => exact ⟨_, (true), (by first | rfl | (simp; done) | (simp [*]; done)), H', ⟨by first | omega | exact Nat.le_refl _⟩, ⟨by (with_reducible repeat (first | refine blk_drewN ?_ _ | refine blk_drew ?_ | refine blk_alloc ?_ _)); refine blk_far ?_ NB225_236.out _; (with_reducible repeat (first | refine blk_drewN ?_ _ | refine blk_drew ?_ | refine blk_alloc ?_ _)); refine blk_far ?_ NB225_236.out _; (with_reducible repeat (first | refine blk_drewN ?_ _ | refine blk_drew ?_ | refine blk_alloc ?_ _)); refine blk_far ?_ NB225_236.out _; (with_reducible repeat (first | refine blk_drewN ?_ _ | refine blk_drew ?_ | refine blk_alloc ?_ _)); exact BK225.out⟩, ⟨by (with_reducible repeat (first | refine blk_drewN ?_ _ | refine blk_drew ?_ | refine blk_alloc ?_ _)); refine blk_far ?_ NB226_236.out _; (with_reducible repeat (first | refine blk_drewN ?_ _ | refine blk_drew ?_ | refine blk_alloc ?_ _)); refine blk_far ?_ NB226_236.out _; (with_reducible repeat (first | refine blk_drewN ?_ _ | refine blk_drew ?_ | refine blk_alloc ?_ _)); refine blk_far ?_ NB226_236.out _; (with_reducible repeat (first | refine blk_drewN ?_ _ | refine blk_drew ?_ | refine blk_alloc ?_ _)); exact BK226.out⟩, ⟨by (with_reducible repeat (first | refine blk_drewN ?_ _ | refine blk_drew ?_ | refine blk_alloc ?_ _)); refine blk_far ?_ NB231_236.out _; (with_reducible repeat (first | refine blk_drewN ?_ _ | refine blk_drew ?_ | refine blk_alloc ?_ _)); refine blk_far ?_ NB231_236.out _; (with_reducible repeat (first | refine blk_drewN ?_ _ | refine blk_drew ?_ | refine blk_alloc ?_ _)); refine blk_far ?_ NB231_236.out _; (with_reducible repeat (first | refine blk_drewN ?_ _ | refine blk_drew ?_ | refine blk_alloc ?_ _)); exact BK231.out⟩, ⟨by (with_reducible repeat (first | refine blk_drewN ?_ _ | refine blk_drew ?_ | refine blk_alloc ?_ _)); refine blk_put (cs := #[.int .i64 t232, .int .i64 t233, .int .i64 0]) ?_ 2 _ rfl; (with_reducible repeat (first | refine blk_drewN ?_ _ | refine blk_drew ?_ | refine blk_alloc ?_ _)); refine blk_put (cs := #[.int .i64 t232, .int .i64 0, .int .i64 0]) ?_ 1 _ rfl; (with_reducible repeat (first | refine blk_drewN ?_ _ | refine blk_drew ?_ | refine blk_alloc ?_ _)); refine blk_put (cs := #[.int .i64 0, .int .i64 0, .int .i64 0]) ?_ 0 _ rfl; (with_reducible repeat (first | refine blk_drewN ?_ _ | refine blk_drew ?_ | refine blk_alloc ?_ _)); exact BK236.out⟩, ⟨by repeat (first | (with_reducible first | exact HB.out | apply below_alloc | apply pw_below_drewN | apply below_drew1 | refine below_set ?_ GE225.out | refine below_set ?_ GE226.out | refine below_set ?_ GE231.out | refine below_set ?_ GE236.out) | exact HB.out)⟩⟩
  case rest =>
    clear HC5
    try clear c1
    try clear c2
    try clear p2
    try clear c8
    try clear c12
    try clear c13
    try clear c18
    try clear c19
    try clear c20
    try clear c22
    try clear c22b0
    try clear c22b1
    try clear hcz14_0
    try clear hcz14_1
    try clear hcz14_2
    try clear hcz15_0
    try clear hcz15_1
    try clear hcz15_2
    try clear hcz15_3
    try clear hcz15_4
    try clear hcz15_5
    try clear hcz21_0
    try clear hcz21_1
    try clear hcz21_2
    try clear hcz9_0
    try clear hcz9_1
    try clear hcz9_2
    try clear hcz9_3
    try clear hcz9_4
    try clear hcz9_5
    try clear hfz14_0
    try clear hfz14_1
    try clear hfz14_2
    try clear hfz15_0
    try clear hfz15_1
    try clear hfz15_2
    try clear hfz15_3
    try clear hfz15_4
    try clear hfz15_5
    try clear hfz21_0
    try clear hfz21_1
    try clear hfz21_2
    try clear hfz9_0
    try clear hfz9_1
    try clear hfz9_2
    try clear hfz9_3
    try clear hfz9_4
    try clear hfz9_5
    obtain ⟨kq, x34_4, rfl, HA, HJ4, BK225, BK226, BK231, BK236, HB⟩ := hcut
    cases kq with
    | zero => exact absurd HA.out (by simp [pfair_Before.j0])
    | succ kj4 =>
      have H := HA.out
      clear HA
      simp only [pfair_Before.j0] at H
      by_cases c23 : x34_4 = true
      · subst c23
        have H1 : (some false) = some r := by rw [if_pos rfl] at H; exact H
        clear H
        have H := H1
        clear H1
        obtain rfl := Option.some.inj H
        go_wp2
        go_ret
        exact ⟨by first | rfl | (simp [errW_none, errW_some] <;> rfl) | (simp [*, errW_none, errW_some] <;> rfl), by repeat (first | (with_reducible first | exact HB.out | apply below_alloc | apply pw_below_drewN | apply below_drew1 | refine below_set ?_ GE225.out | refine below_set ?_ GE226.out | refine below_set ?_ GE231.out | refine below_set ?_ GE236.out) | exact HB.out)⟩
      · replace c23 := Bool.eq_false_iff.mpr c23
        subst c23
        have H1 : ((cmp_Compare_int.f (wrap64 (a0_4 + t229)) (wrap64 (a1_4 + t234))).bind fun t237 => (if t237 = 0 then ((pfair_Overlaps.f kj4 a0_1 a0_2 a0_3 a0_5).bind fun t238 => ((pfair_Overlaps.f kj4 a1_1 a1_2 a1_3 a1_5).bind fun t239 => (if (t238 != t239) = true then (some t238) else (if t238 = true then ((pfair_Candidate_group.f kj4 a0_0 a0_1 a0_2 a0_3 a0_4 a0_5).bind fun t240 => ((pfair_Candidate_group.f kj4 a1_0 a1_1 a1_2 a1_3 a1_4 a1_5).bind fun t241 => ((cmp_Compare_int.f t240 t241).bind fun t242 => (if t242 = 0 then (some (decide (a0_0 < a1_0))) else (some (decide (t242 > 0))))))) else (some (decide (a0_0 < a1_0))))))) else (some (decide (t237 < 0))))) = some r := by rw [if_neg (show ¬ (false = true) by decide)] at H; exact H
        clear H
        have H := H1
        clear H1
        replace H := Option.bind_eq_some_iff.mp H
        obtain ⟨t237, A240, H⟩ := H
        replace H : (if t237 = 0 then ((pfair_Overlaps.f kj4 a0_1 a0_2 a0_3 a0_5).bind fun t238 => ((pfair_Overlaps.f kj4 a1_1 a1_2 a1_3 a1_5).bind fun t239 => (if (t238 != t239) = true then (some t238) else (if t238 = true then ((pfair_Candidate_group.f kj4 a0_0 a0_1 a0_2 a0_3 a0_4 a0_5).bind fun t240 => ((pfair_Candidate_group.f kj4 a1_0 a1_1 a1_2 a1_3 a1_4 a1_5).bind fun t241 => ((cmp_Compare_int.f t240 t241).bind fun t242 => (if t242 = 0 then (some (decide (a0_0 < a1_0))) else (some (decide (t242 > 0))))))) else (some (decide (a0_0 < a1_0))))))) else (some (decide (t237 < 0)))) = some r := H
        have A24 := Aside0.mk A240
        clear A240
        by_cases c25 : t237 = 0
        · rw [if_pos c25] at H
          have c25b0 : (t237 == 0) = true := beq_iff_eq.mpr c25
          have c25b1 : (t237 != 0) = false := bne_eq_false_iff_eq.mpr c25
          clear c25
          replace H := Option.bind_eq_some_iff.mp H
          obtain ⟨t238, A260, H⟩ := H
          replace H : ((pfair_Overlaps.f kj4 a1_1 a1_2 a1_3 a1_5).bind fun t239 => (if (t238 != t239) = true then (some t238) else (if t238 = true then ((pfair_Candidate_group.f kj4 a0_0 a0_1 a0_2 a0_3 a0_4 a0_5).bind fun t240 => ((pfair_Candidate_group.f kj4 a1_0 a1_1 a1_2 a1_3 a1_4 a1_5).bind fun t241 => ((cmp_Compare_int.f t240 t241).bind fun t242 => (if t242 = 0 then (some (decide (a0_0 < a1_0))) else (some (decide (t242 > 0))))))) else (some (decide (a0_0 < a1_0)))))) = some r := H
          have A26 := Aside0.mk A260
          clear A260
          replace H := Option.bind_eq_some_iff.mp H
          obtain ⟨t239, A270, H⟩ := H
          replace H : (if (t238 != t239) = true then (some t238) else (if t238 = true then ((pfair_Candidate_group.f kj4 a0_0 a0_1 a0_2 a0_3 a0_4 a0_5).bind fun t240 => ((pfair_Candidate_group.f kj4 a1_0 a1_1 a1_2 a1_3 a1_4 a1_5).bind fun t241 => ((cmp_Compare_int.f t240 t241).bind fun t242 => (if t242 = 0 then (some (decide (a0_0 < a1_0))) else (some (decide (t242 > 0))))))) else (some (decide (a0_0 < a1_0))))) = some r := H
          have A27 := Aside0.mk A270
          clear A270
          by_cases c28 : (t238 != t239) = true
          · rw [if_pos c28] at H
            have c28b0 : (t238 != t239) = true := c28
            (try (have c28b1 : decide (t238 = t239) = false := by simpa using c28))
            (try (have c28b2 : (t238 == t239) = false := by simpa using c28))
            (try (have c28b3 : ¬ (t238 = t239) := by simpa using c28))
            clear c28
            obtain rfl := Option.some.inj H
            have hnb29 := NB225_226.out
            have hnc29 := NB226_225.out
            have hnb30 := NB225_231.out
            have hnc30 := NB231_225.out
            have hnb31 := NB225_236.out
            have hnc31 := NB236_225.out
            have hcz32_0 : wc.cell? ⟨gb225, 0, none⟩ = some (.int .i64 a0_0) := (blk_cell BK225.out 0).trans rfl
            have hcz32_1 : wc.cell? ⟨gb225, 1, none⟩ = some (.string a0_1) := (blk_cell BK225.out 1).trans rfl
            have hcz32_2 : wc.cell? ⟨gb225, 2, none⟩ = some (.int .i64 a0_2) := (blk_cell BK225.out 2).trans rfl
            have hcz32_3 : wc.cell? ⟨gb225, 3, none⟩ = some (.int .i64 a0_3) := (blk_cell BK225.out 3).trans rfl
            have hcz32_4 : wc.cell? ⟨gb225, 4, none⟩ = some (.int .i64 a0_4) := (blk_cell BK225.out 4).trans rfl
            have hcz32_5 : wc.cell? ⟨gb225, 5, none⟩ = some (.int .i64 a0_5) := (blk_cell BK225.out 5).trans rfl
            have hfz32_0 := blk_frozen BK225.out 0
            have hfz32_1 := blk_frozen BK225.out 1
            have hfz32_2 := blk_frozen BK225.out 2
            have hfz32_3 := blk_frozen BK225.out 3
            have hfz32_4 := blk_frozen BK225.out 4
            have hfz32_5 := blk_frozen BK225.out 5
            have hnb33 := NB231_226.out
            have hnc33 := NB226_231.out
            have hnb34 := NB231_236.out
            have hnc34 := NB236_231.out
            have hcz35_0 : wc.cell? ⟨gb231, 0, none⟩ = some (.int .i64 t227) := (blk_cell BK231.out 0).trans rfl
            have hcz35_1 : wc.cell? ⟨gb231, 1, none⟩ = some (.int .i64 t228) := (blk_cell BK231.out 1).trans rfl
            have hcz35_2 : wc.cell? ⟨gb231, 2, none⟩ = some (.int .i64 t229) := (blk_cell BK231.out 2).trans rfl
            have hfz35_0 := blk_frozen BK231.out 0
            have hfz35_1 := blk_frozen BK231.out 1
            have hfz35_2 := blk_frozen BK231.out 2
            have hnb36 := NB226_236.out
            have hnc36 := NB236_226.out
            have hcz37_0 : wc.cell? ⟨gb226, 0, none⟩ = some (.int .i64 a1_0) := (blk_cell BK226.out 0).trans rfl
            have hcz37_1 : wc.cell? ⟨gb226, 1, none⟩ = some (.string a1_1) := (blk_cell BK226.out 1).trans rfl
            have hcz37_2 : wc.cell? ⟨gb226, 2, none⟩ = some (.int .i64 a1_2) := (blk_cell BK226.out 2).trans rfl
            have hcz37_3 : wc.cell? ⟨gb226, 3, none⟩ = some (.int .i64 a1_3) := (blk_cell BK226.out 3).trans rfl
            have hcz37_4 : wc.cell? ⟨gb226, 4, none⟩ = some (.int .i64 a1_4) := (blk_cell BK226.out 4).trans rfl
            have hcz37_5 : wc.cell? ⟨gb226, 5, none⟩ = some (.int .i64 a1_5) := (blk_cell BK226.out 5).trans rfl
            have hfz37_0 := blk_frozen BK226.out 0
            have hfz37_1 := blk_frozen BK226.out 1
            have hfz37_2 := blk_frozen BK226.out 2
            have hfz37_3 := blk_frozen BK226.out 3
            have hfz37_4 := blk_frozen BK226.out 4
            have hfz37_5 := blk_frozen BK226.out 5
            have hcz38_0 : wc.cell? ⟨gb236, 0, none⟩ = some (.int .i64 t232) := (blk_cell BK236.out 0).trans rfl
            have hcz38_1 : wc.cell? ⟨gb236, 1, none⟩ = some (.int .i64 t233) := (blk_cell BK236.out 1).trans rfl
            have hcz38_2 : wc.cell? ⟨gb236, 2, none⟩ = some (.int .i64 t234) := (blk_cell BK236.out 2).trans rfl
            have hfz38_0 := blk_frozen BK236.out 0
            have hfz38_1 := blk_frozen BK236.out 1
            have hfz38_2 := blk_frozen BK236.out 2
            try go_wp2_with (first | ((with_reducible refine gate_callee (f := 31) rfl ?_); refine goesL_ (some 45) rfl rfl Try.func31 (by kernel_rfl) rfl #[.int .i64 (wrap64 (a0_4 + t229)), .int .i64 (wrap64 (a1_4 + t234))] rfl (by (try simp only [List.map_toArray, List.map_cons, List.map_nil]); first | done | rfl | (simp only [List.length_drop, List.length_take]; rfl)) ?_; (with_reducible refine (cmp_Compare_int.calls (wrap64 (a0_4 + t229)) (wrap64 (a1_4 + t234)) t237 _ A24.out).mono ?_); rintro e w' ⟨rfl, ⟨nd, rfl⟩⟩; refine ⟨_, rfl, ?_⟩))
            (try (rw [drewN_self wc]; generalize hq_ : World.drewN wc _ = wc; have n0_ : Aside0 (wc.heap[gb225]? = some (.cells #[.int .i64 a0_0, .string a0_1, .int .i64 a0_2, .int .i64 a0_3, .int .i64 a0_4, .int .i64 a0_5] 42 (0, 0))) := ⟨by rw [← hq_]; exact (by (with_reducible repeat (first | refine blk_drewN ?_ _ | refine blk_drew ?_ | refine blk_alloc ?_ _)); exact BK225.out)⟩; have n1_ : Aside0 (wc.heap[gb226]? = some (.cells #[.int .i64 a1_0, .string a1_1, .int .i64 a1_2, .int .i64 a1_3, .int .i64 a1_4, .int .i64 a1_5] 42 (0, 0))) := ⟨by rw [← hq_]; exact (by (with_reducible repeat (first | refine blk_drewN ?_ _ | refine blk_drew ?_ | refine blk_alloc ?_ _)); exact BK226.out)⟩; have n2_ : Aside0 (wc.heap[gb231]? = some (.cells #[.int .i64 t227, .int .i64 t228, .int .i64 t229] 26 (0, 0))) := ⟨by rw [← hq_]; exact (by (with_reducible repeat (first | refine blk_drewN ?_ _ | refine blk_drew ?_ | refine blk_alloc ?_ _)); exact BK231.out)⟩; have n3_ : Aside0 (wc.heap[gb236]? = some (.cells #[.int .i64 t232, .int .i64 t233, .int .i64 t234] 26 (0, 0))) := ⟨by rw [← hq_]; exact (by (with_reducible repeat (first | refine blk_drewN ?_ _ | refine blk_drew ?_ | refine blk_alloc ?_ _)); exact BK236.out)⟩; have n4_ : Aside0 (Below w.heap.size w wc) := ⟨by rw [← hq_]; exact (by repeat (first | (with_reducible first | exact HB.out | apply below_alloc | apply pw_below_drewN | apply below_drew1 | refine below_set ?_ GE225.out | refine below_set ?_ GE226.out | refine below_set ?_ GE231.out | refine below_set ?_ GE236.out) | exact HB.out))⟩; clear BK225 BK226 BK231 BK236 HB hq_; have BK225 := n0_; have BK226 := n1_; have BK231 := n2_; have BK236 := n3_; have HB := n4_; clear n0_ n1_ n2_ n3_ n4_))
            have n0_ := Aside0.mk (blk_drew BK225.out)
            have n1_ := Aside0.mk (blk_drew BK226.out)
            have n2_ := Aside0.mk (blk_drew BK231.out)
            have n3_ := Aside0.mk (blk_drew BK236.out)
            have n4_ := Aside0.mk (below_drew1 HB.out)
            clear BK225
            clear BK226
            clear BK231
            clear BK236
            clear HB
            have BK225 := n0_
            have BK226 := n1_
            have BK231 := n2_
            have BK236 := n3_
            have HB := n4_
            clear n0_ n1_ n2_ n3_ n4_
            refine start_ (n := 12) (S := fun w' => w'.cell? ⟨gb225, 0, none⟩ = some (.int .i64 a0_0) ∧ w'.cell? ⟨gb225, 1, none⟩ = some (.string a0_1) ∧ w'.cell? ⟨gb225, 2, none⟩ = some (.int .i64 a0_2) ∧ w'.cell? ⟨gb225, 3, none⟩ = some (.int .i64 a0_3) ∧ w'.cell? ⟨gb225, 4, none⟩ = some (.int .i64 a0_4) ∧ w'.cell? ⟨gb225, 5, none⟩ = some (.int .i64 a0_5) ∧ w'.cell? ⟨gb226, 0, none⟩ = some (.int .i64 a1_0) ∧ w'.cell? ⟨gb226, 1, none⟩ = some (.string a1_1) ∧ w'.cell? ⟨gb226, 2, none⟩ = some (.int .i64 a1_2) ∧ w'.cell? ⟨gb226, 3, none⟩ = some (.int .i64 a1_3) ∧ w'.cell? ⟨gb226, 4, none⟩ = some (.int .i64 a1_4) ∧ w'.cell? ⟨gb226, 5, none⟩ = some (.int .i64 a1_5)) (ds := []) #[false, false, false, false, false, false, false, false, false, false, false, false] (by kernel_rfl) rfl rfl ⟨(blk_cell BK225.out 0).trans rfl, (blk_cell BK225.out 1).trans rfl, (blk_cell BK225.out 2).trans rfl, (blk_cell BK225.out 3).trans rfl, (blk_cell BK225.out 4).trans rfl, (blk_cell BK225.out 5).trans rfl, (blk_cell BK226.out 0).trans rfl, (blk_cell BK226.out 1).trans rfl, (blk_cell BK226.out 2).trans rfl, (blk_cell BK226.out 3).trans rfl, (blk_cell BK226.out 4).trans rfl, (blk_cell BK226.out 5).trans rfl⟩ (fun hHeld => ?_); refine with_tabW pfair_Before.tab8 pfair_Before.bits8 (fun HT_ HW_ => ?_)
            generalize wc.drew = w39 at BK225 BK226 BK231 BK236 HB hHeld ⊢
            refine pure_ (i := 0) (N := some 50) (v := ?_) (a' := ?_) #[true, false, false, false, false, false, false, false, false, false, false, false] rfl rfl (any_of HT_.out (by kernel_rfl)) (fun _ _ _ h => h) (Or.inl ⟨by rfl, ?_⟩) ?_ ?_
            rotate_left
            · intro w'
              go_simp
              with_reducible rfl
            rotate_left
            · simp only [Act.put, List.setIfInBounds_toArray, List.set_cons_zero, List.set_cons_succ, i64_w, i32_w]
              rfl
            refine pure_ (i := 2) (N := some 52) (v := ?_) (a' := ?_) #[true, false, true, false, false, false, false, false, false, false, false, false] rfl rfl (any_of HT_.out (by kernel_rfl)) (fun _ _ _ h => h) (Or.inl ⟨by rfl, ?_⟩) ?_ ?_
            rotate_left
            · intro w'
              go_simp
              with_reducible rfl
            rotate_left
            · simp only [Act.put, List.setIfInBounds_toArray, List.set_cons_zero, List.set_cons_succ, i64_w, i32_w]
              rfl
            refine pure_ (i := 5) (N := some 55) (v := ?_) (a' := ?_) #[true, false, true, false, false, true, false, false, false, false, false, false] rfl rfl (any_of HT_.out (by kernel_rfl)) (fun _ _ _ h => h) (Or.inl ⟨by rfl, ?_⟩) ?_ ?_
            rotate_left
            · intro w'
              go_simp
              with_reducible rfl
            rotate_left
            · simp only [Act.put, List.setIfInBounds_toArray, List.set_cons_zero, List.set_cons_succ, i64_w, i32_w]
              rfl
            refine pure_ (i := 7) (N := some 57) (v := ?_) (a' := ?_) #[true, false, true, false, false, true, false, true, false, false, false, false] rfl rfl (any_of HT_.out (by kernel_rfl)) (fun _ _ _ h => h) (Or.inl ⟨by rfl, ?_⟩) ?_ ?_
            rotate_left
            · intro w'
              go_simp
              with_reducible rfl
            rotate_left
            · simp only [Act.put, List.setIfInBounds_toArray, List.set_cons_zero, List.set_cons_succ, i64_w, i32_w]
              rfl
            refine take_ (i := 1) (N := some 51) (v := ?_) (a' := ?_) #[true, true, true, false, false, true, false, true, false, false, false, false] rfl rfl (take_ofW HT_.out HW_.out (by kernel_rfl)) (fun _ _ _ h => h) (Or.inl ⟨by rfl, ?_⟩) hHeld ?_ ?_
            rotate_left
            · rintro w' ⟨s0, s1, s2, s3, s4, s5, s6, s7, s8, s9, s10, s11⟩
              go_simp
              with_reducible rfl
            rotate_left
            · simp only [Act.put, List.setIfInBounds_toArray, List.set_cons_zero, List.set_cons_succ, i64_w, i32_w]
              rfl
            refine take_ (i := 3) (N := some 53) (v := ?_) (a' := ?_) #[true, true, true, true, false, true, false, true, false, false, false, false] rfl rfl (take_ofW HT_.out HW_.out (by kernel_rfl)) (fun _ _ _ h => h) (Or.inl ⟨by rfl, ?_⟩) hHeld ?_ ?_
            rotate_left
            · rintro w' ⟨s0, s1, s2, s3, s4, s5, s6, s7, s8, s9, s10, s11⟩
              go_simp
              with_reducible rfl
            rotate_left
            · simp only [Act.put, List.setIfInBounds_toArray, List.set_cons_zero, List.set_cons_succ, i64_w, i32_w]
              rfl
            refine take_ (i := 6) (N := some 56) (v := ?_) (a' := ?_) #[true, true, true, true, false, true, true, true, false, false, false, false] rfl rfl (take_ofW HT_.out HW_.out (by kernel_rfl)) (fun _ _ _ h => h) (Or.inl ⟨by rfl, ?_⟩) hHeld ?_ ?_
            rotate_left
            · rintro w' ⟨s0, s1, s2, s3, s4, s5, s6, s7, s8, s9, s10, s11⟩
              go_simp
              with_reducible rfl
            rotate_left
            · simp only [Act.put, List.setIfInBounds_toArray, List.set_cons_zero, List.set_cons_succ, i64_w, i32_w]
              rfl
            refine take_ (i := 8) (N := some 58) (v := ?_) (a' := ?_) #[true, true, true, true, false, true, true, true, true, false, false, false] rfl rfl (take_ofW HT_.out HW_.out (by kernel_rfl)) (fun _ _ _ h => h) (Or.inl ⟨by rfl, ?_⟩) hHeld ?_ ?_
            rotate_left
            · rintro w' ⟨s0, s1, s2, s3, s4, s5, s6, s7, s8, s9, s10, s11⟩
              go_simp
              with_reducible rfl
            rotate_left
            · simp only [Act.put, List.setIfInBounds_toArray, List.set_cons_zero, List.set_cons_succ, i64_w, i32_w]
              rfl
            refine one_ (i := 4) (N := some 54) #[true, true, true, true, true, true, true, true, true, false, false, false] rfl rfl (one_of HT_.out (by kernel_rfl)) (by decide) (fun K hK => ?_)
            refine goes_ Try.func16 (by kernel_rfl) rfl #[.agg #[.string a0_1, .int .i64 a0_2, .int .i64 a0_3], .int .i64 a0_5] (by rfl) rfl rfl (by (try simp only [List.map_toArray, List.map_cons, List.map_nil]); first | done | rfl | (simp only [List.length_drop, List.length_take]; rfl)) ?_
            with_reducible refine (pfair_Overlaps.calls kj4 a0_1 a0_2 a0_3 a0_5 t238 _ A26.out).mono ?_
            rintro e w40 ⟨rfl, hb⟩
            refine ⟨_, rfl, ?_⟩
            have n0_ := Aside0.mk (blk_below (g := gb225) (o := .cells #[.int .i64 a0_0, .string a0_1, .int .i64 a0_2, .int .i64 a0_3, .int .i64 a0_4, .int .i64 a0_5] 42 (0, 0)) (by (with_reducible repeat (first | refine blk_drewN ?_ _ | refine blk_drew ?_ | refine blk_alloc ?_ _)); exact BK225.out) hb)
            have n1_ := Aside0.mk (blk_below (g := gb226) (o := .cells #[.int .i64 a1_0, .string a1_1, .int .i64 a1_2, .int .i64 a1_3, .int .i64 a1_4, .int .i64 a1_5] 42 (0, 0)) (by (with_reducible repeat (first | refine blk_drewN ?_ _ | refine blk_drew ?_ | refine blk_alloc ?_ _)); exact BK226.out) hb)
            have n2_ := Aside0.mk (blk_below (g := gb231) (o := .cells #[.int .i64 t227, .int .i64 t228, .int .i64 t229] 26 (0, 0)) (by (with_reducible repeat (first | refine blk_drewN ?_ _ | refine blk_drew ?_ | refine blk_alloc ?_ _)); exact BK231.out) hb)
            have n3_ := Aside0.mk (blk_below (g := gb236) (o := .cells #[.int .i64 t232, .int .i64 t233, .int .i64 t234] 26 (0, 0)) (by (with_reducible repeat (first | refine blk_drewN ?_ _ | refine blk_drew ?_ | refine blk_alloc ?_ _)); exact BK236.out) hb)
            have n4_ := Aside0.mk (below_step (by repeat (first | (with_reducible first | exact HB.out | apply below_alloc | apply pw_below_drewN | apply below_drew1 | refine below_set ?_ GE225.out | refine below_set ?_ GE226.out | refine below_set ?_ GE231.out | refine below_set ?_ GE236.out) | exact HB.out)) hb)
            clear BK225
            clear BK226
            clear BK231
            clear BK236
            clear HB
            have BK225 := n0_
            have BK226 := n1_
            have BK231 := n2_
            have BK236 := n3_
            have HB := n4_
            clear n0_ n1_ n2_ n3_ n4_
            (try clear hb)
            (try clear hb2)
            (try clear hk)
            (try clear hi)
            refine hK.out _ _ ⟨(blk_cell BK225.out 0).trans rfl, (blk_cell BK225.out 1).trans rfl, (blk_cell BK225.out 2).trans rfl, (blk_cell BK225.out 3).trans rfl, (blk_cell BK225.out 4).trans rfl, (blk_cell BK225.out 5).trans rfl, (blk_cell BK226.out 0).trans rfl, (blk_cell BK226.out 1).trans rfl, (blk_cell BK226.out 2).trans rfl, (blk_cell BK226.out 3).trans rfl, (blk_cell BK226.out 4).trans rfl, (blk_cell BK226.out 5).trans rfl⟩ (fun hHeld => ?_)
            clear hK K
            refine norm_ (a' := ?_) ?_ ?_
            rotate_left
            · show Act.put _ (some 54) _ = _
              simp only [Act.put, List.setIfInBounds_toArray, List.set_cons_zero, List.set_cons_succ, i64_w, i32_w]
              rfl
            refine one_ (i := 9) (N := some 59) #[true, true, true, true, true, true, true, true, true, true, false, false] rfl rfl (one_of HT_.out (by kernel_rfl)) (by decide) (fun K hK => ?_)
            refine goes_ Try.func16 (by kernel_rfl) rfl #[.agg #[.string a1_1, .int .i64 a1_2, .int .i64 a1_3], .int .i64 a1_5] (by rfl) rfl rfl (by (try simp only [List.map_toArray, List.map_cons, List.map_nil]); first | done | rfl | (simp only [List.length_drop, List.length_take]; rfl)) ?_
            with_reducible refine (pfair_Overlaps.calls kj4 a1_1 a1_2 a1_3 a1_5 t239 _ A27.out).mono ?_
            rintro e w41 ⟨rfl, hb⟩
            refine ⟨_, rfl, ?_⟩
            have n0_ := Aside0.mk (blk_below (g := gb225) (o := .cells #[.int .i64 a0_0, .string a0_1, .int .i64 a0_2, .int .i64 a0_3, .int .i64 a0_4, .int .i64 a0_5] 42 (0, 0)) (by (with_reducible repeat (first | refine blk_drewN ?_ _ | refine blk_drew ?_ | refine blk_alloc ?_ _)); exact BK225.out) hb)
            have n1_ := Aside0.mk (blk_below (g := gb226) (o := .cells #[.int .i64 a1_0, .string a1_1, .int .i64 a1_2, .int .i64 a1_3, .int .i64 a1_4, .int .i64 a1_5] 42 (0, 0)) (by (with_reducible repeat (first | refine blk_drewN ?_ _ | refine blk_drew ?_ | refine blk_alloc ?_ _)); exact BK226.out) hb)
            have n2_ := Aside0.mk (blk_below (g := gb231) (o := .cells #[.int .i64 t227, .int .i64 t228, .int .i64 t229] 26 (0, 0)) (by (with_reducible repeat (first | refine blk_drewN ?_ _ | refine blk_drew ?_ | refine blk_alloc ?_ _)); exact BK231.out) hb)
            have n3_ := Aside0.mk (blk_below (g := gb236) (o := .cells #[.int .i64 t232, .int .i64 t233, .int .i64 t234] 26 (0, 0)) (by (with_reducible repeat (first | refine blk_drewN ?_ _ | refine blk_drew ?_ | refine blk_alloc ?_ _)); exact BK236.out) hb)
            have n4_ := Aside0.mk (below_step (by repeat (first | (with_reducible first | exact HB.out | apply below_alloc | apply pw_below_drewN | apply below_drew1 | refine below_set ?_ GE225.out | refine below_set ?_ GE226.out | refine below_set ?_ GE231.out | refine below_set ?_ GE236.out) | exact HB.out)) hb)
            clear BK225
            clear BK226
            clear BK231
            clear BK236
            clear HB
            have BK225 := n0_
            have BK226 := n1_
            have BK231 := n2_
            have BK236 := n3_
            have HB := n4_
            clear n0_ n1_ n2_ n3_ n4_
            (try clear hb)
            (try clear hb2)
            (try clear hk)
            (try clear hi)
            refine hK.out _ _ ⟨(blk_cell BK225.out 0).trans rfl, (blk_cell BK225.out 1).trans rfl, (blk_cell BK225.out 2).trans rfl, (blk_cell BK225.out 3).trans rfl, (blk_cell BK225.out 4).trans rfl, (blk_cell BK225.out 5).trans rfl, (blk_cell BK226.out 0).trans rfl, (blk_cell BK226.out 1).trans rfl, (blk_cell BK226.out 2).trans rfl, (blk_cell BK226.out 3).trans rfl, (blk_cell BK226.out 4).trans rfl, (blk_cell BK226.out 5).trans rfl⟩ (fun hHeld => ?_)
            clear hK K
            refine norm_ (a' := ?_) ?_ ?_
            rotate_left
            · show Act.put _ (some 59) _ = _
              simp only [Act.put, List.setIfInBounds_toArray, List.set_cons_zero, List.set_cons_succ, i64_w, i32_w]
              rfl
            refine pure_ (i := 10) (N := some 10) (v := ?_) (a' := ?_) #[true, true, true, true, true, true, true, true, true, true, true, false] rfl rfl (any_of HT_.out (by kernel_rfl)) (fun _ _ _ h => h) (Or.inl ⟨by rfl, ?_⟩) ?_ ?_
            rotate_left
            · intro w'
              go_simp
              with_reducible rfl
            rotate_left
            · simp only [Act.put, List.setIfInBounds_toArray, List.set_cons_zero, List.set_cons_succ, i64_w, i32_w]
              rfl
            refine pure_ (i := 11) (N := some 11) (v := ?_) (a' := ?_) #[true, true, true, true, true, true, true, true, true, true, true, true] rfl rfl (any_of HT_.out (by kernel_rfl)) (fun _ _ _ h => h) (Or.inl ⟨by rfl, ?_⟩) ?_ ?_
            rotate_left
            · intro w'
              go_simp
              with_reducible rfl
            rotate_left
            · simp only [Act.put, List.setIfInBounds_toArray, List.set_cons_zero, List.set_cons_succ, i64_w, i32_w]
              rfl
            refine done_ (done_of HT_.out (by kernel_rfl)) ?_
            try go_wp2
            go_ret
            exact ⟨by first | rfl | (simp [errW_none, errW_some] <;> rfl) | (simp [*, errW_none, errW_some] <;> rfl), by repeat (first | (with_reducible first | exact HB.out | apply below_alloc | apply pw_below_drewN | apply below_drew1 | refine below_set ?_ GE225.out | refine below_set ?_ GE226.out | refine below_set ?_ GE231.out | refine below_set ?_ GE236.out) | exact HB.out)⟩
          · rw [if_neg c28] at H
            have c28b0 : (t238 != t239) = false := by simpa using c28
            (try (have c28b1 : decide (t238 = t239) = true := by simpa using c28))
            (try (have c28b2 : (t238 == t239) = true := by simpa using c28))
            clear c28
            by_cases c42 : t238 = true
            · subst c42
              have H1 : ((pfair_Candidate_group.f kj4 a0_0 a0_1 a0_2 a0_3 a0_4 a0_5).bind fun t240 => ((pfair_Candidate_group.f kj4 a1_0 a1_1 a1_2 a1_3 a1_4 a1_5).bind fun t241 => ((cmp_Compare_int.f t240 t241).bind fun t242 => (if t242 = 0 then (some (decide (a0_0 < a1_0))) else (some (decide (t242 > 0))))))) = some r := by rw [if_pos rfl] at H; exact H
              clear H
              have H := H1
              clear H1
              replace H := Option.bind_eq_some_iff.mp H
              obtain ⟨t240, A430, H⟩ := H
              replace H : ((pfair_Candidate_group.f kj4 a1_0 a1_1 a1_2 a1_3 a1_4 a1_5).bind fun t241 => ((cmp_Compare_int.f t240 t241).bind fun t242 => (if t242 = 0 then (some (decide (a0_0 < a1_0))) else (some (decide (t242 > 0)))))) = some r := H
              have A43 := Aside0.mk A430
              clear A430
              replace H := Option.bind_eq_some_iff.mp H
              obtain ⟨t241, A440, H⟩ := H
              replace H : ((cmp_Compare_int.f t240 t241).bind fun t242 => (if t242 = 0 then (some (decide (a0_0 < a1_0))) else (some (decide (t242 > 0))))) = some r := H
              have A44 := Aside0.mk A440
              clear A440
              replace H := Option.bind_eq_some_iff.mp H
              obtain ⟨t242, A450, H⟩ := H
              replace H : (if t242 = 0 then (some (decide (a0_0 < a1_0))) else (some (decide (t242 > 0)))) = some r := H
              have A45 := Aside0.mk A450
              clear A450
              by_cases c46 : t242 = 0
              · rw [if_pos c46] at H
                have c46b0 : (t242 == 0) = true := beq_iff_eq.mpr c46
                have c46b1 : (t242 != 0) = false := bne_eq_false_iff_eq.mpr c46
                clear c46
                obtain rfl := Option.some.inj H
                have hnb47 := NB225_226.out
                have hnc47 := NB226_225.out
                have hnb48 := NB225_231.out
                have hnc48 := NB231_225.out
                have hnb49 := NB225_236.out
                have hnc49 := NB236_225.out
                have hcz50_0 : wc.cell? ⟨gb225, 0, none⟩ = some (.int .i64 a0_0) := (blk_cell BK225.out 0).trans rfl
                have hcz50_1 : wc.cell? ⟨gb225, 1, none⟩ = some (.string a0_1) := (blk_cell BK225.out 1).trans rfl
                have hcz50_2 : wc.cell? ⟨gb225, 2, none⟩ = some (.int .i64 a0_2) := (blk_cell BK225.out 2).trans rfl
                have hcz50_3 : wc.cell? ⟨gb225, 3, none⟩ = some (.int .i64 a0_3) := (blk_cell BK225.out 3).trans rfl
                have hcz50_4 : wc.cell? ⟨gb225, 4, none⟩ = some (.int .i64 a0_4) := (blk_cell BK225.out 4).trans rfl
                have hcz50_5 : wc.cell? ⟨gb225, 5, none⟩ = some (.int .i64 a0_5) := (blk_cell BK225.out 5).trans rfl
                have hfz50_0 := blk_frozen BK225.out 0
                have hfz50_1 := blk_frozen BK225.out 1
                have hfz50_2 := blk_frozen BK225.out 2
                have hfz50_3 := blk_frozen BK225.out 3
                have hfz50_4 := blk_frozen BK225.out 4
                have hfz50_5 := blk_frozen BK225.out 5
                have hnb51 := NB231_226.out
                have hnc51 := NB226_231.out
                have hnb52 := NB231_236.out
                have hnc52 := NB236_231.out
                have hcz53_0 : wc.cell? ⟨gb231, 0, none⟩ = some (.int .i64 t227) := (blk_cell BK231.out 0).trans rfl
                have hcz53_1 : wc.cell? ⟨gb231, 1, none⟩ = some (.int .i64 t228) := (blk_cell BK231.out 1).trans rfl
                have hcz53_2 : wc.cell? ⟨gb231, 2, none⟩ = some (.int .i64 t229) := (blk_cell BK231.out 2).trans rfl
                have hfz53_0 := blk_frozen BK231.out 0
                have hfz53_1 := blk_frozen BK231.out 1
                have hfz53_2 := blk_frozen BK231.out 2
                have hnb54 := NB226_236.out
                have hnc54 := NB236_226.out
                have hcz55_0 : wc.cell? ⟨gb226, 0, none⟩ = some (.int .i64 a1_0) := (blk_cell BK226.out 0).trans rfl
                have hcz55_1 : wc.cell? ⟨gb226, 1, none⟩ = some (.string a1_1) := (blk_cell BK226.out 1).trans rfl
                have hcz55_2 : wc.cell? ⟨gb226, 2, none⟩ = some (.int .i64 a1_2) := (blk_cell BK226.out 2).trans rfl
                have hcz55_3 : wc.cell? ⟨gb226, 3, none⟩ = some (.int .i64 a1_3) := (blk_cell BK226.out 3).trans rfl
                have hcz55_4 : wc.cell? ⟨gb226, 4, none⟩ = some (.int .i64 a1_4) := (blk_cell BK226.out 4).trans rfl
                have hcz55_5 : wc.cell? ⟨gb226, 5, none⟩ = some (.int .i64 a1_5) := (blk_cell BK226.out 5).trans rfl
                have hfz55_0 := blk_frozen BK226.out 0
                have hfz55_1 := blk_frozen BK226.out 1
                have hfz55_2 := blk_frozen BK226.out 2
                have hfz55_3 := blk_frozen BK226.out 3
                have hfz55_4 := blk_frozen BK226.out 4
                have hfz55_5 := blk_frozen BK226.out 5
                have hcz56_0 : wc.cell? ⟨gb236, 0, none⟩ = some (.int .i64 t232) := (blk_cell BK236.out 0).trans rfl
                have hcz56_1 : wc.cell? ⟨gb236, 1, none⟩ = some (.int .i64 t233) := (blk_cell BK236.out 1).trans rfl
                have hcz56_2 : wc.cell? ⟨gb236, 2, none⟩ = some (.int .i64 t234) := (blk_cell BK236.out 2).trans rfl
                have hfz56_0 := blk_frozen BK236.out 0
                have hfz56_1 := blk_frozen BK236.out 1
                have hfz56_2 := blk_frozen BK236.out 2
                try go_wp2_with (first | ((with_reducible refine gate_callee (f := 31) rfl ?_); refine goesL_ (some 45) rfl rfl Try.func31 (by kernel_rfl) rfl #[.int .i64 (wrap64 (a0_4 + t229)), .int .i64 (wrap64 (a1_4 + t234))] rfl (by (try simp only [List.map_toArray, List.map_cons, List.map_nil]); first | done | rfl | (simp only [List.length_drop, List.length_take]; rfl)) ?_; (with_reducible refine (cmp_Compare_int.calls (wrap64 (a0_4 + t229)) (wrap64 (a1_4 + t234)) t237 _ A24.out).mono ?_); rintro e w' ⟨rfl, ⟨nd, rfl⟩⟩; refine ⟨_, rfl, ?_⟩))
                (try (rw [drewN_self wc]; generalize hq_ : World.drewN wc _ = wc; have n0_ : Aside0 (wc.heap[gb225]? = some (.cells #[.int .i64 a0_0, .string a0_1, .int .i64 a0_2, .int .i64 a0_3, .int .i64 a0_4, .int .i64 a0_5] 42 (0, 0))) := ⟨by rw [← hq_]; exact (by (with_reducible repeat (first | refine blk_drewN ?_ _ | refine blk_drew ?_ | refine blk_alloc ?_ _)); exact BK225.out)⟩; have n1_ : Aside0 (wc.heap[gb226]? = some (.cells #[.int .i64 a1_0, .string a1_1, .int .i64 a1_2, .int .i64 a1_3, .int .i64 a1_4, .int .i64 a1_5] 42 (0, 0))) := ⟨by rw [← hq_]; exact (by (with_reducible repeat (first | refine blk_drewN ?_ _ | refine blk_drew ?_ | refine blk_alloc ?_ _)); exact BK226.out)⟩; have n2_ : Aside0 (wc.heap[gb231]? = some (.cells #[.int .i64 t227, .int .i64 t228, .int .i64 t229] 26 (0, 0))) := ⟨by rw [← hq_]; exact (by (with_reducible repeat (first | refine blk_drewN ?_ _ | refine blk_drew ?_ | refine blk_alloc ?_ _)); exact BK231.out)⟩; have n3_ : Aside0 (wc.heap[gb236]? = some (.cells #[.int .i64 t232, .int .i64 t233, .int .i64 t234] 26 (0, 0))) := ⟨by rw [← hq_]; exact (by (with_reducible repeat (first | refine blk_drewN ?_ _ | refine blk_drew ?_ | refine blk_alloc ?_ _)); exact BK236.out)⟩; have n4_ : Aside0 (Below w.heap.size w wc) := ⟨by rw [← hq_]; exact (by repeat (first | (with_reducible first | exact HB.out | apply below_alloc | apply pw_below_drewN | apply below_drew1 | refine below_set ?_ GE225.out | refine below_set ?_ GE226.out | refine below_set ?_ GE231.out | refine below_set ?_ GE236.out) | exact HB.out))⟩; clear BK225 BK226 BK231 BK236 HB hq_; have BK225 := n0_; have BK226 := n1_; have BK231 := n2_; have BK236 := n3_; have HB := n4_; clear n0_ n1_ n2_ n3_ n4_))
                have n0_ := Aside0.mk (blk_drew BK225.out)
                have n1_ := Aside0.mk (blk_drew BK226.out)
                have n2_ := Aside0.mk (blk_drew BK231.out)
                have n3_ := Aside0.mk (blk_drew BK236.out)
                have n4_ := Aside0.mk (below_drew1 HB.out)
                clear BK225
                clear BK226
                clear BK231
                clear BK236
                clear HB
                have BK225 := n0_
                have BK226 := n1_
                have BK231 := n2_
                have BK236 := n3_
                have HB := n4_
                clear n0_ n1_ n2_ n3_ n4_
                refine start_ (n := 12) (S := fun w' => w'.cell? ⟨gb225, 0, none⟩ = some (.int .i64 a0_0) ∧ w'.cell? ⟨gb225, 1, none⟩ = some (.string a0_1) ∧ w'.cell? ⟨gb225, 2, none⟩ = some (.int .i64 a0_2) ∧ w'.cell? ⟨gb225, 3, none⟩ = some (.int .i64 a0_3) ∧ w'.cell? ⟨gb225, 4, none⟩ = some (.int .i64 a0_4) ∧ w'.cell? ⟨gb225, 5, none⟩ = some (.int .i64 a0_5) ∧ w'.cell? ⟨gb226, 0, none⟩ = some (.int .i64 a1_0) ∧ w'.cell? ⟨gb226, 1, none⟩ = some (.string a1_1) ∧ w'.cell? ⟨gb226, 2, none⟩ = some (.int .i64 a1_2) ∧ w'.cell? ⟨gb226, 3, none⟩ = some (.int .i64 a1_3) ∧ w'.cell? ⟨gb226, 4, none⟩ = some (.int .i64 a1_4) ∧ w'.cell? ⟨gb226, 5, none⟩ = some (.int .i64 a1_5)) (ds := []) #[false, false, false, false, false, false, false, false, false, false, false, false] (by kernel_rfl) rfl rfl ⟨(blk_cell BK225.out 0).trans rfl, (blk_cell BK225.out 1).trans rfl, (blk_cell BK225.out 2).trans rfl, (blk_cell BK225.out 3).trans rfl, (blk_cell BK225.out 4).trans rfl, (blk_cell BK225.out 5).trans rfl, (blk_cell BK226.out 0).trans rfl, (blk_cell BK226.out 1).trans rfl, (blk_cell BK226.out 2).trans rfl, (blk_cell BK226.out 3).trans rfl, (blk_cell BK226.out 4).trans rfl, (blk_cell BK226.out 5).trans rfl⟩ (fun hHeld => ?_); refine with_tabW pfair_Before.tab8 pfair_Before.bits8 (fun HT_ HW_ => ?_)
                generalize wc.drew = w57 at BK225 BK226 BK231 BK236 HB hHeld ⊢
                refine pure_ (i := 0) (N := some 50) (v := ?_) (a' := ?_) #[true, false, false, false, false, false, false, false, false, false, false, false] rfl rfl (any_of HT_.out (by kernel_rfl)) (fun _ _ _ h => h) (Or.inl ⟨by rfl, ?_⟩) ?_ ?_
                rotate_left
                · intro w'
                  go_simp
                  with_reducible rfl
                rotate_left
                · simp only [Act.put, List.setIfInBounds_toArray, List.set_cons_zero, List.set_cons_succ, i64_w, i32_w]
                  rfl
                refine pure_ (i := 2) (N := some 52) (v := ?_) (a' := ?_) #[true, false, true, false, false, false, false, false, false, false, false, false] rfl rfl (any_of HT_.out (by kernel_rfl)) (fun _ _ _ h => h) (Or.inl ⟨by rfl, ?_⟩) ?_ ?_
                rotate_left
                · intro w'
                  go_simp
                  with_reducible rfl
                rotate_left
                · simp only [Act.put, List.setIfInBounds_toArray, List.set_cons_zero, List.set_cons_succ, i64_w, i32_w]
                  rfl
                refine pure_ (i := 5) (N := some 55) (v := ?_) (a' := ?_) #[true, false, true, false, false, true, false, false, false, false, false, false] rfl rfl (any_of HT_.out (by kernel_rfl)) (fun _ _ _ h => h) (Or.inl ⟨by rfl, ?_⟩) ?_ ?_
                rotate_left
                · intro w'
                  go_simp
                  with_reducible rfl
                rotate_left
                · simp only [Act.put, List.setIfInBounds_toArray, List.set_cons_zero, List.set_cons_succ, i64_w, i32_w]
                  rfl
                refine pure_ (i := 7) (N := some 57) (v := ?_) (a' := ?_) #[true, false, true, false, false, true, false, true, false, false, false, false] rfl rfl (any_of HT_.out (by kernel_rfl)) (fun _ _ _ h => h) (Or.inl ⟨by rfl, ?_⟩) ?_ ?_
                rotate_left
                · intro w'
                  go_simp
                  with_reducible rfl
                rotate_left
                · simp only [Act.put, List.setIfInBounds_toArray, List.set_cons_zero, List.set_cons_succ, i64_w, i32_w]
                  rfl
                refine take_ (i := 1) (N := some 51) (v := ?_) (a' := ?_) #[true, true, true, false, false, true, false, true, false, false, false, false] rfl rfl (take_ofW HT_.out HW_.out (by kernel_rfl)) (fun _ _ _ h => h) (Or.inl ⟨by rfl, ?_⟩) hHeld ?_ ?_
                rotate_left
                · rintro w' ⟨s0, s1, s2, s3, s4, s5, s6, s7, s8, s9, s10, s11⟩
                  go_simp
                  with_reducible rfl
                rotate_left
                · simp only [Act.put, List.setIfInBounds_toArray, List.set_cons_zero, List.set_cons_succ, i64_w, i32_w]
                  rfl
                refine take_ (i := 3) (N := some 53) (v := ?_) (a' := ?_) #[true, true, true, true, false, true, false, true, false, false, false, false] rfl rfl (take_ofW HT_.out HW_.out (by kernel_rfl)) (fun _ _ _ h => h) (Or.inl ⟨by rfl, ?_⟩) hHeld ?_ ?_
                rotate_left
                · rintro w' ⟨s0, s1, s2, s3, s4, s5, s6, s7, s8, s9, s10, s11⟩
                  go_simp
                  with_reducible rfl
                rotate_left
                · simp only [Act.put, List.setIfInBounds_toArray, List.set_cons_zero, List.set_cons_succ, i64_w, i32_w]
                  rfl
                refine take_ (i := 6) (N := some 56) (v := ?_) (a' := ?_) #[true, true, true, true, false, true, true, true, false, false, false, false] rfl rfl (take_ofW HT_.out HW_.out (by kernel_rfl)) (fun _ _ _ h => h) (Or.inl ⟨by rfl, ?_⟩) hHeld ?_ ?_
                rotate_left
                · rintro w' ⟨s0, s1, s2, s3, s4, s5, s6, s7, s8, s9, s10, s11⟩
                  go_simp
                  with_reducible rfl
                rotate_left
                · simp only [Act.put, List.setIfInBounds_toArray, List.set_cons_zero, List.set_cons_succ, i64_w, i32_w]
                  rfl
                refine take_ (i := 8) (N := some 58) (v := ?_) (a' := ?_) #[true, true, true, true, false, true, true, true, true, false, false, false] rfl rfl (take_ofW HT_.out HW_.out (by kernel_rfl)) (fun _ _ _ h => h) (Or.inl ⟨by rfl, ?_⟩) hHeld ?_ ?_
                rotate_left
                · rintro w' ⟨s0, s1, s2, s3, s4, s5, s6, s7, s8, s9, s10, s11⟩
                  go_simp
                  with_reducible rfl
                rotate_left
                · simp only [Act.put, List.setIfInBounds_toArray, List.set_cons_zero, List.set_cons_succ, i64_w, i32_w]
                  rfl
                refine one_ (i := 4) (N := some 54) #[true, true, true, true, true, true, true, true, true, false, false, false] rfl rfl (one_of HT_.out (by kernel_rfl)) (by decide) (fun K hK => ?_)
                refine goes_ Try.func16 (by kernel_rfl) rfl #[.agg #[.string a0_1, .int .i64 a0_2, .int .i64 a0_3], .int .i64 a0_5] (by rfl) rfl rfl (by (try simp only [List.map_toArray, List.map_cons, List.map_nil]); first | done | rfl | (simp only [List.length_drop, List.length_take]; rfl)) ?_
                with_reducible refine (pfair_Overlaps.calls kj4 a0_1 a0_2 a0_3 a0_5 true _ A26.out).mono ?_
                rintro e w58 ⟨rfl, hb⟩
                refine ⟨_, rfl, ?_⟩
                have n0_ := Aside0.mk (blk_below (g := gb225) (o := .cells #[.int .i64 a0_0, .string a0_1, .int .i64 a0_2, .int .i64 a0_3, .int .i64 a0_4, .int .i64 a0_5] 42 (0, 0)) (by (with_reducible repeat (first | refine blk_drewN ?_ _ | refine blk_drew ?_ | refine blk_alloc ?_ _)); exact BK225.out) hb)
                have n1_ := Aside0.mk (blk_below (g := gb226) (o := .cells #[.int .i64 a1_0, .string a1_1, .int .i64 a1_2, .int .i64 a1_3, .int .i64 a1_4, .int .i64 a1_5] 42 (0, 0)) (by (with_reducible repeat (first | refine blk_drewN ?_ _ | refine blk_drew ?_ | refine blk_alloc ?_ _)); exact BK226.out) hb)
                have n2_ := Aside0.mk (blk_below (g := gb231) (o := .cells #[.int .i64 t227, .int .i64 t228, .int .i64 t229] 26 (0, 0)) (by (with_reducible repeat (first | refine blk_drewN ?_ _ | refine blk_drew ?_ | refine blk_alloc ?_ _)); exact BK231.out) hb)
                have n3_ := Aside0.mk (blk_below (g := gb236) (o := .cells #[.int .i64 t232, .int .i64 t233, .int .i64 t234] 26 (0, 0)) (by (with_reducible repeat (first | refine blk_drewN ?_ _ | refine blk_drew ?_ | refine blk_alloc ?_ _)); exact BK236.out) hb)
                have n4_ := Aside0.mk (below_step (by repeat (first | (with_reducible first | exact HB.out | apply below_alloc | apply pw_below_drewN | apply below_drew1 | refine below_set ?_ GE225.out | refine below_set ?_ GE226.out | refine below_set ?_ GE231.out | refine below_set ?_ GE236.out) | exact HB.out)) hb)
                clear BK225
                clear BK226
                clear BK231
                clear BK236
                clear HB
                have BK225 := n0_
                have BK226 := n1_
                have BK231 := n2_
                have BK236 := n3_
                have HB := n4_
                clear n0_ n1_ n2_ n3_ n4_
                (try clear hb)
                (try clear hb2)
                (try clear hk)
                (try clear hi)
                refine hK.out _ _ ⟨(blk_cell BK225.out 0).trans rfl, (blk_cell BK225.out 1).trans rfl, (blk_cell BK225.out 2).trans rfl, (blk_cell BK225.out 3).trans rfl, (blk_cell BK225.out 4).trans rfl, (blk_cell BK225.out 5).trans rfl, (blk_cell BK226.out 0).trans rfl, (blk_cell BK226.out 1).trans rfl, (blk_cell BK226.out 2).trans rfl, (blk_cell BK226.out 3).trans rfl, (blk_cell BK226.out 4).trans rfl, (blk_cell BK226.out 5).trans rfl⟩ (fun hHeld => ?_)
                clear hK K
                refine norm_ (a' := ?_) ?_ ?_
                rotate_left
                · show Act.put _ (some 54) _ = _
                  simp only [Act.put, List.setIfInBounds_toArray, List.set_cons_zero, List.set_cons_succ, i64_w, i32_w]
                  rfl
                refine one_ (i := 9) (N := some 59) #[true, true, true, true, true, true, true, true, true, true, false, false] rfl rfl (one_of HT_.out (by kernel_rfl)) (by decide) (fun K hK => ?_)
                refine goes_ Try.func16 (by kernel_rfl) rfl #[.agg #[.string a1_1, .int .i64 a1_2, .int .i64 a1_3], .int .i64 a1_5] (by rfl) rfl rfl (by (try simp only [List.map_toArray, List.map_cons, List.map_nil]); first | done | rfl | (simp only [List.length_drop, List.length_take]; rfl)) ?_
                with_reducible refine (pfair_Overlaps.calls kj4 a1_1 a1_2 a1_3 a1_5 t239 _ A27.out).mono ?_
                rintro e w59 ⟨rfl, hb⟩
                refine ⟨_, rfl, ?_⟩
                have n0_ := Aside0.mk (blk_below (g := gb225) (o := .cells #[.int .i64 a0_0, .string a0_1, .int .i64 a0_2, .int .i64 a0_3, .int .i64 a0_4, .int .i64 a0_5] 42 (0, 0)) (by (with_reducible repeat (first | refine blk_drewN ?_ _ | refine blk_drew ?_ | refine blk_alloc ?_ _)); exact BK225.out) hb)
                have n1_ := Aside0.mk (blk_below (g := gb226) (o := .cells #[.int .i64 a1_0, .string a1_1, .int .i64 a1_2, .int .i64 a1_3, .int .i64 a1_4, .int .i64 a1_5] 42 (0, 0)) (by (with_reducible repeat (first | refine blk_drewN ?_ _ | refine blk_drew ?_ | refine blk_alloc ?_ _)); exact BK226.out) hb)
                have n2_ := Aside0.mk (blk_below (g := gb231) (o := .cells #[.int .i64 t227, .int .i64 t228, .int .i64 t229] 26 (0, 0)) (by (with_reducible repeat (first | refine blk_drewN ?_ _ | refine blk_drew ?_ | refine blk_alloc ?_ _)); exact BK231.out) hb)
                have n3_ := Aside0.mk (blk_below (g := gb236) (o := .cells #[.int .i64 t232, .int .i64 t233, .int .i64 t234] 26 (0, 0)) (by (with_reducible repeat (first | refine blk_drewN ?_ _ | refine blk_drew ?_ | refine blk_alloc ?_ _)); exact BK236.out) hb)
                have n4_ := Aside0.mk (below_step (by repeat (first | (with_reducible first | exact HB.out | apply below_alloc | apply pw_below_drewN | apply below_drew1 | refine below_set ?_ GE225.out | refine below_set ?_ GE226.out | refine below_set ?_ GE231.out | refine below_set ?_ GE236.out) | exact HB.out)) hb)
                clear BK225
                clear BK226
                clear BK231
                clear BK236
                clear HB
                have BK225 := n0_
                have BK226 := n1_
                have BK231 := n2_
                have BK236 := n3_
                have HB := n4_
                clear n0_ n1_ n2_ n3_ n4_
                (try clear hb)
                (try clear hb2)
                (try clear hk)
                (try clear hi)
                refine hK.out _ _ ⟨(blk_cell BK225.out 0).trans rfl, (blk_cell BK225.out 1).trans rfl, (blk_cell BK225.out 2).trans rfl, (blk_cell BK225.out 3).trans rfl, (blk_cell BK225.out 4).trans rfl, (blk_cell BK225.out 5).trans rfl, (blk_cell BK226.out 0).trans rfl, (blk_cell BK226.out 1).trans rfl, (blk_cell BK226.out 2).trans rfl, (blk_cell BK226.out 3).trans rfl, (blk_cell BK226.out 4).trans rfl, (blk_cell BK226.out 5).trans rfl⟩ (fun hHeld => ?_)
                clear hK K
                refine norm_ (a' := ?_) ?_ ?_
                rotate_left
                · show Act.put _ (some 59) _ = _
                  simp only [Act.put, List.setIfInBounds_toArray, List.set_cons_zero, List.set_cons_succ, i64_w, i32_w]
                  rfl
                refine pure_ (i := 10) (N := some 10) (v := ?_) (a' := ?_) #[true, true, true, true, true, true, true, true, true, true, true, false] rfl rfl (any_of HT_.out (by kernel_rfl)) (fun _ _ _ h => h) (Or.inl ⟨by rfl, ?_⟩) ?_ ?_
                rotate_left
                · intro w'
                  go_simp
                  with_reducible rfl
                rotate_left
                · simp only [Act.put, List.setIfInBounds_toArray, List.set_cons_zero, List.set_cons_succ, i64_w, i32_w]
                  rfl
                refine pure_ (i := 11) (N := some 11) (v := ?_) (a' := ?_) #[true, true, true, true, true, true, true, true, true, true, true, true] rfl rfl (any_of HT_.out (by kernel_rfl)) (fun _ _ _ h => h) (Or.inl ⟨by rfl, ?_⟩) ?_ ?_
                rotate_left
                · intro w'
                  go_simp
                  with_reducible rfl
                rotate_left
                · simp only [Act.put, List.setIfInBounds_toArray, List.set_cons_zero, List.set_cons_succ, i64_w, i32_w]
                  rfl
                refine done_ (done_of HT_.out (by kernel_rfl)) ?_
                try go_wp2
                have n0_ := Aside0.mk (blk_drew BK225.out)
                have n1_ := Aside0.mk (blk_drew BK226.out)
                have n2_ := Aside0.mk (blk_drew BK231.out)
                have n3_ := Aside0.mk (blk_drew BK236.out)
                have n4_ := Aside0.mk (below_drew1 HB.out)
                clear BK225
                clear BK226
                clear BK231
                clear BK236
                clear HB
                have BK225 := n0_
                have BK226 := n1_
                have BK231 := n2_
                have BK236 := n3_
                have HB := n4_
                clear n0_ n1_ n2_ n3_ n4_
                refine start_ (n := 6) (S := fun w' => w'.cell? ⟨gb225, 0, none⟩ = some (.int .i64 a0_0) ∧ w'.cell? ⟨gb225, 1, none⟩ = some (.string a0_1) ∧ w'.cell? ⟨gb225, 2, none⟩ = some (.int .i64 a0_2) ∧ w'.cell? ⟨gb225, 3, none⟩ = some (.int .i64 a0_3) ∧ w'.cell? ⟨gb225, 4, none⟩ = some (.int .i64 a0_4) ∧ w'.cell? ⟨gb225, 5, none⟩ = some (.int .i64 a0_5) ∧ w'.cell? ⟨gb226, 0, none⟩ = some (.int .i64 a1_0) ∧ w'.cell? ⟨gb226, 1, none⟩ = some (.string a1_1) ∧ w'.cell? ⟨gb226, 2, none⟩ = some (.int .i64 a1_2) ∧ w'.cell? ⟨gb226, 3, none⟩ = some (.int .i64 a1_3) ∧ w'.cell? ⟨gb226, 4, none⟩ = some (.int .i64 a1_4) ∧ w'.cell? ⟨gb226, 5, none⟩ = some (.int .i64 a1_5)) (ds := []) #[false, false, false, false, false, false] (by kernel_rfl) rfl rfl ⟨(blk_cell BK225.out 0).trans rfl, (blk_cell BK225.out 1).trans rfl, (blk_cell BK225.out 2).trans rfl, (blk_cell BK225.out 3).trans rfl, (blk_cell BK225.out 4).trans rfl, (blk_cell BK225.out 5).trans rfl, (blk_cell BK226.out 0).trans rfl, (blk_cell BK226.out 1).trans rfl, (blk_cell BK226.out 2).trans rfl, (blk_cell BK226.out 3).trans rfl, (blk_cell BK226.out 4).trans rfl, (blk_cell BK226.out 5).trans rfl⟩ (fun hHeld => ?_)
                generalize w59.drew = w60 at BK225 BK226 BK231 BK236 HB hHeld ⊢
                refine take_ (i := 0) (N := some 65) (v := ?_) (a' := ?_) #[true, false, false, false, false, false] rfl rfl (by kernel_rfl) (fun _ _ _ h => h) (Or.inl ⟨by rfl, ?_⟩) hHeld ?_ ?_
                rotate_left
                · rintro w' ⟨s0, s1, s2, s3, s4, s5, s6, s7, s8, s9, s10, s11⟩
                  go_simp
                  with_reducible rfl
                rotate_left
                · simp only [Act.put, List.setIfInBounds_toArray, List.set_cons_zero, List.set_cons_succ, i64_w, i32_w]
                  rfl
                refine take_ (i := 2) (N := some 67) (v := ?_) (a' := ?_) #[true, false, true, false, false, false] rfl rfl (by kernel_rfl) (fun _ _ _ h => h) (Or.inl ⟨by rfl, ?_⟩) hHeld ?_ ?_
                rotate_left
                · rintro w' ⟨s0, s1, s2, s3, s4, s5, s6, s7, s8, s9, s10, s11⟩
                  go_simp
                  with_reducible rfl
                rotate_left
                · simp only [Act.put, List.setIfInBounds_toArray, List.set_cons_zero, List.set_cons_succ, i64_w, i32_w]
                  rfl
                refine one_ (i := 1) (N := some 66) #[true, true, true, false, false, false] rfl rfl (by kernel_rfl) (by decide) (fun K hK => ?_)
                refine goes_ Try.func32 (by kernel_rfl) rfl #[.agg #[.int .i64 a0_0, .string a0_1, .int .i64 a0_2, .int .i64 a0_3, .int .i64 a0_4, .int .i64 a0_5]] (by rfl) rfl rfl (by (try simp only [List.map_toArray, List.map_cons, List.map_nil]); first | done | rfl | (simp only [List.length_drop, List.length_take]; rfl)) ?_
                with_reducible refine (pfair_Candidate_group.calls kj4 a0_0 a0_1 a0_2 a0_3 a0_4 a0_5 t240 _ A43.out).mono ?_
                rintro e w61 ⟨rfl, hb⟩
                refine ⟨_, rfl, ?_⟩
                have n0_ := Aside0.mk (blk_below (g := gb225) (o := .cells #[.int .i64 a0_0, .string a0_1, .int .i64 a0_2, .int .i64 a0_3, .int .i64 a0_4, .int .i64 a0_5] 42 (0, 0)) (by (with_reducible repeat (first | refine blk_drewN ?_ _ | refine blk_drew ?_ | refine blk_alloc ?_ _)); exact BK225.out) hb)
                have n1_ := Aside0.mk (blk_below (g := gb226) (o := .cells #[.int .i64 a1_0, .string a1_1, .int .i64 a1_2, .int .i64 a1_3, .int .i64 a1_4, .int .i64 a1_5] 42 (0, 0)) (by (with_reducible repeat (first | refine blk_drewN ?_ _ | refine blk_drew ?_ | refine blk_alloc ?_ _)); exact BK226.out) hb)
                have n2_ := Aside0.mk (blk_below (g := gb231) (o := .cells #[.int .i64 t227, .int .i64 t228, .int .i64 t229] 26 (0, 0)) (by (with_reducible repeat (first | refine blk_drewN ?_ _ | refine blk_drew ?_ | refine blk_alloc ?_ _)); exact BK231.out) hb)
                have n3_ := Aside0.mk (blk_below (g := gb236) (o := .cells #[.int .i64 t232, .int .i64 t233, .int .i64 t234] 26 (0, 0)) (by (with_reducible repeat (first | refine blk_drewN ?_ _ | refine blk_drew ?_ | refine blk_alloc ?_ _)); exact BK236.out) hb)
                have n4_ := Aside0.mk (below_step (by repeat (first | (with_reducible first | exact HB.out | apply below_alloc | apply pw_below_drewN | apply below_drew1 | refine below_set ?_ GE225.out | refine below_set ?_ GE226.out | refine below_set ?_ GE231.out | refine below_set ?_ GE236.out) | exact HB.out)) hb)
                clear BK225
                clear BK226
                clear BK231
                clear BK236
                clear HB
                have BK225 := n0_
                have BK226 := n1_
                have BK231 := n2_
                have BK236 := n3_
                have HB := n4_
                clear n0_ n1_ n2_ n3_ n4_
                (try clear hb)
                (try clear hb2)
                (try clear hk)
                (try clear hi)
                refine hK.out _ _ ⟨(blk_cell BK225.out 0).trans rfl, (blk_cell BK225.out 1).trans rfl, (blk_cell BK225.out 2).trans rfl, (blk_cell BK225.out 3).trans rfl, (blk_cell BK225.out 4).trans rfl, (blk_cell BK225.out 5).trans rfl, (blk_cell BK226.out 0).trans rfl, (blk_cell BK226.out 1).trans rfl, (blk_cell BK226.out 2).trans rfl, (blk_cell BK226.out 3).trans rfl, (blk_cell BK226.out 4).trans rfl, (blk_cell BK226.out 5).trans rfl⟩ (fun hHeld => ?_)
                clear hK K
                refine norm_ (a' := ?_) ?_ ?_
                rotate_left
                · show Act.put _ (some 66) _ = _
                  simp only [Act.put, List.setIfInBounds_toArray, List.set_cons_zero, List.set_cons_succ, i64_w, i32_w]
                  rfl
                refine one_ (i := 3) (N := some 68) #[true, true, true, true, false, false] rfl rfl (by kernel_rfl) (by decide) (fun K hK => ?_)
                refine goes_ Try.func32 (by kernel_rfl) rfl #[.agg #[.int .i64 a1_0, .string a1_1, .int .i64 a1_2, .int .i64 a1_3, .int .i64 a1_4, .int .i64 a1_5]] (by rfl) rfl rfl (by (try simp only [List.map_toArray, List.map_cons, List.map_nil]); first | done | rfl | (simp only [List.length_drop, List.length_take]; rfl)) ?_
                with_reducible refine (pfair_Candidate_group.calls kj4 a1_0 a1_1 a1_2 a1_3 a1_4 a1_5 t241 _ A44.out).mono ?_
                rintro e w62 ⟨rfl, hb⟩
                refine ⟨_, rfl, ?_⟩
                have n0_ := Aside0.mk (blk_below (g := gb225) (o := .cells #[.int .i64 a0_0, .string a0_1, .int .i64 a0_2, .int .i64 a0_3, .int .i64 a0_4, .int .i64 a0_5] 42 (0, 0)) (by (with_reducible repeat (first | refine blk_drewN ?_ _ | refine blk_drew ?_ | refine blk_alloc ?_ _)); exact BK225.out) hb)
                have n1_ := Aside0.mk (blk_below (g := gb226) (o := .cells #[.int .i64 a1_0, .string a1_1, .int .i64 a1_2, .int .i64 a1_3, .int .i64 a1_4, .int .i64 a1_5] 42 (0, 0)) (by (with_reducible repeat (first | refine blk_drewN ?_ _ | refine blk_drew ?_ | refine blk_alloc ?_ _)); exact BK226.out) hb)
                have n2_ := Aside0.mk (blk_below (g := gb231) (o := .cells #[.int .i64 t227, .int .i64 t228, .int .i64 t229] 26 (0, 0)) (by (with_reducible repeat (first | refine blk_drewN ?_ _ | refine blk_drew ?_ | refine blk_alloc ?_ _)); exact BK231.out) hb)
                have n3_ := Aside0.mk (blk_below (g := gb236) (o := .cells #[.int .i64 t232, .int .i64 t233, .int .i64 t234] 26 (0, 0)) (by (with_reducible repeat (first | refine blk_drewN ?_ _ | refine blk_drew ?_ | refine blk_alloc ?_ _)); exact BK236.out) hb)
                have n4_ := Aside0.mk (below_step (by repeat (first | (with_reducible first | exact HB.out | apply below_alloc | apply pw_below_drewN | apply below_drew1 | refine below_set ?_ GE225.out | refine below_set ?_ GE226.out | refine below_set ?_ GE231.out | refine below_set ?_ GE236.out) | exact HB.out)) hb)
                clear BK225
                clear BK226
                clear BK231
                clear BK236
                clear HB
                have BK225 := n0_
                have BK226 := n1_
                have BK231 := n2_
                have BK236 := n3_
                have HB := n4_
                clear n0_ n1_ n2_ n3_ n4_
                (try clear hb)
                (try clear hb2)
                (try clear hk)
                (try clear hi)
                refine hK.out _ _ ⟨(blk_cell BK225.out 0).trans rfl, (blk_cell BK225.out 1).trans rfl, (blk_cell BK225.out 2).trans rfl, (blk_cell BK225.out 3).trans rfl, (blk_cell BK225.out 4).trans rfl, (blk_cell BK225.out 5).trans rfl, (blk_cell BK226.out 0).trans rfl, (blk_cell BK226.out 1).trans rfl, (blk_cell BK226.out 2).trans rfl, (blk_cell BK226.out 3).trans rfl, (blk_cell BK226.out 4).trans rfl, (blk_cell BK226.out 5).trans rfl⟩ (fun hHeld => ?_)
                clear hK K
                refine norm_ (a' := ?_) ?_ ?_
                rotate_left
                · show Act.put _ (some 68) _ = _
                  simp only [Act.put, List.setIfInBounds_toArray, List.set_cons_zero, List.set_cons_succ, i64_w, i32_w]
                  rfl
                refine one_ (i := 4) (N := some 69) #[true, true, true, true, true, false] rfl rfl (by kernel_rfl) (by decide) (fun K hK => ?_)
                refine goes_ Try.func31 (by kernel_rfl) rfl #[.int .i64 t240, .int .i64 t241] (by rfl) rfl rfl (by (try simp only [List.map_toArray, List.map_cons, List.map_nil]); first | done | rfl | (simp only [List.length_drop, List.length_take]; rfl)) ?_
                with_reducible refine (cmp_Compare_int.calls t240 t241 t242 _ A45.out).mono ?_
                rintro e w' ⟨rfl, ⟨nd, rfl⟩⟩
                refine ⟨_, rfl, ?_⟩
                refine hK.out _ _ ⟨(blk_cell BK225.out 0).trans rfl, (blk_cell BK225.out 1).trans rfl, (blk_cell BK225.out 2).trans rfl, (blk_cell BK225.out 3).trans rfl, (blk_cell BK225.out 4).trans rfl, (blk_cell BK225.out 5).trans rfl, (blk_cell BK226.out 0).trans rfl, (blk_cell BK226.out 1).trans rfl, (blk_cell BK226.out 2).trans rfl, (blk_cell BK226.out 3).trans rfl, (blk_cell BK226.out 4).trans rfl, (blk_cell BK226.out 5).trans rfl⟩ (fun hHeld => ?_)
                clear hK K
                refine norm_ (a' := ?_) ?_ ?_
                rotate_left
                · show Act.put _ (some 69) _ = _
                  simp only [Act.put, List.setIfInBounds_toArray, List.set_cons_zero, List.set_cons_succ, i64_w, i32_w]
                  rfl
                refine pure_ (i := 5) (N := some 12) (v := ?_) (a' := ?_) #[true, true, true, true, true, true] rfl rfl (by kernel_rfl) (fun _ _ _ h => h) (Or.inl ⟨by rfl, ?_⟩) ?_ ?_
                rotate_left
                · intro w'
                  go_simp
                  with_reducible rfl
                rotate_left
                · simp only [Act.put, List.setIfInBounds_toArray, List.set_cons_zero, List.set_cons_succ, i64_w, i32_w]
                  rfl
                refine done_ (by kernel_rfl) ?_
                have hcz63_0 : w62.cell? ⟨gb225, 0, none⟩ = some (.int .i64 a0_0) := (blk_cell BK225.out 0).trans rfl
                have hcz63_1 : w62.cell? ⟨gb225, 1, none⟩ = some (.string a0_1) := (blk_cell BK225.out 1).trans rfl
                have hcz63_2 : w62.cell? ⟨gb225, 2, none⟩ = some (.int .i64 a0_2) := (blk_cell BK225.out 2).trans rfl
                have hcz63_3 : w62.cell? ⟨gb225, 3, none⟩ = some (.int .i64 a0_3) := (blk_cell BK225.out 3).trans rfl
                have hcz63_4 : w62.cell? ⟨gb225, 4, none⟩ = some (.int .i64 a0_4) := (blk_cell BK225.out 4).trans rfl
                have hcz63_5 : w62.cell? ⟨gb225, 5, none⟩ = some (.int .i64 a0_5) := (blk_cell BK225.out 5).trans rfl
                have hfz63_0 := blk_frozen BK225.out 0
                have hfz63_1 := blk_frozen BK225.out 1
                have hfz63_2 := blk_frozen BK225.out 2
                have hfz63_3 := blk_frozen BK225.out 3
                have hfz63_4 := blk_frozen BK225.out 4
                have hfz63_5 := blk_frozen BK225.out 5
                have hcz64_0 : w62.cell? ⟨gb226, 0, none⟩ = some (.int .i64 a1_0) := (blk_cell BK226.out 0).trans rfl
                have hcz64_1 : w62.cell? ⟨gb226, 1, none⟩ = some (.string a1_1) := (blk_cell BK226.out 1).trans rfl
                have hcz64_2 : w62.cell? ⟨gb226, 2, none⟩ = some (.int .i64 a1_2) := (blk_cell BK226.out 2).trans rfl
                have hcz64_3 : w62.cell? ⟨gb226, 3, none⟩ = some (.int .i64 a1_3) := (blk_cell BK226.out 3).trans rfl
                have hcz64_4 : w62.cell? ⟨gb226, 4, none⟩ = some (.int .i64 a1_4) := (blk_cell BK226.out 4).trans rfl
                have hcz64_5 : w62.cell? ⟨gb226, 5, none⟩ = some (.int .i64 a1_5) := (blk_cell BK226.out 5).trans rfl
                have hfz64_0 := blk_frozen BK226.out 0
                have hfz64_1 := blk_frozen BK226.out 1
                have hfz64_2 := blk_frozen BK226.out 2
                have hfz64_3 := blk_frozen BK226.out 3
                have hfz64_4 := blk_frozen BK226.out 4
                have hfz64_5 := blk_frozen BK226.out 5
                try go_wp2
                go_ret
                exact ⟨by first | rfl | (simp [errW_none, errW_some] <;> rfl) | (simp [*, errW_none, errW_some] <;> rfl), by repeat (first | (with_reducible first | exact HB.out | apply below_alloc | apply pw_below_drewN | apply below_drew1 | refine below_set ?_ GE225.out | refine below_set ?_ GE226.out | refine below_set ?_ GE231.out | refine below_set ?_ GE236.out) | exact HB.out)⟩
              · rw [if_neg c46] at H
                have c46b0 : (t242 == 0) = false := beq_eq_false_iff_ne.mpr c46
                have c46b1 : (t242 != 0) = true := bne_iff_ne.mpr c46
                obtain rfl := Option.some.inj H
                have hnb65 := NB225_226.out
                have hnc65 := NB226_225.out
                have hnb66 := NB225_231.out
                have hnc66 := NB231_225.out
                have hnb67 := NB225_236.out
                have hnc67 := NB236_225.out
                have hcz68_0 : wc.cell? ⟨gb225, 0, none⟩ = some (.int .i64 a0_0) := (blk_cell BK225.out 0).trans rfl
                have hcz68_1 : wc.cell? ⟨gb225, 1, none⟩ = some (.string a0_1) := (blk_cell BK225.out 1).trans rfl
                have hcz68_2 : wc.cell? ⟨gb225, 2, none⟩ = some (.int .i64 a0_2) := (blk_cell BK225.out 2).trans rfl
                have hcz68_3 : wc.cell? ⟨gb225, 3, none⟩ = some (.int .i64 a0_3) := (blk_cell BK225.out 3).trans rfl
                have hcz68_4 : wc.cell? ⟨gb225, 4, none⟩ = some (.int .i64 a0_4) := (blk_cell BK225.out 4).trans rfl
                have hcz68_5 : wc.cell? ⟨gb225, 5, none⟩ = some (.int .i64 a0_5) := (blk_cell BK225.out 5).trans rfl
                have hfz68_0 := blk_frozen BK225.out 0
                have hfz68_1 := blk_frozen BK225.out 1
                have hfz68_2 := blk_frozen BK225.out 2
                have hfz68_3 := blk_frozen BK225.out 3
                have hfz68_4 := blk_frozen BK225.out 4
                have hfz68_5 := blk_frozen BK225.out 5
                have hnb69 := NB231_226.out
                have hnc69 := NB226_231.out
                have hnb70 := NB231_236.out
                have hnc70 := NB236_231.out
                have hcz71_0 : wc.cell? ⟨gb231, 0, none⟩ = some (.int .i64 t227) := (blk_cell BK231.out 0).trans rfl
                have hcz71_1 : wc.cell? ⟨gb231, 1, none⟩ = some (.int .i64 t228) := (blk_cell BK231.out 1).trans rfl
                have hcz71_2 : wc.cell? ⟨gb231, 2, none⟩ = some (.int .i64 t229) := (blk_cell BK231.out 2).trans rfl
                have hfz71_0 := blk_frozen BK231.out 0
                have hfz71_1 := blk_frozen BK231.out 1
                have hfz71_2 := blk_frozen BK231.out 2
                have hnb72 := NB226_236.out
                have hnc72 := NB236_226.out
                have hcz73_0 : wc.cell? ⟨gb226, 0, none⟩ = some (.int .i64 a1_0) := (blk_cell BK226.out 0).trans rfl
                have hcz73_1 : wc.cell? ⟨gb226, 1, none⟩ = some (.string a1_1) := (blk_cell BK226.out 1).trans rfl
                have hcz73_2 : wc.cell? ⟨gb226, 2, none⟩ = some (.int .i64 a1_2) := (blk_cell BK226.out 2).trans rfl
                have hcz73_3 : wc.cell? ⟨gb226, 3, none⟩ = some (.int .i64 a1_3) := (blk_cell BK226.out 3).trans rfl
                have hcz73_4 : wc.cell? ⟨gb226, 4, none⟩ = some (.int .i64 a1_4) := (blk_cell BK226.out 4).trans rfl
                have hcz73_5 : wc.cell? ⟨gb226, 5, none⟩ = some (.int .i64 a1_5) := (blk_cell BK226.out 5).trans rfl
                have hfz73_0 := blk_frozen BK226.out 0
                have hfz73_1 := blk_frozen BK226.out 1
                have hfz73_2 := blk_frozen BK226.out 2
                have hfz73_3 := blk_frozen BK226.out 3
                have hfz73_4 := blk_frozen BK226.out 4
                have hfz73_5 := blk_frozen BK226.out 5
                have hcz74_0 : wc.cell? ⟨gb236, 0, none⟩ = some (.int .i64 t232) := (blk_cell BK236.out 0).trans rfl
                have hcz74_1 : wc.cell? ⟨gb236, 1, none⟩ = some (.int .i64 t233) := (blk_cell BK236.out 1).trans rfl
                have hcz74_2 : wc.cell? ⟨gb236, 2, none⟩ = some (.int .i64 t234) := (blk_cell BK236.out 2).trans rfl
                have hfz74_0 := blk_frozen BK236.out 0
                have hfz74_1 := blk_frozen BK236.out 1
                have hfz74_2 := blk_frozen BK236.out 2
                try go_wp2_with (first | ((with_reducible refine gate_callee (f := 31) rfl ?_); refine goesL_ (some 45) rfl rfl Try.func31 (by kernel_rfl) rfl #[.int .i64 (wrap64 (a0_4 + t229)), .int .i64 (wrap64 (a1_4 + t234))] rfl (by (try simp only [List.map_toArray, List.map_cons, List.map_nil]); first | done | rfl | (simp only [List.length_drop, List.length_take]; rfl)) ?_; (with_reducible refine (cmp_Compare_int.calls (wrap64 (a0_4 + t229)) (wrap64 (a1_4 + t234)) t237 _ A24.out).mono ?_); rintro e w' ⟨rfl, ⟨nd, rfl⟩⟩; refine ⟨_, rfl, ?_⟩))
                (try (rw [drewN_self wc]; generalize hq_ : World.drewN wc _ = wc; have n0_ : Aside0 (wc.heap[gb225]? = some (.cells #[.int .i64 a0_0, .string a0_1, .int .i64 a0_2, .int .i64 a0_3, .int .i64 a0_4, .int .i64 a0_5] 42 (0, 0))) := ⟨by rw [← hq_]; exact (by (with_reducible repeat (first | refine blk_drewN ?_ _ | refine blk_drew ?_ | refine blk_alloc ?_ _)); exact BK225.out)⟩; have n1_ : Aside0 (wc.heap[gb226]? = some (.cells #[.int .i64 a1_0, .string a1_1, .int .i64 a1_2, .int .i64 a1_3, .int .i64 a1_4, .int .i64 a1_5] 42 (0, 0))) := ⟨by rw [← hq_]; exact (by (with_reducible repeat (first | refine blk_drewN ?_ _ | refine blk_drew ?_ | refine blk_alloc ?_ _)); exact BK226.out)⟩; have n2_ : Aside0 (wc.heap[gb231]? = some (.cells #[.int .i64 t227, .int .i64 t228, .int .i64 t229] 26 (0, 0))) := ⟨by rw [← hq_]; exact (by (with_reducible repeat (first | refine blk_drewN ?_ _ | refine blk_drew ?_ | refine blk_alloc ?_ _)); exact BK231.out)⟩; have n3_ : Aside0 (wc.heap[gb236]? = some (.cells #[.int .i64 t232, .int .i64 t233, .int .i64 t234] 26 (0, 0))) := ⟨by rw [← hq_]; exact (by (with_reducible repeat (first | refine blk_drewN ?_ _ | refine blk_drew ?_ | refine blk_alloc ?_ _)); exact BK236.out)⟩; have n4_ : Aside0 (Below w.heap.size w wc) := ⟨by rw [← hq_]; exact (by repeat (first | (with_reducible first | exact HB.out | apply below_alloc | apply pw_below_drewN | apply below_drew1 | refine below_set ?_ GE225.out | refine below_set ?_ GE226.out | refine below_set ?_ GE231.out | refine below_set ?_ GE236.out) | exact HB.out))⟩; clear BK225 BK226 BK231 BK236 HB hq_; have BK225 := n0_; have BK226 := n1_; have BK231 := n2_; have BK236 := n3_; have HB := n4_; clear n0_ n1_ n2_ n3_ n4_))
                have n0_ := Aside0.mk (blk_drew BK225.out)
                have n1_ := Aside0.mk (blk_drew BK226.out)
                have n2_ := Aside0.mk (blk_drew BK231.out)
                have n3_ := Aside0.mk (blk_drew BK236.out)
                have n4_ := Aside0.mk (below_drew1 HB.out)
                clear BK225
                clear BK226
                clear BK231
                clear BK236
                clear HB
                have BK225 := n0_
                have BK226 := n1_
                have BK231 := n2_
                have BK236 := n3_
                have HB := n4_
                clear n0_ n1_ n2_ n3_ n4_
                refine start_ (n := 12) (S := fun w' => w'.cell? ⟨gb225, 0, none⟩ = some (.int .i64 a0_0) ∧ w'.cell? ⟨gb225, 1, none⟩ = some (.string a0_1) ∧ w'.cell? ⟨gb225, 2, none⟩ = some (.int .i64 a0_2) ∧ w'.cell? ⟨gb225, 3, none⟩ = some (.int .i64 a0_3) ∧ w'.cell? ⟨gb225, 4, none⟩ = some (.int .i64 a0_4) ∧ w'.cell? ⟨gb225, 5, none⟩ = some (.int .i64 a0_5) ∧ w'.cell? ⟨gb226, 0, none⟩ = some (.int .i64 a1_0) ∧ w'.cell? ⟨gb226, 1, none⟩ = some (.string a1_1) ∧ w'.cell? ⟨gb226, 2, none⟩ = some (.int .i64 a1_2) ∧ w'.cell? ⟨gb226, 3, none⟩ = some (.int .i64 a1_3) ∧ w'.cell? ⟨gb226, 4, none⟩ = some (.int .i64 a1_4) ∧ w'.cell? ⟨gb226, 5, none⟩ = some (.int .i64 a1_5)) (ds := []) #[false, false, false, false, false, false, false, false, false, false, false, false] (by kernel_rfl) rfl rfl ⟨(blk_cell BK225.out 0).trans rfl, (blk_cell BK225.out 1).trans rfl, (blk_cell BK225.out 2).trans rfl, (blk_cell BK225.out 3).trans rfl, (blk_cell BK225.out 4).trans rfl, (blk_cell BK225.out 5).trans rfl, (blk_cell BK226.out 0).trans rfl, (blk_cell BK226.out 1).trans rfl, (blk_cell BK226.out 2).trans rfl, (blk_cell BK226.out 3).trans rfl, (blk_cell BK226.out 4).trans rfl, (blk_cell BK226.out 5).trans rfl⟩ (fun hHeld => ?_); refine with_tabW pfair_Before.tab8 pfair_Before.bits8 (fun HT_ HW_ => ?_)
                generalize wc.drew = w75 at BK225 BK226 BK231 BK236 HB hHeld ⊢
                refine pure_ (i := 0) (N := some 50) (v := ?_) (a' := ?_) #[true, false, false, false, false, false, false, false, false, false, false, false] rfl rfl (any_of HT_.out (by kernel_rfl)) (fun _ _ _ h => h) (Or.inl ⟨by rfl, ?_⟩) ?_ ?_
                rotate_left
                · intro w'
                  go_simp
                  with_reducible rfl
                rotate_left
                · simp only [Act.put, List.setIfInBounds_toArray, List.set_cons_zero, List.set_cons_succ, i64_w, i32_w]
                  rfl
                refine pure_ (i := 2) (N := some 52) (v := ?_) (a' := ?_) #[true, false, true, false, false, false, false, false, false, false, false, false] rfl rfl (any_of HT_.out (by kernel_rfl)) (fun _ _ _ h => h) (Or.inl ⟨by rfl, ?_⟩) ?_ ?_
                rotate_left
                · intro w'
                  go_simp
                  with_reducible rfl
                rotate_left
                · simp only [Act.put, List.setIfInBounds_toArray, List.set_cons_zero, List.set_cons_succ, i64_w, i32_w]
                  rfl
                refine pure_ (i := 5) (N := some 55) (v := ?_) (a' := ?_) #[true, false, true, false, false, true, false, false, false, false, false, false] rfl rfl (any_of HT_.out (by kernel_rfl)) (fun _ _ _ h => h) (Or.inl ⟨by rfl, ?_⟩) ?_ ?_
                rotate_left
                · intro w'
                  go_simp
                  with_reducible rfl
                rotate_left
                · simp only [Act.put, List.setIfInBounds_toArray, List.set_cons_zero, List.set_cons_succ, i64_w, i32_w]
                  rfl
                refine pure_ (i := 7) (N := some 57) (v := ?_) (a' := ?_) #[true, false, true, false, false, true, false, true, false, false, false, false] rfl rfl (any_of HT_.out (by kernel_rfl)) (fun _ _ _ h => h) (Or.inl ⟨by rfl, ?_⟩) ?_ ?_
                rotate_left
                · intro w'
                  go_simp
                  with_reducible rfl
                rotate_left
                · simp only [Act.put, List.setIfInBounds_toArray, List.set_cons_zero, List.set_cons_succ, i64_w, i32_w]
                  rfl
                refine take_ (i := 1) (N := some 51) (v := ?_) (a' := ?_) #[true, true, true, false, false, true, false, true, false, false, false, false] rfl rfl (take_ofW HT_.out HW_.out (by kernel_rfl)) (fun _ _ _ h => h) (Or.inl ⟨by rfl, ?_⟩) hHeld ?_ ?_
                rotate_left
                · rintro w' ⟨s0, s1, s2, s3, s4, s5, s6, s7, s8, s9, s10, s11⟩
                  go_simp
                  with_reducible rfl
                rotate_left
                · simp only [Act.put, List.setIfInBounds_toArray, List.set_cons_zero, List.set_cons_succ, i64_w, i32_w]
                  rfl
                refine take_ (i := 3) (N := some 53) (v := ?_) (a' := ?_) #[true, true, true, true, false, true, false, true, false, false, false, false] rfl rfl (take_ofW HT_.out HW_.out (by kernel_rfl)) (fun _ _ _ h => h) (Or.inl ⟨by rfl, ?_⟩) hHeld ?_ ?_
                rotate_left
                · rintro w' ⟨s0, s1, s2, s3, s4, s5, s6, s7, s8, s9, s10, s11⟩
                  go_simp
                  with_reducible rfl
                rotate_left
                · simp only [Act.put, List.setIfInBounds_toArray, List.set_cons_zero, List.set_cons_succ, i64_w, i32_w]
                  rfl
                refine take_ (i := 6) (N := some 56) (v := ?_) (a' := ?_) #[true, true, true, true, false, true, true, true, false, false, false, false] rfl rfl (take_ofW HT_.out HW_.out (by kernel_rfl)) (fun _ _ _ h => h) (Or.inl ⟨by rfl, ?_⟩) hHeld ?_ ?_
                rotate_left
                · rintro w' ⟨s0, s1, s2, s3, s4, s5, s6, s7, s8, s9, s10, s11⟩
                  go_simp
                  with_reducible rfl
                rotate_left
                · simp only [Act.put, List.setIfInBounds_toArray, List.set_cons_zero, List.set_cons_succ, i64_w, i32_w]
                  rfl
                refine take_ (i := 8) (N := some 58) (v := ?_) (a' := ?_) #[true, true, true, true, false, true, true, true, true, false, false, false] rfl rfl (take_ofW HT_.out HW_.out (by kernel_rfl)) (fun _ _ _ h => h) (Or.inl ⟨by rfl, ?_⟩) hHeld ?_ ?_
                rotate_left
                · rintro w' ⟨s0, s1, s2, s3, s4, s5, s6, s7, s8, s9, s10, s11⟩
                  go_simp
                  with_reducible rfl
                rotate_left
                · simp only [Act.put, List.setIfInBounds_toArray, List.set_cons_zero, List.set_cons_succ, i64_w, i32_w]
                  rfl
                refine one_ (i := 4) (N := some 54) #[true, true, true, true, true, true, true, true, true, false, false, false] rfl rfl (one_of HT_.out (by kernel_rfl)) (by decide) (fun K hK => ?_)
                refine goes_ Try.func16 (by kernel_rfl) rfl #[.agg #[.string a0_1, .int .i64 a0_2, .int .i64 a0_3], .int .i64 a0_5] (by rfl) rfl rfl (by (try simp only [List.map_toArray, List.map_cons, List.map_nil]); first | done | rfl | (simp only [List.length_drop, List.length_take]; rfl)) ?_
                with_reducible refine (pfair_Overlaps.calls kj4 a0_1 a0_2 a0_3 a0_5 true _ A26.out).mono ?_
                rintro e w76 ⟨rfl, hb⟩
                refine ⟨_, rfl, ?_⟩
                have n0_ := Aside0.mk (blk_below (g := gb225) (o := .cells #[.int .i64 a0_0, .string a0_1, .int .i64 a0_2, .int .i64 a0_3, .int .i64 a0_4, .int .i64 a0_5] 42 (0, 0)) (by (with_reducible repeat (first | refine blk_drewN ?_ _ | refine blk_drew ?_ | refine blk_alloc ?_ _)); exact BK225.out) hb)
                have n1_ := Aside0.mk (blk_below (g := gb226) (o := .cells #[.int .i64 a1_0, .string a1_1, .int .i64 a1_2, .int .i64 a1_3, .int .i64 a1_4, .int .i64 a1_5] 42 (0, 0)) (by (with_reducible repeat (first | refine blk_drewN ?_ _ | refine blk_drew ?_ | refine blk_alloc ?_ _)); exact BK226.out) hb)
                have n2_ := Aside0.mk (blk_below (g := gb231) (o := .cells #[.int .i64 t227, .int .i64 t228, .int .i64 t229] 26 (0, 0)) (by (with_reducible repeat (first | refine blk_drewN ?_ _ | refine blk_drew ?_ | refine blk_alloc ?_ _)); exact BK231.out) hb)
                have n3_ := Aside0.mk (blk_below (g := gb236) (o := .cells #[.int .i64 t232, .int .i64 t233, .int .i64 t234] 26 (0, 0)) (by (with_reducible repeat (first | refine blk_drewN ?_ _ | refine blk_drew ?_ | refine blk_alloc ?_ _)); exact BK236.out) hb)
                have n4_ := Aside0.mk (below_step (by repeat (first | (with_reducible first | exact HB.out | apply below_alloc | apply pw_below_drewN | apply below_drew1 | refine below_set ?_ GE225.out | refine below_set ?_ GE226.out | refine below_set ?_ GE231.out | refine below_set ?_ GE236.out) | exact HB.out)) hb)
                clear BK225
                clear BK226
                clear BK231
                clear BK236
                clear HB
                have BK225 := n0_
                have BK226 := n1_
                have BK231 := n2_
                have BK236 := n3_
                have HB := n4_
                clear n0_ n1_ n2_ n3_ n4_
                (try clear hb)
                (try clear hb2)
                (try clear hk)
                (try clear hi)
                refine hK.out _ _ ⟨(blk_cell BK225.out 0).trans rfl, (blk_cell BK225.out 1).trans rfl, (blk_cell BK225.out 2).trans rfl, (blk_cell BK225.out 3).trans rfl, (blk_cell BK225.out 4).trans rfl, (blk_cell BK225.out 5).trans rfl, (blk_cell BK226.out 0).trans rfl, (blk_cell BK226.out 1).trans rfl, (blk_cell BK226.out 2).trans rfl, (blk_cell BK226.out 3).trans rfl, (blk_cell BK226.out 4).trans rfl, (blk_cell BK226.out 5).trans rfl⟩ (fun hHeld => ?_)
                clear hK K
                refine norm_ (a' := ?_) ?_ ?_
                rotate_left
                · show Act.put _ (some 54) _ = _
                  simp only [Act.put, List.setIfInBounds_toArray, List.set_cons_zero, List.set_cons_succ, i64_w, i32_w]
                  rfl
                refine one_ (i := 9) (N := some 59) #[true, true, true, true, true, true, true, true, true, true, false, false] rfl rfl (one_of HT_.out (by kernel_rfl)) (by decide) (fun K hK => ?_)
                refine goes_ Try.func16 (by kernel_rfl) rfl #[.agg #[.string a1_1, .int .i64 a1_2, .int .i64 a1_3], .int .i64 a1_5] (by rfl) rfl rfl (by (try simp only [List.map_toArray, List.map_cons, List.map_nil]); first | done | rfl | (simp only [List.length_drop, List.length_take]; rfl)) ?_
                with_reducible refine (pfair_Overlaps.calls kj4 a1_1 a1_2 a1_3 a1_5 t239 _ A27.out).mono ?_
                rintro e w77 ⟨rfl, hb⟩
                refine ⟨_, rfl, ?_⟩
                have n0_ := Aside0.mk (blk_below (g := gb225) (o := .cells #[.int .i64 a0_0, .string a0_1, .int .i64 a0_2, .int .i64 a0_3, .int .i64 a0_4, .int .i64 a0_5] 42 (0, 0)) (by (with_reducible repeat (first | refine blk_drewN ?_ _ | refine blk_drew ?_ | refine blk_alloc ?_ _)); exact BK225.out) hb)
                have n1_ := Aside0.mk (blk_below (g := gb226) (o := .cells #[.int .i64 a1_0, .string a1_1, .int .i64 a1_2, .int .i64 a1_3, .int .i64 a1_4, .int .i64 a1_5] 42 (0, 0)) (by (with_reducible repeat (first | refine blk_drewN ?_ _ | refine blk_drew ?_ | refine blk_alloc ?_ _)); exact BK226.out) hb)
                have n2_ := Aside0.mk (blk_below (g := gb231) (o := .cells #[.int .i64 t227, .int .i64 t228, .int .i64 t229] 26 (0, 0)) (by (with_reducible repeat (first | refine blk_drewN ?_ _ | refine blk_drew ?_ | refine blk_alloc ?_ _)); exact BK231.out) hb)
                have n3_ := Aside0.mk (blk_below (g := gb236) (o := .cells #[.int .i64 t232, .int .i64 t233, .int .i64 t234] 26 (0, 0)) (by (with_reducible repeat (first | refine blk_drewN ?_ _ | refine blk_drew ?_ | refine blk_alloc ?_ _)); exact BK236.out) hb)
                have n4_ := Aside0.mk (below_step (by repeat (first | (with_reducible first | exact HB.out | apply below_alloc | apply pw_below_drewN | apply below_drew1 | refine below_set ?_ GE225.out | refine below_set ?_ GE226.out | refine below_set ?_ GE231.out | refine below_set ?_ GE236.out) | exact HB.out)) hb)
                clear BK225
                clear BK226
                clear BK231
                clear BK236
                clear HB
                have BK225 := n0_
                have BK226 := n1_
                have BK231 := n2_
                have BK236 := n3_
                have HB := n4_
                clear n0_ n1_ n2_ n3_ n4_
                (try clear hb)
                (try clear hb2)
                (try clear hk)
                (try clear hi)
                refine hK.out _ _ ⟨(blk_cell BK225.out 0).trans rfl, (blk_cell BK225.out 1).trans rfl, (blk_cell BK225.out 2).trans rfl, (blk_cell BK225.out 3).trans rfl, (blk_cell BK225.out 4).trans rfl, (blk_cell BK225.out 5).trans rfl, (blk_cell BK226.out 0).trans rfl, (blk_cell BK226.out 1).trans rfl, (blk_cell BK226.out 2).trans rfl, (blk_cell BK226.out 3).trans rfl, (blk_cell BK226.out 4).trans rfl, (blk_cell BK226.out 5).trans rfl⟩ (fun hHeld => ?_)
                clear hK K
                refine norm_ (a' := ?_) ?_ ?_
                rotate_left
                · show Act.put _ (some 59) _ = _
                  simp only [Act.put, List.setIfInBounds_toArray, List.set_cons_zero, List.set_cons_succ, i64_w, i32_w]
                  rfl
                refine pure_ (i := 10) (N := some 10) (v := ?_) (a' := ?_) #[true, true, true, true, true, true, true, true, true, true, true, false] rfl rfl (any_of HT_.out (by kernel_rfl)) (fun _ _ _ h => h) (Or.inl ⟨by rfl, ?_⟩) ?_ ?_
                rotate_left
                · intro w'
                  go_simp
                  with_reducible rfl
                rotate_left
                · simp only [Act.put, List.setIfInBounds_toArray, List.set_cons_zero, List.set_cons_succ, i64_w, i32_w]
                  rfl
                refine pure_ (i := 11) (N := some 11) (v := ?_) (a' := ?_) #[true, true, true, true, true, true, true, true, true, true, true, true] rfl rfl (any_of HT_.out (by kernel_rfl)) (fun _ _ _ h => h) (Or.inl ⟨by rfl, ?_⟩) ?_ ?_
                rotate_left
                · intro w'
                  go_simp
                  with_reducible rfl
                rotate_left
                · simp only [Act.put, List.setIfInBounds_toArray, List.set_cons_zero, List.set_cons_succ, i64_w, i32_w]
                  rfl
                refine done_ (done_of HT_.out (by kernel_rfl)) ?_
                try go_wp2
                have n0_ := Aside0.mk (blk_drew BK225.out)
                have n1_ := Aside0.mk (blk_drew BK226.out)
                have n2_ := Aside0.mk (blk_drew BK231.out)
                have n3_ := Aside0.mk (blk_drew BK236.out)
                have n4_ := Aside0.mk (below_drew1 HB.out)
                clear BK225
                clear BK226
                clear BK231
                clear BK236
                clear HB
                have BK225 := n0_
                have BK226 := n1_
                have BK231 := n2_
                have BK236 := n3_
                have HB := n4_
                clear n0_ n1_ n2_ n3_ n4_
                refine start_ (n := 6) (S := fun w' => w'.cell? ⟨gb225, 0, none⟩ = some (.int .i64 a0_0) ∧ w'.cell? ⟨gb225, 1, none⟩ = some (.string a0_1) ∧ w'.cell? ⟨gb225, 2, none⟩ = some (.int .i64 a0_2) ∧ w'.cell? ⟨gb225, 3, none⟩ = some (.int .i64 a0_3) ∧ w'.cell? ⟨gb225, 4, none⟩ = some (.int .i64 a0_4) ∧ w'.cell? ⟨gb225, 5, none⟩ = some (.int .i64 a0_5) ∧ w'.cell? ⟨gb226, 0, none⟩ = some (.int .i64 a1_0) ∧ w'.cell? ⟨gb226, 1, none⟩ = some (.string a1_1) ∧ w'.cell? ⟨gb226, 2, none⟩ = some (.int .i64 a1_2) ∧ w'.cell? ⟨gb226, 3, none⟩ = some (.int .i64 a1_3) ∧ w'.cell? ⟨gb226, 4, none⟩ = some (.int .i64 a1_4) ∧ w'.cell? ⟨gb226, 5, none⟩ = some (.int .i64 a1_5)) (ds := []) #[false, false, false, false, false, false] (by kernel_rfl) rfl rfl ⟨(blk_cell BK225.out 0).trans rfl, (blk_cell BK225.out 1).trans rfl, (blk_cell BK225.out 2).trans rfl, (blk_cell BK225.out 3).trans rfl, (blk_cell BK225.out 4).trans rfl, (blk_cell BK225.out 5).trans rfl, (blk_cell BK226.out 0).trans rfl, (blk_cell BK226.out 1).trans rfl, (blk_cell BK226.out 2).trans rfl, (blk_cell BK226.out 3).trans rfl, (blk_cell BK226.out 4).trans rfl, (blk_cell BK226.out 5).trans rfl⟩ (fun hHeld => ?_)
                generalize w77.drew = w78 at BK225 BK226 BK231 BK236 HB hHeld ⊢
                refine take_ (i := 0) (N := some 65) (v := ?_) (a' := ?_) #[true, false, false, false, false, false] rfl rfl (by kernel_rfl) (fun _ _ _ h => h) (Or.inl ⟨by rfl, ?_⟩) hHeld ?_ ?_
                rotate_left
                · rintro w' ⟨s0, s1, s2, s3, s4, s5, s6, s7, s8, s9, s10, s11⟩
                  go_simp
                  with_reducible rfl
                rotate_left
                · simp only [Act.put, List.setIfInBounds_toArray, List.set_cons_zero, List.set_cons_succ, i64_w, i32_w]
                  rfl
                refine take_ (i := 2) (N := some 67) (v := ?_) (a' := ?_) #[true, false, true, false, false, false] rfl rfl (by kernel_rfl) (fun _ _ _ h => h) (Or.inl ⟨by rfl, ?_⟩) hHeld ?_ ?_
                rotate_left
                · rintro w' ⟨s0, s1, s2, s3, s4, s5, s6, s7, s8, s9, s10, s11⟩
                  go_simp
                  with_reducible rfl
                rotate_left
                · simp only [Act.put, List.setIfInBounds_toArray, List.set_cons_zero, List.set_cons_succ, i64_w, i32_w]
                  rfl
                refine one_ (i := 1) (N := some 66) #[true, true, true, false, false, false] rfl rfl (by kernel_rfl) (by decide) (fun K hK => ?_)
                refine goes_ Try.func32 (by kernel_rfl) rfl #[.agg #[.int .i64 a0_0, .string a0_1, .int .i64 a0_2, .int .i64 a0_3, .int .i64 a0_4, .int .i64 a0_5]] (by rfl) rfl rfl (by (try simp only [List.map_toArray, List.map_cons, List.map_nil]); first | done | rfl | (simp only [List.length_drop, List.length_take]; rfl)) ?_
                with_reducible refine (pfair_Candidate_group.calls kj4 a0_0 a0_1 a0_2 a0_3 a0_4 a0_5 t240 _ A43.out).mono ?_
                rintro e w79 ⟨rfl, hb⟩
                refine ⟨_, rfl, ?_⟩
                have n0_ := Aside0.mk (blk_below (g := gb225) (o := .cells #[.int .i64 a0_0, .string a0_1, .int .i64 a0_2, .int .i64 a0_3, .int .i64 a0_4, .int .i64 a0_5] 42 (0, 0)) (by (with_reducible repeat (first | refine blk_drewN ?_ _ | refine blk_drew ?_ | refine blk_alloc ?_ _)); exact BK225.out) hb)
                have n1_ := Aside0.mk (blk_below (g := gb226) (o := .cells #[.int .i64 a1_0, .string a1_1, .int .i64 a1_2, .int .i64 a1_3, .int .i64 a1_4, .int .i64 a1_5] 42 (0, 0)) (by (with_reducible repeat (first | refine blk_drewN ?_ _ | refine blk_drew ?_ | refine blk_alloc ?_ _)); exact BK226.out) hb)
                have n2_ := Aside0.mk (blk_below (g := gb231) (o := .cells #[.int .i64 t227, .int .i64 t228, .int .i64 t229] 26 (0, 0)) (by (with_reducible repeat (first | refine blk_drewN ?_ _ | refine blk_drew ?_ | refine blk_alloc ?_ _)); exact BK231.out) hb)
                have n3_ := Aside0.mk (blk_below (g := gb236) (o := .cells #[.int .i64 t232, .int .i64 t233, .int .i64 t234] 26 (0, 0)) (by (with_reducible repeat (first | refine blk_drewN ?_ _ | refine blk_drew ?_ | refine blk_alloc ?_ _)); exact BK236.out) hb)
                have n4_ := Aside0.mk (below_step (by repeat (first | (with_reducible first | exact HB.out | apply below_alloc | apply pw_below_drewN | apply below_drew1 | refine below_set ?_ GE225.out | refine below_set ?_ GE226.out | refine below_set ?_ GE231.out | refine below_set ?_ GE236.out) | exact HB.out)) hb)
                clear BK225
                clear BK226
                clear BK231
                clear BK236
                clear HB
                have BK225 := n0_
                have BK226 := n1_
                have BK231 := n2_
                have BK236 := n3_
                have HB := n4_
                clear n0_ n1_ n2_ n3_ n4_
                (try clear hb)
                (try clear hb2)
                (try clear hk)
                (try clear hi)
                refine hK.out _ _ ⟨(blk_cell BK225.out 0).trans rfl, (blk_cell BK225.out 1).trans rfl, (blk_cell BK225.out 2).trans rfl, (blk_cell BK225.out 3).trans rfl, (blk_cell BK225.out 4).trans rfl, (blk_cell BK225.out 5).trans rfl, (blk_cell BK226.out 0).trans rfl, (blk_cell BK226.out 1).trans rfl, (blk_cell BK226.out 2).trans rfl, (blk_cell BK226.out 3).trans rfl, (blk_cell BK226.out 4).trans rfl, (blk_cell BK226.out 5).trans rfl⟩ (fun hHeld => ?_)
                clear hK K
                refine norm_ (a' := ?_) ?_ ?_
                rotate_left
                · show Act.put _ (some 66) _ = _
                  simp only [Act.put, List.setIfInBounds_toArray, List.set_cons_zero, List.set_cons_succ, i64_w, i32_w]
                  rfl
                refine one_ (i := 3) (N := some 68) #[true, true, true, true, false, false] rfl rfl (by kernel_rfl) (by decide) (fun K hK => ?_)
                refine goes_ Try.func32 (by kernel_rfl) rfl #[.agg #[.int .i64 a1_0, .string a1_1, .int .i64 a1_2, .int .i64 a1_3, .int .i64 a1_4, .int .i64 a1_5]] (by rfl) rfl rfl (by (try simp only [List.map_toArray, List.map_cons, List.map_nil]); first | done | rfl | (simp only [List.length_drop, List.length_take]; rfl)) ?_
                with_reducible refine (pfair_Candidate_group.calls kj4 a1_0 a1_1 a1_2 a1_3 a1_4 a1_5 t241 _ A44.out).mono ?_
                rintro e w80 ⟨rfl, hb⟩
                refine ⟨_, rfl, ?_⟩
                have n0_ := Aside0.mk (blk_below (g := gb225) (o := .cells #[.int .i64 a0_0, .string a0_1, .int .i64 a0_2, .int .i64 a0_3, .int .i64 a0_4, .int .i64 a0_5] 42 (0, 0)) (by (with_reducible repeat (first | refine blk_drewN ?_ _ | refine blk_drew ?_ | refine blk_alloc ?_ _)); exact BK225.out) hb)
                have n1_ := Aside0.mk (blk_below (g := gb226) (o := .cells #[.int .i64 a1_0, .string a1_1, .int .i64 a1_2, .int .i64 a1_3, .int .i64 a1_4, .int .i64 a1_5] 42 (0, 0)) (by (with_reducible repeat (first | refine blk_drewN ?_ _ | refine blk_drew ?_ | refine blk_alloc ?_ _)); exact BK226.out) hb)
                have n2_ := Aside0.mk (blk_below (g := gb231) (o := .cells #[.int .i64 t227, .int .i64 t228, .int .i64 t229] 26 (0, 0)) (by (with_reducible repeat (first | refine blk_drewN ?_ _ | refine blk_drew ?_ | refine blk_alloc ?_ _)); exact BK231.out) hb)
                have n3_ := Aside0.mk (blk_below (g := gb236) (o := .cells #[.int .i64 t232, .int .i64 t233, .int .i64 t234] 26 (0, 0)) (by (with_reducible repeat (first | refine blk_drewN ?_ _ | refine blk_drew ?_ | refine blk_alloc ?_ _)); exact BK236.out) hb)
                have n4_ := Aside0.mk (below_step (by repeat (first | (with_reducible first | exact HB.out | apply below_alloc | apply pw_below_drewN | apply below_drew1 | refine below_set ?_ GE225.out | refine below_set ?_ GE226.out | refine below_set ?_ GE231.out | refine below_set ?_ GE236.out) | exact HB.out)) hb)
                clear BK225
                clear BK226
                clear BK231
                clear BK236
                clear HB
                have BK225 := n0_
                have BK226 := n1_
                have BK231 := n2_
                have BK236 := n3_
                have HB := n4_
                clear n0_ n1_ n2_ n3_ n4_
                (try clear hb)
                (try clear hb2)
                (try clear hk)
                (try clear hi)
                refine hK.out _ _ ⟨(blk_cell BK225.out 0).trans rfl, (blk_cell BK225.out 1).trans rfl, (blk_cell BK225.out 2).trans rfl, (blk_cell BK225.out 3).trans rfl, (blk_cell BK225.out 4).trans rfl, (blk_cell BK225.out 5).trans rfl, (blk_cell BK226.out 0).trans rfl, (blk_cell BK226.out 1).trans rfl, (blk_cell BK226.out 2).trans rfl, (blk_cell BK226.out 3).trans rfl, (blk_cell BK226.out 4).trans rfl, (blk_cell BK226.out 5).trans rfl⟩ (fun hHeld => ?_)
                clear hK K
                refine norm_ (a' := ?_) ?_ ?_
                rotate_left
                · show Act.put _ (some 68) _ = _
                  simp only [Act.put, List.setIfInBounds_toArray, List.set_cons_zero, List.set_cons_succ, i64_w, i32_w]
                  rfl
                refine one_ (i := 4) (N := some 69) #[true, true, true, true, true, false] rfl rfl (by kernel_rfl) (by decide) (fun K hK => ?_)
                refine goes_ Try.func31 (by kernel_rfl) rfl #[.int .i64 t240, .int .i64 t241] (by rfl) rfl rfl (by (try simp only [List.map_toArray, List.map_cons, List.map_nil]); first | done | rfl | (simp only [List.length_drop, List.length_take]; rfl)) ?_
                with_reducible refine (cmp_Compare_int.calls t240 t241 t242 _ A45.out).mono ?_
                rintro e w' ⟨rfl, ⟨nd, rfl⟩⟩
                refine ⟨_, rfl, ?_⟩
                refine hK.out _ _ ⟨(blk_cell BK225.out 0).trans rfl, (blk_cell BK225.out 1).trans rfl, (blk_cell BK225.out 2).trans rfl, (blk_cell BK225.out 3).trans rfl, (blk_cell BK225.out 4).trans rfl, (blk_cell BK225.out 5).trans rfl, (blk_cell BK226.out 0).trans rfl, (blk_cell BK226.out 1).trans rfl, (blk_cell BK226.out 2).trans rfl, (blk_cell BK226.out 3).trans rfl, (blk_cell BK226.out 4).trans rfl, (blk_cell BK226.out 5).trans rfl⟩ (fun hHeld => ?_)
                clear hK K
                refine norm_ (a' := ?_) ?_ ?_
                rotate_left
                · show Act.put _ (some 69) _ = _
                  simp only [Act.put, List.setIfInBounds_toArray, List.set_cons_zero, List.set_cons_succ, i64_w, i32_w]
                  rfl
                refine pure_ (i := 5) (N := some 12) (v := ?_) (a' := ?_) #[true, true, true, true, true, true] rfl rfl (by kernel_rfl) (fun _ _ _ h => h) (Or.inl ⟨by rfl, ?_⟩) ?_ ?_
                rotate_left
                · intro w'
                  go_simp
                  with_reducible rfl
                rotate_left
                · simp only [Act.put, List.setIfInBounds_toArray, List.set_cons_zero, List.set_cons_succ, i64_w, i32_w]
                  rfl
                refine done_ (by kernel_rfl) ?_
                try go_wp2
                go_ret
                exact ⟨by first | rfl | (simp [errW_none, errW_some] <;> rfl) | (simp [*, errW_none, errW_some] <;> rfl), by repeat (first | (with_reducible first | exact HB.out | apply below_alloc | apply pw_below_drewN | apply below_drew1 | refine below_set ?_ GE225.out | refine below_set ?_ GE226.out | refine below_set ?_ GE231.out | refine below_set ?_ GE236.out) | exact HB.out)⟩
            · replace c42 := Bool.eq_false_iff.mpr c42
              subst c42
              have H1 : (some (decide (a0_0 < a1_0))) = some r := by rw [if_neg (show ¬ (false = true) by decide)] at H; exact H
              clear H
              have H := H1
              clear H1
              obtain rfl := Option.some.inj H
              have hnb81 := NB225_226.out
              have hnc81 := NB226_225.out
              have hnb82 := NB225_231.out
              have hnc82 := NB231_225.out
              have hnb83 := NB225_236.out
              have hnc83 := NB236_225.out
              have hcz84_0 : wc.cell? ⟨gb225, 0, none⟩ = some (.int .i64 a0_0) := (blk_cell BK225.out 0).trans rfl
              have hcz84_1 : wc.cell? ⟨gb225, 1, none⟩ = some (.string a0_1) := (blk_cell BK225.out 1).trans rfl
              have hcz84_2 : wc.cell? ⟨gb225, 2, none⟩ = some (.int .i64 a0_2) := (blk_cell BK225.out 2).trans rfl
              have hcz84_3 : wc.cell? ⟨gb225, 3, none⟩ = some (.int .i64 a0_3) := (blk_cell BK225.out 3).trans rfl
              have hcz84_4 : wc.cell? ⟨gb225, 4, none⟩ = some (.int .i64 a0_4) := (blk_cell BK225.out 4).trans rfl
              have hcz84_5 : wc.cell? ⟨gb225, 5, none⟩ = some (.int .i64 a0_5) := (blk_cell BK225.out 5).trans rfl
              have hfz84_0 := blk_frozen BK225.out 0
              have hfz84_1 := blk_frozen BK225.out 1
              have hfz84_2 := blk_frozen BK225.out 2
              have hfz84_3 := blk_frozen BK225.out 3
              have hfz84_4 := blk_frozen BK225.out 4
              have hfz84_5 := blk_frozen BK225.out 5
              have hnb85 := NB231_226.out
              have hnc85 := NB226_231.out
              have hnb86 := NB231_236.out
              have hnc86 := NB236_231.out
              have hcz87_0 : wc.cell? ⟨gb231, 0, none⟩ = some (.int .i64 t227) := (blk_cell BK231.out 0).trans rfl
              have hcz87_1 : wc.cell? ⟨gb231, 1, none⟩ = some (.int .i64 t228) := (blk_cell BK231.out 1).trans rfl
              have hcz87_2 : wc.cell? ⟨gb231, 2, none⟩ = some (.int .i64 t229) := (blk_cell BK231.out 2).trans rfl
              have hfz87_0 := blk_frozen BK231.out 0
              have hfz87_1 := blk_frozen BK231.out 1
              have hfz87_2 := blk_frozen BK231.out 2
              have hnb88 := NB226_236.out
              have hnc88 := NB236_226.out
              have hcz89_0 : wc.cell? ⟨gb226, 0, none⟩ = some (.int .i64 a1_0) := (blk_cell BK226.out 0).trans rfl
              have hcz89_1 : wc.cell? ⟨gb226, 1, none⟩ = some (.string a1_1) := (blk_cell BK226.out 1).trans rfl
              have hcz89_2 : wc.cell? ⟨gb226, 2, none⟩ = some (.int .i64 a1_2) := (blk_cell BK226.out 2).trans rfl
              have hcz89_3 : wc.cell? ⟨gb226, 3, none⟩ = some (.int .i64 a1_3) := (blk_cell BK226.out 3).trans rfl
              have hcz89_4 : wc.cell? ⟨gb226, 4, none⟩ = some (.int .i64 a1_4) := (blk_cell BK226.out 4).trans rfl
              have hcz89_5 : wc.cell? ⟨gb226, 5, none⟩ = some (.int .i64 a1_5) := (blk_cell BK226.out 5).trans rfl
              have hfz89_0 := blk_frozen BK226.out 0
              have hfz89_1 := blk_frozen BK226.out 1
              have hfz89_2 := blk_frozen BK226.out 2
              have hfz89_3 := blk_frozen BK226.out 3
              have hfz89_4 := blk_frozen BK226.out 4
              have hfz89_5 := blk_frozen BK226.out 5
              have hcz90_0 : wc.cell? ⟨gb236, 0, none⟩ = some (.int .i64 t232) := (blk_cell BK236.out 0).trans rfl
              have hcz90_1 : wc.cell? ⟨gb236, 1, none⟩ = some (.int .i64 t233) := (blk_cell BK236.out 1).trans rfl
              have hcz90_2 : wc.cell? ⟨gb236, 2, none⟩ = some (.int .i64 t234) := (blk_cell BK236.out 2).trans rfl
              have hfz90_0 := blk_frozen BK236.out 0
              have hfz90_1 := blk_frozen BK236.out 1
              have hfz90_2 := blk_frozen BK236.out 2
              try go_wp2_with (first | ((with_reducible refine gate_callee (f := 31) rfl ?_); refine goesL_ (some 45) rfl rfl Try.func31 (by kernel_rfl) rfl #[.int .i64 (wrap64 (a0_4 + t229)), .int .i64 (wrap64 (a1_4 + t234))] rfl (by (try simp only [List.map_toArray, List.map_cons, List.map_nil]); first | done | rfl | (simp only [List.length_drop, List.length_take]; rfl)) ?_; (with_reducible refine (cmp_Compare_int.calls (wrap64 (a0_4 + t229)) (wrap64 (a1_4 + t234)) t237 _ A24.out).mono ?_); rintro e w' ⟨rfl, ⟨nd, rfl⟩⟩; refine ⟨_, rfl, ?_⟩))
              (try (rw [drewN_self wc]; generalize hq_ : World.drewN wc _ = wc; have n0_ : Aside0 (wc.heap[gb225]? = some (.cells #[.int .i64 a0_0, .string a0_1, .int .i64 a0_2, .int .i64 a0_3, .int .i64 a0_4, .int .i64 a0_5] 42 (0, 0))) := ⟨by rw [← hq_]; exact (by (with_reducible repeat (first | refine blk_drewN ?_ _ | refine blk_drew ?_ | refine blk_alloc ?_ _)); exact BK225.out)⟩; have n1_ : Aside0 (wc.heap[gb226]? = some (.cells #[.int .i64 a1_0, .string a1_1, .int .i64 a1_2, .int .i64 a1_3, .int .i64 a1_4, .int .i64 a1_5] 42 (0, 0))) := ⟨by rw [← hq_]; exact (by (with_reducible repeat (first | refine blk_drewN ?_ _ | refine blk_drew ?_ | refine blk_alloc ?_ _)); exact BK226.out)⟩; have n2_ : Aside0 (wc.heap[gb231]? = some (.cells #[.int .i64 t227, .int .i64 t228, .int .i64 t229] 26 (0, 0))) := ⟨by rw [← hq_]; exact (by (with_reducible repeat (first | refine blk_drewN ?_ _ | refine blk_drew ?_ | refine blk_alloc ?_ _)); exact BK231.out)⟩; have n3_ : Aside0 (wc.heap[gb236]? = some (.cells #[.int .i64 t232, .int .i64 t233, .int .i64 t234] 26 (0, 0))) := ⟨by rw [← hq_]; exact (by (with_reducible repeat (first | refine blk_drewN ?_ _ | refine blk_drew ?_ | refine blk_alloc ?_ _)); exact BK236.out)⟩; have n4_ : Aside0 (Below w.heap.size w wc) := ⟨by rw [← hq_]; exact (by repeat (first | (with_reducible first | exact HB.out | apply below_alloc | apply pw_below_drewN | apply below_drew1 | refine below_set ?_ GE225.out | refine below_set ?_ GE226.out | refine below_set ?_ GE231.out | refine below_set ?_ GE236.out) | exact HB.out))⟩; clear BK225 BK226 BK231 BK236 HB hq_; have BK225 := n0_; have BK226 := n1_; have BK231 := n2_; have BK236 := n3_; have HB := n4_; clear n0_ n1_ n2_ n3_ n4_))
              have n0_ := Aside0.mk (blk_drew BK225.out)
              have n1_ := Aside0.mk (blk_drew BK226.out)
              have n2_ := Aside0.mk (blk_drew BK231.out)
              have n3_ := Aside0.mk (blk_drew BK236.out)
              have n4_ := Aside0.mk (below_drew1 HB.out)
              clear BK225
              clear BK226
              clear BK231
              clear BK236
              clear HB
              have BK225 := n0_
              have BK226 := n1_
              have BK231 := n2_
              have BK236 := n3_
              have HB := n4_
              clear n0_ n1_ n2_ n3_ n4_
              refine start_ (n := 12) (S := fun w' => w'.cell? ⟨gb225, 0, none⟩ = some (.int .i64 a0_0) ∧ w'.cell? ⟨gb225, 1, none⟩ = some (.string a0_1) ∧ w'.cell? ⟨gb225, 2, none⟩ = some (.int .i64 a0_2) ∧ w'.cell? ⟨gb225, 3, none⟩ = some (.int .i64 a0_3) ∧ w'.cell? ⟨gb225, 4, none⟩ = some (.int .i64 a0_4) ∧ w'.cell? ⟨gb225, 5, none⟩ = some (.int .i64 a0_5) ∧ w'.cell? ⟨gb226, 0, none⟩ = some (.int .i64 a1_0) ∧ w'.cell? ⟨gb226, 1, none⟩ = some (.string a1_1) ∧ w'.cell? ⟨gb226, 2, none⟩ = some (.int .i64 a1_2) ∧ w'.cell? ⟨gb226, 3, none⟩ = some (.int .i64 a1_3) ∧ w'.cell? ⟨gb226, 4, none⟩ = some (.int .i64 a1_4) ∧ w'.cell? ⟨gb226, 5, none⟩ = some (.int .i64 a1_5)) (ds := []) #[false, false, false, false, false, false, false, false, false, false, false, false] (by kernel_rfl) rfl rfl ⟨(blk_cell BK225.out 0).trans rfl, (blk_cell BK225.out 1).trans rfl, (blk_cell BK225.out 2).trans rfl, (blk_cell BK225.out 3).trans rfl, (blk_cell BK225.out 4).trans rfl, (blk_cell BK225.out 5).trans rfl, (blk_cell BK226.out 0).trans rfl, (blk_cell BK226.out 1).trans rfl, (blk_cell BK226.out 2).trans rfl, (blk_cell BK226.out 3).trans rfl, (blk_cell BK226.out 4).trans rfl, (blk_cell BK226.out 5).trans rfl⟩ (fun hHeld => ?_); refine with_tabW pfair_Before.tab8 pfair_Before.bits8 (fun HT_ HW_ => ?_)
              generalize wc.drew = w91 at BK225 BK226 BK231 BK236 HB hHeld ⊢
              refine pure_ (i := 0) (N := some 50) (v := ?_) (a' := ?_) #[true, false, false, false, false, false, false, false, false, false, false, false] rfl rfl (any_of HT_.out (by kernel_rfl)) (fun _ _ _ h => h) (Or.inl ⟨by rfl, ?_⟩) ?_ ?_
              rotate_left
              · intro w'
                go_simp
                with_reducible rfl
              rotate_left
              · simp only [Act.put, List.setIfInBounds_toArray, List.set_cons_zero, List.set_cons_succ, i64_w, i32_w]
                rfl
              refine pure_ (i := 2) (N := some 52) (v := ?_) (a' := ?_) #[true, false, true, false, false, false, false, false, false, false, false, false] rfl rfl (any_of HT_.out (by kernel_rfl)) (fun _ _ _ h => h) (Or.inl ⟨by rfl, ?_⟩) ?_ ?_
              rotate_left
              · intro w'
                go_simp
                with_reducible rfl
              rotate_left
              · simp only [Act.put, List.setIfInBounds_toArray, List.set_cons_zero, List.set_cons_succ, i64_w, i32_w]
                rfl
              refine pure_ (i := 5) (N := some 55) (v := ?_) (a' := ?_) #[true, false, true, false, false, true, false, false, false, false, false, false] rfl rfl (any_of HT_.out (by kernel_rfl)) (fun _ _ _ h => h) (Or.inl ⟨by rfl, ?_⟩) ?_ ?_
              rotate_left
              · intro w'
                go_simp
                with_reducible rfl
              rotate_left
              · simp only [Act.put, List.setIfInBounds_toArray, List.set_cons_zero, List.set_cons_succ, i64_w, i32_w]
                rfl
              refine pure_ (i := 7) (N := some 57) (v := ?_) (a' := ?_) #[true, false, true, false, false, true, false, true, false, false, false, false] rfl rfl (any_of HT_.out (by kernel_rfl)) (fun _ _ _ h => h) (Or.inl ⟨by rfl, ?_⟩) ?_ ?_
              rotate_left
              · intro w'
                go_simp
                with_reducible rfl
              rotate_left
              · simp only [Act.put, List.setIfInBounds_toArray, List.set_cons_zero, List.set_cons_succ, i64_w, i32_w]
                rfl
              refine take_ (i := 1) (N := some 51) (v := ?_) (a' := ?_) #[true, true, true, false, false, true, false, true, false, false, false, false] rfl rfl (take_ofW HT_.out HW_.out (by kernel_rfl)) (fun _ _ _ h => h) (Or.inl ⟨by rfl, ?_⟩) hHeld ?_ ?_
              rotate_left
              · rintro w' ⟨s0, s1, s2, s3, s4, s5, s6, s7, s8, s9, s10, s11⟩
                go_simp
                with_reducible rfl
              rotate_left
              · simp only [Act.put, List.setIfInBounds_toArray, List.set_cons_zero, List.set_cons_succ, i64_w, i32_w]
                rfl
              refine take_ (i := 3) (N := some 53) (v := ?_) (a' := ?_) #[true, true, true, true, false, true, false, true, false, false, false, false] rfl rfl (take_ofW HT_.out HW_.out (by kernel_rfl)) (fun _ _ _ h => h) (Or.inl ⟨by rfl, ?_⟩) hHeld ?_ ?_
              rotate_left
              · rintro w' ⟨s0, s1, s2, s3, s4, s5, s6, s7, s8, s9, s10, s11⟩
                go_simp
                with_reducible rfl
              rotate_left
              · simp only [Act.put, List.setIfInBounds_toArray, List.set_cons_zero, List.set_cons_succ, i64_w, i32_w]
                rfl
              refine take_ (i := 6) (N := some 56) (v := ?_) (a' := ?_) #[true, true, true, true, false, true, true, true, false, false, false, false] rfl rfl (take_ofW HT_.out HW_.out (by kernel_rfl)) (fun _ _ _ h => h) (Or.inl ⟨by rfl, ?_⟩) hHeld ?_ ?_
              rotate_left
              · rintro w' ⟨s0, s1, s2, s3, s4, s5, s6, s7, s8, s9, s10, s11⟩
                go_simp
                with_reducible rfl
              rotate_left
              · simp only [Act.put, List.setIfInBounds_toArray, List.set_cons_zero, List.set_cons_succ, i64_w, i32_w]
                rfl
              refine take_ (i := 8) (N := some 58) (v := ?_) (a' := ?_) #[true, true, true, true, false, true, true, true, true, false, false, false] rfl rfl (take_ofW HT_.out HW_.out (by kernel_rfl)) (fun _ _ _ h => h) (Or.inl ⟨by rfl, ?_⟩) hHeld ?_ ?_
              rotate_left
              · rintro w' ⟨s0, s1, s2, s3, s4, s5, s6, s7, s8, s9, s10, s11⟩
                go_simp
                with_reducible rfl
              rotate_left
              · simp only [Act.put, List.setIfInBounds_toArray, List.set_cons_zero, List.set_cons_succ, i64_w, i32_w]
                rfl
              refine one_ (i := 4) (N := some 54) #[true, true, true, true, true, true, true, true, true, false, false, false] rfl rfl (one_of HT_.out (by kernel_rfl)) (by decide) (fun K hK => ?_)
              refine goes_ Try.func16 (by kernel_rfl) rfl #[.agg #[.string a0_1, .int .i64 a0_2, .int .i64 a0_3], .int .i64 a0_5] (by rfl) rfl rfl (by (try simp only [List.map_toArray, List.map_cons, List.map_nil]); first | done | rfl | (simp only [List.length_drop, List.length_take]; rfl)) ?_
              with_reducible refine (pfair_Overlaps.calls kj4 a0_1 a0_2 a0_3 a0_5 false _ A26.out).mono ?_
              rintro e w92 ⟨rfl, hb⟩
              refine ⟨_, rfl, ?_⟩
              have n0_ := Aside0.mk (blk_below (g := gb225) (o := .cells #[.int .i64 a0_0, .string a0_1, .int .i64 a0_2, .int .i64 a0_3, .int .i64 a0_4, .int .i64 a0_5] 42 (0, 0)) (by (with_reducible repeat (first | refine blk_drewN ?_ _ | refine blk_drew ?_ | refine blk_alloc ?_ _)); exact BK225.out) hb)
              have n1_ := Aside0.mk (blk_below (g := gb226) (o := .cells #[.int .i64 a1_0, .string a1_1, .int .i64 a1_2, .int .i64 a1_3, .int .i64 a1_4, .int .i64 a1_5] 42 (0, 0)) (by (with_reducible repeat (first | refine blk_drewN ?_ _ | refine blk_drew ?_ | refine blk_alloc ?_ _)); exact BK226.out) hb)
              have n2_ := Aside0.mk (blk_below (g := gb231) (o := .cells #[.int .i64 t227, .int .i64 t228, .int .i64 t229] 26 (0, 0)) (by (with_reducible repeat (first | refine blk_drewN ?_ _ | refine blk_drew ?_ | refine blk_alloc ?_ _)); exact BK231.out) hb)
              have n3_ := Aside0.mk (blk_below (g := gb236) (o := .cells #[.int .i64 t232, .int .i64 t233, .int .i64 t234] 26 (0, 0)) (by (with_reducible repeat (first | refine blk_drewN ?_ _ | refine blk_drew ?_ | refine blk_alloc ?_ _)); exact BK236.out) hb)
              have n4_ := Aside0.mk (below_step (by repeat (first | (with_reducible first | exact HB.out | apply below_alloc | apply pw_below_drewN | apply below_drew1 | refine below_set ?_ GE225.out | refine below_set ?_ GE226.out | refine below_set ?_ GE231.out | refine below_set ?_ GE236.out) | exact HB.out)) hb)
              clear BK225
              clear BK226
              clear BK231
              clear BK236
              clear HB
              have BK225 := n0_
              have BK226 := n1_
              have BK231 := n2_
              have BK236 := n3_
              have HB := n4_
              clear n0_ n1_ n2_ n3_ n4_
              (try clear hb)
              (try clear hb2)
              (try clear hk)
              (try clear hi)
              refine hK.out _ _ ⟨(blk_cell BK225.out 0).trans rfl, (blk_cell BK225.out 1).trans rfl, (blk_cell BK225.out 2).trans rfl, (blk_cell BK225.out 3).trans rfl, (blk_cell BK225.out 4).trans rfl, (blk_cell BK225.out 5).trans rfl, (blk_cell BK226.out 0).trans rfl, (blk_cell BK226.out 1).trans rfl, (blk_cell BK226.out 2).trans rfl, (blk_cell BK226.out 3).trans rfl, (blk_cell BK226.out 4).trans rfl, (blk_cell BK226.out 5).trans rfl⟩ (fun hHeld => ?_)
              clear hK K
              refine norm_ (a' := ?_) ?_ ?_
              rotate_left
              · show Act.put _ (some 54) _ = _
                simp only [Act.put, List.setIfInBounds_toArray, List.set_cons_zero, List.set_cons_succ, i64_w, i32_w]
                rfl
              refine one_ (i := 9) (N := some 59) #[true, true, true, true, true, true, true, true, true, true, false, false] rfl rfl (one_of HT_.out (by kernel_rfl)) (by decide) (fun K hK => ?_)
              refine goes_ Try.func16 (by kernel_rfl) rfl #[.agg #[.string a1_1, .int .i64 a1_2, .int .i64 a1_3], .int .i64 a1_5] (by rfl) rfl rfl (by (try simp only [List.map_toArray, List.map_cons, List.map_nil]); first | done | rfl | (simp only [List.length_drop, List.length_take]; rfl)) ?_
              with_reducible refine (pfair_Overlaps.calls kj4 a1_1 a1_2 a1_3 a1_5 t239 _ A27.out).mono ?_
              rintro e w93 ⟨rfl, hb⟩
              refine ⟨_, rfl, ?_⟩
              have n0_ := Aside0.mk (blk_below (g := gb225) (o := .cells #[.int .i64 a0_0, .string a0_1, .int .i64 a0_2, .int .i64 a0_3, .int .i64 a0_4, .int .i64 a0_5] 42 (0, 0)) (by (with_reducible repeat (first | refine blk_drewN ?_ _ | refine blk_drew ?_ | refine blk_alloc ?_ _)); exact BK225.out) hb)
              have n1_ := Aside0.mk (blk_below (g := gb226) (o := .cells #[.int .i64 a1_0, .string a1_1, .int .i64 a1_2, .int .i64 a1_3, .int .i64 a1_4, .int .i64 a1_5] 42 (0, 0)) (by (with_reducible repeat (first | refine blk_drewN ?_ _ | refine blk_drew ?_ | refine blk_alloc ?_ _)); exact BK226.out) hb)
              have n2_ := Aside0.mk (blk_below (g := gb231) (o := .cells #[.int .i64 t227, .int .i64 t228, .int .i64 t229] 26 (0, 0)) (by (with_reducible repeat (first | refine blk_drewN ?_ _ | refine blk_drew ?_ | refine blk_alloc ?_ _)); exact BK231.out) hb)
              have n3_ := Aside0.mk (blk_below (g := gb236) (o := .cells #[.int .i64 t232, .int .i64 t233, .int .i64 t234] 26 (0, 0)) (by (with_reducible repeat (first | refine blk_drewN ?_ _ | refine blk_drew ?_ | refine blk_alloc ?_ _)); exact BK236.out) hb)
              have n4_ := Aside0.mk (below_step (by repeat (first | (with_reducible first | exact HB.out | apply below_alloc | apply pw_below_drewN | apply below_drew1 | refine below_set ?_ GE225.out | refine below_set ?_ GE226.out | refine below_set ?_ GE231.out | refine below_set ?_ GE236.out) | exact HB.out)) hb)
              clear BK225
              clear BK226
              clear BK231
              clear BK236
              clear HB
              have BK225 := n0_
              have BK226 := n1_
              have BK231 := n2_
              have BK236 := n3_
              have HB := n4_
              clear n0_ n1_ n2_ n3_ n4_
              (try clear hb)
              (try clear hb2)
              (try clear hk)
              (try clear hi)
              refine hK.out _ _ ⟨(blk_cell BK225.out 0).trans rfl, (blk_cell BK225.out 1).trans rfl, (blk_cell BK225.out 2).trans rfl, (blk_cell BK225.out 3).trans rfl, (blk_cell BK225.out 4).trans rfl, (blk_cell BK225.out 5).trans rfl, (blk_cell BK226.out 0).trans rfl, (blk_cell BK226.out 1).trans rfl, (blk_cell BK226.out 2).trans rfl, (blk_cell BK226.out 3).trans rfl, (blk_cell BK226.out 4).trans rfl, (blk_cell BK226.out 5).trans rfl⟩ (fun hHeld => ?_)
              clear hK K
              refine norm_ (a' := ?_) ?_ ?_
              rotate_left
              · show Act.put _ (some 59) _ = _
                simp only [Act.put, List.setIfInBounds_toArray, List.set_cons_zero, List.set_cons_succ, i64_w, i32_w]
                rfl
              refine pure_ (i := 10) (N := some 10) (v := ?_) (a' := ?_) #[true, true, true, true, true, true, true, true, true, true, true, false] rfl rfl (any_of HT_.out (by kernel_rfl)) (fun _ _ _ h => h) (Or.inl ⟨by rfl, ?_⟩) ?_ ?_
              rotate_left
              · intro w'
                go_simp
                with_reducible rfl
              rotate_left
              · simp only [Act.put, List.setIfInBounds_toArray, List.set_cons_zero, List.set_cons_succ, i64_w, i32_w]
                rfl
              refine pure_ (i := 11) (N := some 11) (v := ?_) (a' := ?_) #[true, true, true, true, true, true, true, true, true, true, true, true] rfl rfl (any_of HT_.out (by kernel_rfl)) (fun _ _ _ h => h) (Or.inl ⟨by rfl, ?_⟩) ?_ ?_
              rotate_left
              · intro w'
                go_simp
                with_reducible rfl
              rotate_left
              · simp only [Act.put, List.setIfInBounds_toArray, List.set_cons_zero, List.set_cons_succ, i64_w, i32_w]
                rfl
              refine done_ (done_of HT_.out (by kernel_rfl)) ?_
              have hcz94_0 : w93.cell? ⟨gb225, 0, none⟩ = some (.int .i64 a0_0) := (blk_cell BK225.out 0).trans rfl
              have hcz94_1 : w93.cell? ⟨gb225, 1, none⟩ = some (.string a0_1) := (blk_cell BK225.out 1).trans rfl
              have hcz94_2 : w93.cell? ⟨gb225, 2, none⟩ = some (.int .i64 a0_2) := (blk_cell BK225.out 2).trans rfl
              have hcz94_3 : w93.cell? ⟨gb225, 3, none⟩ = some (.int .i64 a0_3) := (blk_cell BK225.out 3).trans rfl
              have hcz94_4 : w93.cell? ⟨gb225, 4, none⟩ = some (.int .i64 a0_4) := (blk_cell BK225.out 4).trans rfl
              have hcz94_5 : w93.cell? ⟨gb225, 5, none⟩ = some (.int .i64 a0_5) := (blk_cell BK225.out 5).trans rfl
              have hfz94_0 := blk_frozen BK225.out 0
              have hfz94_1 := blk_frozen BK225.out 1
              have hfz94_2 := blk_frozen BK225.out 2
              have hfz94_3 := blk_frozen BK225.out 3
              have hfz94_4 := blk_frozen BK225.out 4
              have hfz94_5 := blk_frozen BK225.out 5
              have hcz95_0 : w93.cell? ⟨gb226, 0, none⟩ = some (.int .i64 a1_0) := (blk_cell BK226.out 0).trans rfl
              have hcz95_1 : w93.cell? ⟨gb226, 1, none⟩ = some (.string a1_1) := (blk_cell BK226.out 1).trans rfl
              have hcz95_2 : w93.cell? ⟨gb226, 2, none⟩ = some (.int .i64 a1_2) := (blk_cell BK226.out 2).trans rfl
              have hcz95_3 : w93.cell? ⟨gb226, 3, none⟩ = some (.int .i64 a1_3) := (blk_cell BK226.out 3).trans rfl
              have hcz95_4 : w93.cell? ⟨gb226, 4, none⟩ = some (.int .i64 a1_4) := (blk_cell BK226.out 4).trans rfl
              have hcz95_5 : w93.cell? ⟨gb226, 5, none⟩ = some (.int .i64 a1_5) := (blk_cell BK226.out 5).trans rfl
              have hfz95_0 := blk_frozen BK226.out 0
              have hfz95_1 := blk_frozen BK226.out 1
              have hfz95_2 := blk_frozen BK226.out 2
              have hfz95_3 := blk_frozen BK226.out 3
              have hfz95_4 := blk_frozen BK226.out 4
              have hfz95_5 := blk_frozen BK226.out 5
              try go_wp2
              go_ret
              exact ⟨by first | rfl | (simp [errW_none, errW_some] <;> rfl) | (simp [*, errW_none, errW_some] <;> rfl), by repeat (first | (with_reducible first | exact HB.out | apply below_alloc | apply pw_below_drewN | apply below_drew1 | refine below_set ?_ GE225.out | refine below_set ?_ GE226.out | refine below_set ?_ GE231.out | refine below_set ?_ GE236.out) | exact HB.out)⟩
        · rw [if_neg c25] at H
          have c25b0 : (t237 == 0) = false := beq_eq_false_iff_ne.mpr c25
          have c25b1 : (t237 != 0) = true := bne_iff_ne.mpr c25
          obtain rfl := Option.some.inj H
          have hnb96 := NB225_226.out
          have hnc96 := NB226_225.out
          have hnb97 := NB225_231.out
          have hnc97 := NB231_225.out
          have hnb98 := NB225_236.out
          have hnc98 := NB236_225.out
          have hcz99_0 : wc.cell? ⟨gb225, 0, none⟩ = some (.int .i64 a0_0) := (blk_cell BK225.out 0).trans rfl
          have hcz99_1 : wc.cell? ⟨gb225, 1, none⟩ = some (.string a0_1) := (blk_cell BK225.out 1).trans rfl
          have hcz99_2 : wc.cell? ⟨gb225, 2, none⟩ = some (.int .i64 a0_2) := (blk_cell BK225.out 2).trans rfl
          have hcz99_3 : wc.cell? ⟨gb225, 3, none⟩ = some (.int .i64 a0_3) := (blk_cell BK225.out 3).trans rfl
          have hcz99_4 : wc.cell? ⟨gb225, 4, none⟩ = some (.int .i64 a0_4) := (blk_cell BK225.out 4).trans rfl
          have hcz99_5 : wc.cell? ⟨gb225, 5, none⟩ = some (.int .i64 a0_5) := (blk_cell BK225.out 5).trans rfl
          have hfz99_0 := blk_frozen BK225.out 0
          have hfz99_1 := blk_frozen BK225.out 1
          have hfz99_2 := blk_frozen BK225.out 2
          have hfz99_3 := blk_frozen BK225.out 3
          have hfz99_4 := blk_frozen BK225.out 4
          have hfz99_5 := blk_frozen BK225.out 5
          have hnb100 := NB231_226.out
          have hnc100 := NB226_231.out
          have hnb101 := NB231_236.out
          have hnc101 := NB236_231.out
          have hcz102_0 : wc.cell? ⟨gb231, 0, none⟩ = some (.int .i64 t227) := (blk_cell BK231.out 0).trans rfl
          have hcz102_1 : wc.cell? ⟨gb231, 1, none⟩ = some (.int .i64 t228) := (blk_cell BK231.out 1).trans rfl
          have hcz102_2 : wc.cell? ⟨gb231, 2, none⟩ = some (.int .i64 t229) := (blk_cell BK231.out 2).trans rfl
          have hfz102_0 := blk_frozen BK231.out 0
          have hfz102_1 := blk_frozen BK231.out 1
          have hfz102_2 := blk_frozen BK231.out 2
          have hnb103 := NB226_236.out
          have hnc103 := NB236_226.out
          have hcz104_0 : wc.cell? ⟨gb226, 0, none⟩ = some (.int .i64 a1_0) := (blk_cell BK226.out 0).trans rfl
          have hcz104_1 : wc.cell? ⟨gb226, 1, none⟩ = some (.string a1_1) := (blk_cell BK226.out 1).trans rfl
          have hcz104_2 : wc.cell? ⟨gb226, 2, none⟩ = some (.int .i64 a1_2) := (blk_cell BK226.out 2).trans rfl
          have hcz104_3 : wc.cell? ⟨gb226, 3, none⟩ = some (.int .i64 a1_3) := (blk_cell BK226.out 3).trans rfl
          have hcz104_4 : wc.cell? ⟨gb226, 4, none⟩ = some (.int .i64 a1_4) := (blk_cell BK226.out 4).trans rfl
          have hcz104_5 : wc.cell? ⟨gb226, 5, none⟩ = some (.int .i64 a1_5) := (blk_cell BK226.out 5).trans rfl
          have hfz104_0 := blk_frozen BK226.out 0
          have hfz104_1 := blk_frozen BK226.out 1
          have hfz104_2 := blk_frozen BK226.out 2
          have hfz104_3 := blk_frozen BK226.out 3
          have hfz104_4 := blk_frozen BK226.out 4
          have hfz104_5 := blk_frozen BK226.out 5
          have hcz105_0 : wc.cell? ⟨gb236, 0, none⟩ = some (.int .i64 t232) := (blk_cell BK236.out 0).trans rfl
          have hcz105_1 : wc.cell? ⟨gb236, 1, none⟩ = some (.int .i64 t233) := (blk_cell BK236.out 1).trans rfl
          have hcz105_2 : wc.cell? ⟨gb236, 2, none⟩ = some (.int .i64 t234) := (blk_cell BK236.out 2).trans rfl
          have hfz105_0 := blk_frozen BK236.out 0
          have hfz105_1 := blk_frozen BK236.out 1
          have hfz105_2 := blk_frozen BK236.out 2
          go_wp2_with (first | ((with_reducible refine gate_callee (f := 31) rfl ?_); refine goesL_ (some 45) rfl rfl Try.func31 (by kernel_rfl) rfl #[.int .i64 (wrap64 (a0_4 + t229)), .int .i64 (wrap64 (a1_4 + t234))] rfl (by (try simp only [List.map_toArray, List.map_cons, List.map_nil]); first | done | rfl | (simp only [List.length_drop, List.length_take]; rfl)) ?_; (with_reducible refine (cmp_Compare_int.calls (wrap64 (a0_4 + t229)) (wrap64 (a1_4 + t234)) t237 _ A24.out).mono ?_); rintro e w' ⟨rfl, ⟨nd, rfl⟩⟩; refine ⟨_, rfl, ?_⟩))
          go_ret
          exact ⟨by first | rfl | (simp [errW_none, errW_some] <;> rfl) | (simp [*, errW_none, errW_some] <;> rfl), by repeat (first | (with_reducible first | exact HB.out | apply below_alloc | apply pw_below_drewN | apply below_drew1 | refine below_set ?_ GE225.out | refine below_set ?_ GE226.out | refine below_set ?_ GE231.out | refine below_set ?_ GE236.out) | exact HB.out)⟩

end Go.Proofs.Ytbjhkcfgahbipaa.P
