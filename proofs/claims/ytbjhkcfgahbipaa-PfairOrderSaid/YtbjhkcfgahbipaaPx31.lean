-- Written by wip/gen.py: the kit's print, with contracts of mine in it.
import Derived.Test.YtbjhkcfgahbipaaPx0
import Derived.Test.YtbjhkcfgahbipaaPx11
import Derived.Test.YtbjhkcfgahbipaaPx26
import Derived.Test.YtbjhkcfgahbipaaPx27
namespace Go.Proofs.Ytbjhkcfgahbipaa.P
open Go.RowKit Go.Proofs.YtbjhkcfgahbipaaW.PrintWords Go.Proofs.YtbjhkcfgahbipaaW.PrintLast Go.Proofs.YtbjhkcfgahbipaaW.PrintMore
attribute [local go_sem] max2_int min2_int max_two min_two max_three min_three max_four min_four   -- for this text's walks alone
set_option linter.unusedVariables false
set_option linter.unusedSimpArgs false

/-! ### ontimelaw45_PfairOrder: function 9 -/
mutual
def ontimelaw45_PfairOrder.j0 : Nat → Bool → Int → ByteArray → Int → Int → Int → Int → Int → ByteArray → Int → Int → Int → Int → Int → ByteArray → Int → Int → Int → Int → Option (Bool)
  | 0, _, _, _, _, _, _, _, _, _, _, _, _, _, _, _, _, _, _, _ => none
  | k + 1, x42, x280000, x280001, x280002, x280003, x280004, x280005, x281000, x281001, x281002, x281003, x281004, x281005, x282000, x282001, x282002, x282003, x282004, x282005 => if x42 = true then (some true) else ((pfair_Before.f k x280000 x280001 x280002 x280003 x280004 x280005 x280000 x280001 x280002 x280003 x280004 x280005).bind fun t286 => (if t286 = true then (ontimelaw45_PfairOrder.j1 k true x280000 x280001 x280002 x280003 x280004 x280005 x281000 x281001 x281002 x281003 x281004 x281005 x282000 x282001 x282002 x282003 x282004 x282005) else ((pfair_Before.f k x280000 x280001 x280002 x280003 x280004 x280005 x281000 x281001 x281002 x281003 x281004 x281005).bind fun t287 => ((pfair_Before.f k x281000 x281001 x281002 x281003 x281004 x281005 x280000 x280001 x280002 x280003 x280004 x280005).bind fun t288 => (ontimelaw45_PfairOrder.j1 k (t287 == t288) x280000 x280001 x280002 x280003 x280004 x280005 x281000 x281001 x281002 x281003 x281004 x281005 x282000 x282001 x282002 x282003 x282004 x282005)))))
def ontimelaw45_PfairOrder.j1 : Nat → Bool → Int → ByteArray → Int → Int → Int → Int → Int → ByteArray → Int → Int → Int → Int → Int → ByteArray → Int → Int → Int → Int → Option (Bool)
  | 0, _, _, _, _, _, _, _, _, _, _, _, _, _, _, _, _, _, _, _ => none
  | k + 1, x54, x280000, x280001, x280002, x280003, x280004, x280005, x281000, x281001, x281002, x281003, x281004, x281005, x282000, x282001, x282002, x282003, x282004, x282005 => if x54 = true then (some false) else ((pfair_Before.f k x280000 x280001 x280002 x280003 x280004 x280005 x281000 x281001 x281002 x281003 x281004 x281005).bind fun t289 => (if t289 = true then ((pfair_Before.f k x281000 x281001 x281002 x281003 x281004 x281005 x282000 x282001 x282002 x282003 x282004 x282005).bind fun t290 => (if t290 = true then ((pfair_Before.f k x280000 x280001 x280002 x280003 x280004 x280005 x282000 x282001 x282002 x282003 x282004 x282005).bind fun t291 => (some t291)) else (some true))) else (some true)))
end
def ontimelaw45_PfairOrder.f (k : Nat) (a0_0 : Int) (a0_1 : ByteArray) (a0_2 : Int) (a0_3 : Int) (a0_4 : Int) (a0_5 : Int) (a1_0 : Int) (a1_1 : ByteArray) (a1_2 : Int) (a1_3 : Int) (a1_4 : Int) (a1_5 : Int) (a2_0 : Int) (a2_1 : ByteArray) (a2_2 : Int) (a2_3 : Int) (a2_4 : Int) (a2_5 : Int) : Option (Bool) := (ontimelaw45_awake.f k).bind fun t282 => (if t282 = true then ((ontimelaw45_candidate.f a0_0 a0_1 a0_2 a0_3 a0_4 a0_5).bind fun t283 => (if t283 = 0 then (ontimelaw45_PfairOrder.j0 k true a0_0 a0_1 a0_2 a0_3 a0_4 a0_5 a1_0 a1_1 a1_2 a1_3 a1_4 a1_5 a2_0 a2_1 a2_2 a2_3 a2_4 a2_5) else ((ontimelaw45_candidate.f a1_0 a1_1 a1_2 a1_3 a1_4 a1_5).bind fun t284 => (if t284 = 0 then (ontimelaw45_PfairOrder.j0 k true a0_0 a0_1 a0_2 a0_3 a0_4 a0_5 a1_0 a1_1 a1_2 a1_3 a1_4 a1_5 a2_0 a2_1 a2_2 a2_3 a2_4 a2_5) else ((ontimelaw45_candidate.f a2_0 a2_1 a2_2 a2_3 a2_4 a2_5).bind fun t285 => (if t285 = 0 then (ontimelaw45_PfairOrder.j0 k true a0_0 a0_1 a0_2 a0_3 a0_4 a0_5 a1_0 a1_1 a1_2 a1_3 a1_4 a1_5 a2_0 a2_1 a2_2 a2_3 a2_4 a2_5) else (if a0_0 = a1_0 then (ontimelaw45_PfairOrder.j0 k true a0_0 a0_1 a0_2 a0_3 a0_4 a0_5 a1_0 a1_1 a1_2 a1_3 a1_4 a1_5 a2_0 a2_1 a2_2 a2_3 a2_4 a2_5) else (if a1_0 = a2_0 then (ontimelaw45_PfairOrder.j0 k true a0_0 a0_1 a0_2 a0_3 a0_4 a0_5 a1_0 a1_1 a1_2 a1_3 a1_4 a1_5 a2_0 a2_1 a2_2 a2_3 a2_4 a2_5) else (ontimelaw45_PfairOrder.j0 k (a0_0 == a2_0) a0_0 a0_1 a0_2 a0_3 a0_4 a0_5 a1_0 a1_1 a1_2 a1_3 a1_4 a1_5 a2_0 a2_1 a2_2 a2_3 a2_4 a2_5))))))))) else (some false))
theorem ontimelaw45_PfairOrder.mono_l : ∀ k, (∀ y0 y1 y2 y3 y4 y5 y6 y7 y8 y9 y10 y11 y12 y13 y14 y15 y16 y17 y18, LeO (ontimelaw45_PfairOrder.j0 k y0 y1 y2 y3 y4 y5 y6 y7 y8 y9 y10 y11 y12 y13 y14 y15 y16 y17 y18) (ontimelaw45_PfairOrder.j0 (k + 1) y0 y1 y2 y3 y4 y5 y6 y7 y8 y9 y10 y11 y12 y13 y14 y15 y16 y17 y18)) ∧ (∀ y0 y1 y2 y3 y4 y5 y6 y7 y8 y9 y10 y11 y12 y13 y14 y15 y16 y17 y18, LeO (ontimelaw45_PfairOrder.j1 k y0 y1 y2 y3 y4 y5 y6 y7 y8 y9 y10 y11 y12 y13 y14 y15 y16 y17 y18) (ontimelaw45_PfairOrder.j1 (k + 1) y0 y1 y2 y3 y4 y5 y6 y7 y8 y9 y10 y11 y12 y13 y14 y15 y16 y17 y18))
  | 0 => ⟨fun _ _ _ _ _ _ _ _ _ _ _ _ _ _ _ _ _ _ _ r h => by simp [ontimelaw45_PfairOrder.j0] at h, fun _ _ _ _ _ _ _ _ _ _ _ _ _ _ _ _ _ _ _ r h => by simp [ontimelaw45_PfairOrder.j1] at h⟩
  | k + 1 => by
    obtain ⟨ih0, ih1⟩ := ontimelaw45_PfairOrder.mono_l k
    refine ⟨?_, ?_⟩
    · intro y0 y1 y2 y3 y4 y5 y6 y7 y8 y9 y10 y11 y12 y13 y14 y15 y16 y17 y18
      unfold ontimelaw45_PfairOrder.j0
      repeat' first
      | (with_reducible exact ih0 _ _ _ _ _ _ _ _ _ _ _ _ _ _ _ _ _ _ _)
      | (with_reducible exact ih1 _ _ _ _ _ _ _ _ _ _ _ _ _ _ _ _ _ _ _)
      | (with_reducible exact ontimelaw45_awake.mono _)
      | (with_reducible exact pfair_Before.mono _ _ _ _ _ _ _ _ _ _ _ _ _)
      | (with_reducible exact LeO.refl _)
      | (with_reducible exact LeO.none _)
      | (with_reducible refine LeO.ite ?_ ?_)
      | (with_reducible refine LeO.bind ?_ (fun _ => ?_))
      | exact ih0 _ _ _ _ _ _ _ _ _ _ _ _ _ _ _ _ _ _ _
      | exact ih1 _ _ _ _ _ _ _ _ _ _ _ _ _ _ _ _ _ _ _
      | exact ontimelaw45_awake.mono _
      | exact pfair_Before.mono _ _ _ _ _ _ _ _ _ _ _ _ _
      | exact LeO.none _
      | refine LeO.ite ?_ ?_
      | refine LeO.bind ?_ (fun _ => ?_)
    · intro y0 y1 y2 y3 y4 y5 y6 y7 y8 y9 y10 y11 y12 y13 y14 y15 y16 y17 y18
      unfold ontimelaw45_PfairOrder.j1
      repeat' first
      | (with_reducible exact ih0 _ _ _ _ _ _ _ _ _ _ _ _ _ _ _ _ _ _ _)
      | (with_reducible exact ih1 _ _ _ _ _ _ _ _ _ _ _ _ _ _ _ _ _ _ _)
      | (with_reducible exact ontimelaw45_awake.mono _)
      | (with_reducible exact pfair_Before.mono _ _ _ _ _ _ _ _ _ _ _ _ _)
      | (with_reducible exact LeO.refl _)
      | (with_reducible exact LeO.none _)
      | (with_reducible refine LeO.ite ?_ ?_)
      | (with_reducible refine LeO.bind ?_ (fun _ => ?_))
      | exact ih0 _ _ _ _ _ _ _ _ _ _ _ _ _ _ _ _ _ _ _
      | exact ih1 _ _ _ _ _ _ _ _ _ _ _ _ _ _ _ _ _ _ _
      | exact ontimelaw45_awake.mono _
      | exact pfair_Before.mono _ _ _ _ _ _ _ _ _ _ _ _ _
      | exact LeO.none _
      | refine LeO.ite ?_ ?_
      | refine LeO.bind ?_ (fun _ => ?_)
theorem ontimelaw45_PfairOrder.mono : ∀ a0 a1 a2 a3 a4 a5 a6 a7 a8 a9 a10 a11 a12 a13 a14 a15 a16 a17 k, LeO (ontimelaw45_PfairOrder.f k a0 a1 a2 a3 a4 a5 a6 a7 a8 a9 a10 a11 a12 a13 a14 a15 a16 a17) (ontimelaw45_PfairOrder.f (k + 1) a0 a1 a2 a3 a4 a5 a6 a7 a8 a9 a10 a11 a12 a13 a14 a15 a16 a17) := by
  intro a0 a1 a2 a3 a4 a5 a6 a7 a8 a9 a10 a11 a12 a13 a14 a15 a16 a17 k
  obtain ⟨ih0, ih1⟩ := ontimelaw45_PfairOrder.mono_l k
  unfold ontimelaw45_PfairOrder.f
  repeat' first
      | (with_reducible exact ih0 _ _ _ _ _ _ _ _ _ _ _ _ _ _ _ _ _ _ _)
      | (with_reducible exact ih1 _ _ _ _ _ _ _ _ _ _ _ _ _ _ _ _ _ _ _)
      | (with_reducible exact ontimelaw45_awake.mono _)
      | (with_reducible exact pfair_Before.mono _ _ _ _ _ _ _ _ _ _ _ _ _)
      | (with_reducible exact LeO.refl _)
      | (with_reducible exact LeO.none _)
      | (with_reducible refine LeO.ite ?_ ?_)
      | (with_reducible refine LeO.bind ?_ (fun _ => ?_))
      | exact ih0 _ _ _ _ _ _ _ _ _ _ _ _ _ _ _ _ _ _ _
      | exact ih1 _ _ _ _ _ _ _ _ _ _ _ _ _ _ _ _ _ _ _
      | exact ontimelaw45_awake.mono _
      | exact pfair_Before.mono _ _ _ _ _ _ _ _ _ _ _ _ _
      | exact LeO.none _
      | refine LeO.ite ?_ ?_
      | refine LeO.bind ?_ (fun _ => ?_)
def ontimelaw45_PfairOrder.T5 : Bool × List (List Nat × List Nat) := (true, [([], []), ([], []), ([0, 1], [0, 1]), ([2, 2], [2]), ([3], [3]), ([3], [3]), ([4, 5, 3, 3], [3, 4, 5]), ([3], [3]), ([3], [3]), ([7, 8, 6, 3], [3, 7, 8]), ([6, 9, 3], [3, 6, 9]), ([3, 10], [3, 10])])
def ontimelaw45_PfairOrder.B5 : List Nat := [0, 0, 3, 7, 15, 15, 63, 15, 15, 511, 1023, 2047]
theorem ontimelaw45_PfairOrder.tab5 : rtab .any (opsOf Try.f9 5) = ontimelaw45_PfairOrder.T5 := by kernel_rfl
theorem ontimelaw45_PfairOrder.bits5 : waitsOk ontimelaw45_PfairOrder.T5.2 ontimelaw45_PfairOrder.B5 = true := by kernel_rfl
set_option maxHeartbeats 8000000 in
set_option maxRecDepth 100000 in
theorem ontimelaw45_PfairOrder.calls (k : Nat) (a0_0 : Int) (a0_1 : ByteArray) (a0_2 : Int) (a0_3 : Int) (a0_4 : Int) (a0_5 : Int) (a1_0 : Int) (a1_1 : ByteArray) (a1_2 : Int) (a1_3 : Int) (a1_4 : Int) (a1_5 : Int) (a2_0 : Int) (a2_1 : ByteArray) (a2_2 : Int) (a2_3 : Int) (a2_4 : Int) (a2_5 : Int) (r : Bool) (w : World) (h : ontimelaw45_PfairOrder.f k a0_0 a0_1 a0_2 a0_3 a0_4 a0_5 a1_0 a1_1 a1_2 a1_3 a1_4 a1_5 a2_0 a2_1 a2_2 a2_3 a2_4 a2_5 = some r) :
    Calls Try.prog 9 #[.agg #[.int .i64 a0_0, .string a0_1, .int .i64 a0_2, .int .i64 a0_3, .int .i64 a0_4, .int .i64 a0_5], .agg #[.int .i64 a1_0, .string a1_1, .int .i64 a1_2, .int .i64 a1_3, .int .i64 a1_4, .int .i64 a1_5], .agg #[.int .i64 a2_0, .string a2_1, .int .i64 a2_2, .int .i64 a2_3, .int .i64 a2_4, .int .i64 a2_5]] w fun e w' => e = .returned (.bool r) ∧ Below w.heap.size w w' := by
  have hu42 := Try.underlying42
  have HB := Aside0.mk (Below.refl w.heap.size w)
  have H : ((ontimelaw45_awake.f k).bind fun t282 => (if t282 = true then ((ontimelaw45_candidate.f a0_0 a0_1 a0_2 a0_3 a0_4 a0_5).bind fun t283 => (if t283 = 0 then (ontimelaw45_PfairOrder.j0 k true a0_0 a0_1 a0_2 a0_3 a0_4 a0_5 a1_0 a1_1 a1_2 a1_3 a1_4 a1_5 a2_0 a2_1 a2_2 a2_3 a2_4 a2_5) else ((ontimelaw45_candidate.f a1_0 a1_1 a1_2 a1_3 a1_4 a1_5).bind fun t284 => (if t284 = 0 then (ontimelaw45_PfairOrder.j0 k true a0_0 a0_1 a0_2 a0_3 a0_4 a0_5 a1_0 a1_1 a1_2 a1_3 a1_4 a1_5 a2_0 a2_1 a2_2 a2_3 a2_4 a2_5) else ((ontimelaw45_candidate.f a2_0 a2_1 a2_2 a2_3 a2_4 a2_5).bind fun t285 => (if t285 = 0 then (ontimelaw45_PfairOrder.j0 k true a0_0 a0_1 a0_2 a0_3 a0_4 a0_5 a1_0 a1_1 a1_2 a1_3 a1_4 a1_5 a2_0 a2_1 a2_2 a2_3 a2_4 a2_5) else (if a0_0 = a1_0 then (ontimelaw45_PfairOrder.j0 k true a0_0 a0_1 a0_2 a0_3 a0_4 a0_5 a1_0 a1_1 a1_2 a1_3 a1_4 a1_5 a2_0 a2_1 a2_2 a2_3 a2_4 a2_5) else (if a1_0 = a2_0 then (ontimelaw45_PfairOrder.j0 k true a0_0 a0_1 a0_2 a0_3 a0_4 a0_5 a1_0 a1_1 a1_2 a1_3 a1_4 a1_5 a2_0 a2_1 a2_2 a2_3 a2_4 a2_5) else (ontimelaw45_PfairOrder.j0 k (a0_0 == a2_0) a0_0 a0_1 a0_2 a0_3 a0_4 a0_5 a1_0 a1_1 a1_2 a1_3 a1_4 a1_5 a2_0 a2_1 a2_2 a2_3 a2_4 a2_5))))))))) else (some false))) = some r := h
  clear h
  replace H := Option.bind_eq_some_iff.mp H
  obtain ⟨t282, A40, H⟩ := H
  replace H : (if t282 = true then ((ontimelaw45_candidate.f a0_0 a0_1 a0_2 a0_3 a0_4 a0_5).bind fun t283 => (if t283 = 0 then (ontimelaw45_PfairOrder.j0 k true a0_0 a0_1 a0_2 a0_3 a0_4 a0_5 a1_0 a1_1 a1_2 a1_3 a1_4 a1_5 a2_0 a2_1 a2_2 a2_3 a2_4 a2_5) else ((ontimelaw45_candidate.f a1_0 a1_1 a1_2 a1_3 a1_4 a1_5).bind fun t284 => (if t284 = 0 then (ontimelaw45_PfairOrder.j0 k true a0_0 a0_1 a0_2 a0_3 a0_4 a0_5 a1_0 a1_1 a1_2 a1_3 a1_4 a1_5 a2_0 a2_1 a2_2 a2_3 a2_4 a2_5) else ((ontimelaw45_candidate.f a2_0 a2_1 a2_2 a2_3 a2_4 a2_5).bind fun t285 => (if t285 = 0 then (ontimelaw45_PfairOrder.j0 k true a0_0 a0_1 a0_2 a0_3 a0_4 a0_5 a1_0 a1_1 a1_2 a1_3 a1_4 a1_5 a2_0 a2_1 a2_2 a2_3 a2_4 a2_5) else (if a0_0 = a1_0 then (ontimelaw45_PfairOrder.j0 k true a0_0 a0_1 a0_2 a0_3 a0_4 a0_5 a1_0 a1_1 a1_2 a1_3 a1_4 a1_5 a2_0 a2_1 a2_2 a2_3 a2_4 a2_5) else (if a1_0 = a2_0 then (ontimelaw45_PfairOrder.j0 k true a0_0 a0_1 a0_2 a0_3 a0_4 a0_5 a1_0 a1_1 a1_2 a1_3 a1_4 a1_5 a2_0 a2_1 a2_2 a2_3 a2_4 a2_5) else (ontimelaw45_PfairOrder.j0 k (a0_0 == a2_0) a0_0 a0_1 a0_2 a0_3 a0_4 a0_5 a1_0 a1_1 a1_2 a1_3 a1_4 a1_5 a2_0 a2_1 a2_2 a2_3 a2_4 a2_5))))))))) else (some false)) = some r := H
  have A4 := Aside0.mk A40
  clear A40
  by_cases c5 : t282 = true
  · subst c5
    have H1 : ((ontimelaw45_candidate.f a0_0 a0_1 a0_2 a0_3 a0_4 a0_5).bind fun t283 => (if t283 = 0 then (ontimelaw45_PfairOrder.j0 k true a0_0 a0_1 a0_2 a0_3 a0_4 a0_5 a1_0 a1_1 a1_2 a1_3 a1_4 a1_5 a2_0 a2_1 a2_2 a2_3 a2_4 a2_5) else ((ontimelaw45_candidate.f a1_0 a1_1 a1_2 a1_3 a1_4 a1_5).bind fun t284 => (if t284 = 0 then (ontimelaw45_PfairOrder.j0 k true a0_0 a0_1 a0_2 a0_3 a0_4 a0_5 a1_0 a1_1 a1_2 a1_3 a1_4 a1_5 a2_0 a2_1 a2_2 a2_3 a2_4 a2_5) else ((ontimelaw45_candidate.f a2_0 a2_1 a2_2 a2_3 a2_4 a2_5).bind fun t285 => (if t285 = 0 then (ontimelaw45_PfairOrder.j0 k true a0_0 a0_1 a0_2 a0_3 a0_4 a0_5 a1_0 a1_1 a1_2 a1_3 a1_4 a1_5 a2_0 a2_1 a2_2 a2_3 a2_4 a2_5) else (if a0_0 = a1_0 then (ontimelaw45_PfairOrder.j0 k true a0_0 a0_1 a0_2 a0_3 a0_4 a0_5 a1_0 a1_1 a1_2 a1_3 a1_4 a1_5 a2_0 a2_1 a2_2 a2_3 a2_4 a2_5) else (if a1_0 = a2_0 then (ontimelaw45_PfairOrder.j0 k true a0_0 a0_1 a0_2 a0_3 a0_4 a0_5 a1_0 a1_1 a1_2 a1_3 a1_4 a1_5 a2_0 a2_1 a2_2 a2_3 a2_4 a2_5) else (ontimelaw45_PfairOrder.j0 k (a0_0 == a2_0) a0_0 a0_1 a0_2 a0_3 a0_4 a0_5 a1_0 a1_1 a1_2 a1_3 a1_4 a1_5 a2_0 a2_1 a2_2 a2_3 a2_4 a2_5))))))))) = some r := by rw [if_pos rfl] at H; exact H
    clear H
    have H := H1
    clear H1
    have HC6 := Aside0.mk H
    clear H
    go_enter Try.func9, Try.ntmps9
    go_upto_region 3 with (first | ((with_reducible refine gate_dst (N := 3) rfl ?_); refine box_event ?hg (N := 3) ?hd (cs := #[.int .i64 a0_0, .string a0_1, .int .i64 a0_2, .int .i64 a0_3, .int .i64 a0_4, .int .i64 a0_5]) (t := 42) ?hr ?_; (case hd => rfl); (case hg => rfl); (case hr => first | (go_simp; done) | (go_simp; rfl)); intro gb279 hg w7 hbox hb; have n0_ := Aside0.mk (below_step (by repeat (first | (with_reducible first | exact HB.out | apply below_alloc | apply pw_below_drewN | apply below_drew1) | exact HB.out)) hb); have n1_ := Aside0.mk (hbox); have n2_ := Aside0.mk ((by rw [hg]; exact (below_size (by repeat (first | (with_reducible first | exact HB.out | apply below_alloc | apply pw_below_drewN | apply below_drew1) | exact HB.out))) : w.heap.size ≤ gb279)); have n3_ := Aside0.mk ((by rw [hg]; exact (below_size (by repeat (first | (with_reducible first | exact HB.out | apply below_alloc | apply pw_below_drewN | apply below_drew1) | exact HB.out))) : w.heap.size ≤ gb279)); clear HB; have HB := n0_; have BK279 := n1_; have GW279 := n2_; have GE279 := n3_; clear n0_ n1_ n2_ n3_; clear hb hbox hg) | ((with_reducible refine gate_dst (N := 4) rfl ?_); refine box_event ?hg (N := 4) ?hd (cs := #[.int .i64 a1_0, .string a1_1, .int .i64 a1_2, .int .i64 a1_3, .int .i64 a1_4, .int .i64 a1_5]) (t := 42) ?hr ?_; (case hd => rfl); (case hg => rfl); (case hr => first | (go_simp; done) | (go_simp; rfl)); intro gb280 hg w8 hbox hb; have n0_ := Aside0.mk (blk_below (g := gb279) (o := .cells #[.int .i64 a0_0, .string a0_1, .int .i64 a0_2, .int .i64 a0_3, .int .i64 a0_4, .int .i64 a0_5] 42 (0, 0)) (by (with_reducible repeat (first | refine blk_drewN ?_ _ | refine blk_drew ?_ | refine blk_alloc ?_ _)); exact BK279.out) hb); have n1_ := Aside0.mk (below_step (by repeat (first | (with_reducible first | exact HB.out | apply below_alloc | apply pw_below_drewN | apply below_drew1 | refine below_set ?_ GE279.out) | exact HB.out)) hb); have n2_ := Aside0.mk (hbox); have n3_ := Aside0.mk ((by rw [hg]; exact (below_size (by repeat (first | (with_reducible first | exact HB.out | apply below_alloc | apply pw_below_drewN | apply below_drew1 | refine below_set ?_ GE279.out) | exact HB.out))) : w.heap.size ≤ gb280)); have n4_ := Aside0.mk ((by rw [hg]; exact (below_size (by repeat (first | (with_reducible first | exact HB.out | apply below_alloc | apply pw_below_drewN | apply below_drew1 | refine below_set ?_ GE279.out) | exact HB.out))) : w.heap.size ≤ gb280)); have n5_ := Aside0.mk ((by rw [hg]; exact Nat.ne_of_lt (blk_lt (g := gb279) (o := .cells #[.int .i64 a0_0, .string a0_1, .int .i64 a0_2, .int .i64 a0_3, .int .i64 a0_4, .int .i64 a0_5] 42 (0, 0)) (by (with_reducible repeat (first | refine blk_drewN ?_ _ | refine blk_drew ?_ | refine blk_alloc ?_ _)); exact BK279.out)) : gb279 ≠ gb280)); have n6_ := Aside0.mk ((by rw [hg]; exact Nat.ne_of_gt (blk_lt (g := gb279) (o := .cells #[.int .i64 a0_0, .string a0_1, .int .i64 a0_2, .int .i64 a0_3, .int .i64 a0_4, .int .i64 a0_5] 42 (0, 0)) (by (with_reducible repeat (first | refine blk_drewN ?_ _ | refine blk_drew ?_ | refine blk_alloc ?_ _)); exact BK279.out)) : gb280 ≠ gb279)); clear BK279; clear HB; have BK279 := n0_; have HB := n1_; have BK280 := n2_; have GW280 := n3_; have GE280 := n4_; have NB279_280 := n5_; have NB280_279 := n6_; clear n0_ n1_ n2_ n3_ n4_ n5_ n6_; clear hb hbox hg) | ((with_reducible refine gate_dst (N := 5) rfl ?_); refine box_event ?hg (N := 5) ?hd (cs := #[.int .i64 a2_0, .string a2_1, .int .i64 a2_2, .int .i64 a2_3, .int .i64 a2_4, .int .i64 a2_5]) (t := 42) ?hr ?_; (case hd => rfl); (case hg => rfl); (case hr => first | (go_simp; done) | (go_simp; rfl)); intro gb281 hg w9 hbox hb; have n0_ := Aside0.mk (blk_below (g := gb279) (o := .cells #[.int .i64 a0_0, .string a0_1, .int .i64 a0_2, .int .i64 a0_3, .int .i64 a0_4, .int .i64 a0_5] 42 (0, 0)) (by (with_reducible repeat (first | refine blk_drewN ?_ _ | refine blk_drew ?_ | refine blk_alloc ?_ _)); exact BK279.out) hb); have n1_ := Aside0.mk (blk_below (g := gb280) (o := .cells #[.int .i64 a1_0, .string a1_1, .int .i64 a1_2, .int .i64 a1_3, .int .i64 a1_4, .int .i64 a1_5] 42 (0, 0)) (by (with_reducible repeat (first | refine blk_drewN ?_ _ | refine blk_drew ?_ | refine blk_alloc ?_ _)); exact BK280.out) hb); have n2_ := Aside0.mk (below_step (by repeat (first | (with_reducible first | exact HB.out | apply below_alloc | apply pw_below_drewN | apply below_drew1 | refine below_set ?_ GE279.out | refine below_set ?_ GE280.out) | exact HB.out)) hb); have n3_ := Aside0.mk (hbox); have n4_ := Aside0.mk ((by rw [hg]; exact (below_size (by repeat (first | (with_reducible first | exact HB.out | apply below_alloc | apply pw_below_drewN | apply below_drew1 | refine below_set ?_ GE279.out | refine below_set ?_ GE280.out) | exact HB.out))) : w.heap.size ≤ gb281)); have n5_ := Aside0.mk ((by rw [hg]; exact (below_size (by repeat (first | (with_reducible first | exact HB.out | apply below_alloc | apply pw_below_drewN | apply below_drew1 | refine below_set ?_ GE279.out | refine below_set ?_ GE280.out) | exact HB.out))) : w.heap.size ≤ gb281)); have n6_ := Aside0.mk ((by rw [hg]; exact Nat.ne_of_lt (blk_lt (g := gb279) (o := .cells #[.int .i64 a0_0, .string a0_1, .int .i64 a0_2, .int .i64 a0_3, .int .i64 a0_4, .int .i64 a0_5] 42 (0, 0)) (by (with_reducible repeat (first | refine blk_drewN ?_ _ | refine blk_drew ?_ | refine blk_alloc ?_ _)); exact BK279.out)) : gb279 ≠ gb281)); have n7_ := Aside0.mk ((by rw [hg]; exact Nat.ne_of_gt (blk_lt (g := gb279) (o := .cells #[.int .i64 a0_0, .string a0_1, .int .i64 a0_2, .int .i64 a0_3, .int .i64 a0_4, .int .i64 a0_5] 42 (0, 0)) (by (with_reducible repeat (first | refine blk_drewN ?_ _ | refine blk_drew ?_ | refine blk_alloc ?_ _)); exact BK279.out)) : gb281 ≠ gb279)); have n8_ := Aside0.mk ((by rw [hg]; exact Nat.ne_of_lt (blk_lt (g := gb280) (o := .cells #[.int .i64 a1_0, .string a1_1, .int .i64 a1_2, .int .i64 a1_3, .int .i64 a1_4, .int .i64 a1_5] 42 (0, 0)) (by (with_reducible repeat (first | refine blk_drewN ?_ _ | refine blk_drew ?_ | refine blk_alloc ?_ _)); exact BK280.out)) : gb280 ≠ gb281)); have n9_ := Aside0.mk ((by rw [hg]; exact Nat.ne_of_gt (blk_lt (g := gb280) (o := .cells #[.int .i64 a1_0, .string a1_1, .int .i64 a1_2, .int .i64 a1_3, .int .i64 a1_4, .int .i64 a1_5] 42 (0, 0)) (by (with_reducible repeat (first | refine blk_drewN ?_ _ | refine blk_drew ?_ | refine blk_alloc ?_ _)); exact BK280.out)) : gb281 ≠ gb280)); clear BK279; clear BK280; clear HB; have BK279 := n0_; have BK280 := n1_; have HB := n2_; have BK281 := n3_; have GW281 := n4_; have GE281 := n5_; have NB279_281 := n6_; have NB281_279 := n7_; have NB280_281 := n8_; have NB281_280 := n9_; clear n0_ n1_ n2_ n3_ n4_ n5_ n6_ n7_ n8_ n9_; clear hb hbox hg) | ((with_reducible refine gate_callee (f := 11) rfl ?_); refine goesL_ (some 7) rfl rfl Try.func11 (by kernel_rfl) rfl #[] rfl (by (try simp only [List.map_toArray, List.map_cons, List.map_nil]); first | done | rfl | (simp only [List.length_drop, List.length_take]; rfl)) ?_; (with_reducible refine (ontimelaw45_awake.calls k  true _ A4.out).mono ?_); rintro e w10 ⟨rfl, hb⟩; refine ⟨_, rfl, ?_⟩; have n0_ := Aside0.mk (blk_below (g := gb279) (o := .cells #[.int .i64 a0_0, .string a0_1, .int .i64 a0_2, .int .i64 a0_3, .int .i64 a0_4, .int .i64 a0_5] 42 (0, 0)) (by (with_reducible repeat (first | refine blk_drewN ?_ _ | refine blk_drew ?_ | refine blk_alloc ?_ _)); exact BK279.out) hb); have n1_ := Aside0.mk (blk_below (g := gb280) (o := .cells #[.int .i64 a1_0, .string a1_1, .int .i64 a1_2, .int .i64 a1_3, .int .i64 a1_4, .int .i64 a1_5] 42 (0, 0)) (by (with_reducible repeat (first | refine blk_drewN ?_ _ | refine blk_drew ?_ | refine blk_alloc ?_ _)); exact BK280.out) hb); have n2_ := Aside0.mk (blk_below (g := gb281) (o := .cells #[.int .i64 a2_0, .string a2_1, .int .i64 a2_2, .int .i64 a2_3, .int .i64 a2_4, .int .i64 a2_5] 42 (0, 0)) (by (with_reducible repeat (first | refine blk_drewN ?_ _ | refine blk_drew ?_ | refine blk_alloc ?_ _)); exact BK281.out) hb); have n3_ := Aside0.mk (below_step (by repeat (first | (with_reducible first | exact HB.out | apply below_alloc | apply pw_below_drewN | apply below_drew1 | refine below_set ?_ GE279.out | refine below_set ?_ GE280.out | refine below_set ?_ GE281.out) | exact HB.out)) hb); clear BK279; clear BK280; clear BK281; clear HB; have BK279 := n0_; have BK280 := n1_; have BK281 := n2_; have HB := n3_; clear n0_ n1_ n2_ n3_; (try clear hb); (try clear hb2); (try clear hk); (try clear hi)))
    (try simp only [Act.put, List.setIfInBounds_toArray, List.set_cons_zero, List.set_cons_succ])
    go_cut [42] (fun v42 wc => ∃ (kq : Nat) (x42_5 : Bool), v42 = .bool x42_5 ∧ Aside0 (ontimelaw45_PfairOrder.j0 kq x42_5 a0_0 a0_1 a0_2 a0_3 a0_4 a0_5 a1_0 a1_1 a1_2 a1_3 a1_4 a1_5 a2_0 a2_1 a2_2 a2_3 a2_4 a2_5 = some r) ∧ Aside0 (kq ≤ k) ∧ Aside0 (wc.heap[gb279]? = some (.cells #[.int .i64 a0_0, .string a0_1, .int .i64 a0_2, .int .i64 a0_3, .int .i64 a0_4, .int .i64 a0_5] 42 (0, 0))) ∧ Aside0 (wc.heap[gb280]? = some (.cells #[.int .i64 a1_0, .string a1_1, .int .i64 a1_2, .int .i64 a1_3, .int .i64 a1_4, .int .i64 a1_5] 42 (0, 0))) ∧ Aside0 (wc.heap[gb281]? = some (.cells #[.int .i64 a2_0, .string a2_1, .int .i64 a2_2, .int .i64 a2_3, .int .i64 a2_4, .int .i64 a2_5] 42 (0, 0))) ∧ Aside0 (Below w.heap.size w wc))
    case first =>
      have H := HC6.out
      clear HC6
      replace H := Option.bind_eq_some_iff.mp H
      obtain ⟨t283, A110, H⟩ := H
      replace H : (if t283 = 0 then (ontimelaw45_PfairOrder.j0 k true a0_0 a0_1 a0_2 a0_3 a0_4 a0_5 a1_0 a1_1 a1_2 a1_3 a1_4 a1_5 a2_0 a2_1 a2_2 a2_3 a2_4 a2_5) else ((ontimelaw45_candidate.f a1_0 a1_1 a1_2 a1_3 a1_4 a1_5).bind fun t284 => (if t284 = 0 then (ontimelaw45_PfairOrder.j0 k true a0_0 a0_1 a0_2 a0_3 a0_4 a0_5 a1_0 a1_1 a1_2 a1_3 a1_4 a1_5 a2_0 a2_1 a2_2 a2_3 a2_4 a2_5) else ((ontimelaw45_candidate.f a2_0 a2_1 a2_2 a2_3 a2_4 a2_5).bind fun t285 => (if t285 = 0 then (ontimelaw45_PfairOrder.j0 k true a0_0 a0_1 a0_2 a0_3 a0_4 a0_5 a1_0 a1_1 a1_2 a1_3 a1_4 a1_5 a2_0 a2_1 a2_2 a2_3 a2_4 a2_5) else (if a0_0 = a1_0 then (ontimelaw45_PfairOrder.j0 k true a0_0 a0_1 a0_2 a0_3 a0_4 a0_5 a1_0 a1_1 a1_2 a1_3 a1_4 a1_5 a2_0 a2_1 a2_2 a2_3 a2_4 a2_5) else (if a1_0 = a2_0 then (ontimelaw45_PfairOrder.j0 k true a0_0 a0_1 a0_2 a0_3 a0_4 a0_5 a1_0 a1_1 a1_2 a1_3 a1_4 a1_5 a2_0 a2_1 a2_2 a2_3 a2_4 a2_5) else (ontimelaw45_PfairOrder.j0 k (a0_0 == a2_0) a0_0 a0_1 a0_2 a0_3 a0_4 a0_5 a1_0 a1_1 a1_2 a1_3 a1_4 a1_5 a2_0 a2_1 a2_2 a2_3 a2_4 a2_5)))))))) = some r := H
      have A11 := Aside0.mk A110
      clear A110
      by_cases c12 : t283 = 0
      · rw [if_pos c12] at H
        have c12b0 : (t283 == 0) = true := beq_iff_eq.mpr c12
        have c12b1 : (t283 != 0) = false := bne_eq_false_iff_eq.mpr c12
        clear c12
        (first | rw [c12b0] | (simp only [i64_w, i32_w]; rw [c12b0]) | skip)
        have H' := Aside0.mk H
        clear H
        have hnb13 := NB279_280.out
        have hnc13 := NB280_279.out
        have hnb14 := NB279_281.out
        have hnc14 := NB281_279.out
        have hcz15_0 : w10.cell? ⟨gb279, 0, none⟩ = some (.int .i64 a0_0) := (blk_cell BK279.out 0).trans rfl
        have hcz15_1 : w10.cell? ⟨gb279, 1, none⟩ = some (.string a0_1) := (blk_cell BK279.out 1).trans rfl
        have hcz15_2 : w10.cell? ⟨gb279, 2, none⟩ = some (.int .i64 a0_2) := (blk_cell BK279.out 2).trans rfl
        have hcz15_3 : w10.cell? ⟨gb279, 3, none⟩ = some (.int .i64 a0_3) := (blk_cell BK279.out 3).trans rfl
        have hcz15_4 : w10.cell? ⟨gb279, 4, none⟩ = some (.int .i64 a0_4) := (blk_cell BK279.out 4).trans rfl
        have hcz15_5 : w10.cell? ⟨gb279, 5, none⟩ = some (.int .i64 a0_5) := (blk_cell BK279.out 5).trans rfl
        have hfz15_0 := blk_frozen BK279.out 0
        have hfz15_1 := blk_frozen BK279.out 1
        have hfz15_2 := blk_frozen BK279.out 2
        have hfz15_3 := blk_frozen BK279.out 3
        have hfz15_4 := blk_frozen BK279.out 4
        have hfz15_5 := blk_frozen BK279.out 5
        go_wp2_with (first | ((with_reducible refine gate_callee (f := 23) rfl ?_); refine goesL_ (some 10) rfl rfl Try.func23 (by kernel_rfl) rfl #[.agg #[.int .i64 a0_0, .string a0_1, .int .i64 a0_2, .int .i64 a0_3, .int .i64 a0_4, .int .i64 a0_5]] rfl (by (try simp only [List.map_toArray, List.map_cons, List.map_nil]); first | done | rfl | (simp only [List.length_drop, List.length_take]; rfl)) ?_; (with_reducible refine (ontimelaw45_candidate.calls a0_0 a0_1 a0_2 a0_3 a0_4 a0_5 t283 _ A11.out).mono ?_); rintro e w16 ⟨rfl, hb⟩; refine ⟨_, rfl, ?_⟩; have n0_ := Aside0.mk (blk_below (g := gb279) (o := .cells #[.int .i64 a0_0, .string a0_1, .int .i64 a0_2, .int .i64 a0_3, .int .i64 a0_4, .int .i64 a0_5] 42 (0, 0)) (by (with_reducible repeat (first | refine blk_drewN ?_ _ | refine blk_drew ?_ | refine blk_alloc ?_ _)); exact BK279.out) hb); have n1_ := Aside0.mk (blk_below (g := gb280) (o := .cells #[.int .i64 a1_0, .string a1_1, .int .i64 a1_2, .int .i64 a1_3, .int .i64 a1_4, .int .i64 a1_5] 42 (0, 0)) (by (with_reducible repeat (first | refine blk_drewN ?_ _ | refine blk_drew ?_ | refine blk_alloc ?_ _)); exact BK280.out) hb); have n2_ := Aside0.mk (blk_below (g := gb281) (o := .cells #[.int .i64 a2_0, .string a2_1, .int .i64 a2_2, .int .i64 a2_3, .int .i64 a2_4, .int .i64 a2_5] 42 (0, 0)) (by (with_reducible repeat (first | refine blk_drewN ?_ _ | refine blk_drew ?_ | refine blk_alloc ?_ _)); exact BK281.out) hb); have n3_ := Aside0.mk (below_step (by repeat (first | (with_reducible first | exact HB.out | apply below_alloc | apply pw_below_drewN | apply below_drew1 | refine below_set ?_ GE279.out | refine below_set ?_ GE280.out | refine below_set ?_ GE281.out) | exact HB.out)) hb); clear BK279; clear BK280; clear BK281; clear HB; have BK279 := n0_; have BK280 := n1_; have BK281 := n2_; have HB := n3_; clear n0_ n1_ n2_ n3_; (try clear hb); (try clear hb2); (try clear hk); (try clear hi)))
        go_meet
        case rel => exact ⟨_, (true), (by first | rfl | (simp; done) | (simp [*]; done)), H', ⟨by first | omega | exact Nat.le_refl _⟩, ⟨by (with_reducible repeat (first | refine blk_drewN ?_ _ | refine blk_drew ?_ | refine blk_alloc ?_ _)); exact BK279.out⟩, ⟨by (with_reducible repeat (first | refine blk_drewN ?_ _ | refine blk_drew ?_ | refine blk_alloc ?_ _)); exact BK280.out⟩, ⟨by (with_reducible repeat (first | refine blk_drewN ?_ _ | refine blk_drew ?_ | refine blk_alloc ?_ _)); exact BK281.out⟩, ⟨by repeat (first | (with_reducible first | exact HB.out | apply below_alloc | apply pw_below_drewN | apply below_drew1 | refine below_set ?_ GE279.out | refine below_set ?_ GE280.out | refine below_set ?_ GE281.out) | exact HB.out)⟩⟩
      · rw [if_neg c12] at H
        have c12b0 : (t283 == 0) = false := beq_eq_false_iff_ne.mpr c12
        have c12b1 : (t283 != 0) = true := bne_iff_ne.mpr c12
        (first | rw [c12b0] | (simp only [i64_w, i32_w]; rw [c12b0]) | skip)
        replace H := Option.bind_eq_some_iff.mp H
        obtain ⟨t284, A170, H⟩ := H
        replace H : (if t284 = 0 then (ontimelaw45_PfairOrder.j0 k true a0_0 a0_1 a0_2 a0_3 a0_4 a0_5 a1_0 a1_1 a1_2 a1_3 a1_4 a1_5 a2_0 a2_1 a2_2 a2_3 a2_4 a2_5) else ((ontimelaw45_candidate.f a2_0 a2_1 a2_2 a2_3 a2_4 a2_5).bind fun t285 => (if t285 = 0 then (ontimelaw45_PfairOrder.j0 k true a0_0 a0_1 a0_2 a0_3 a0_4 a0_5 a1_0 a1_1 a1_2 a1_3 a1_4 a1_5 a2_0 a2_1 a2_2 a2_3 a2_4 a2_5) else (if a0_0 = a1_0 then (ontimelaw45_PfairOrder.j0 k true a0_0 a0_1 a0_2 a0_3 a0_4 a0_5 a1_0 a1_1 a1_2 a1_3 a1_4 a1_5 a2_0 a2_1 a2_2 a2_3 a2_4 a2_5) else (if a1_0 = a2_0 then (ontimelaw45_PfairOrder.j0 k true a0_0 a0_1 a0_2 a0_3 a0_4 a0_5 a1_0 a1_1 a1_2 a1_3 a1_4 a1_5 a2_0 a2_1 a2_2 a2_3 a2_4 a2_5) else (ontimelaw45_PfairOrder.j0 k (a0_0 == a2_0) a0_0 a0_1 a0_2 a0_3 a0_4 a0_5 a1_0 a1_1 a1_2 a1_3 a1_4 a1_5 a2_0 a2_1 a2_2 a2_3 a2_4 a2_5)))))) = some r := H
        have A17 := Aside0.mk A170
        clear A170
        by_cases c18 : t284 = 0
        · rw [if_pos c18] at H
          have c18b0 : (t284 == 0) = true := beq_iff_eq.mpr c18
          have c18b1 : (t284 != 0) = false := bne_eq_false_iff_eq.mpr c18
          clear c18
          have H' := Aside0.mk H
          clear H
          have hnb19 := NB279_280.out
          have hnc19 := NB280_279.out
          have hnb20 := NB279_281.out
          have hnc20 := NB281_279.out
          have hcz21_0 : w10.cell? ⟨gb279, 0, none⟩ = some (.int .i64 a0_0) := (blk_cell BK279.out 0).trans rfl
          have hcz21_1 : w10.cell? ⟨gb279, 1, none⟩ = some (.string a0_1) := (blk_cell BK279.out 1).trans rfl
          have hcz21_2 : w10.cell? ⟨gb279, 2, none⟩ = some (.int .i64 a0_2) := (blk_cell BK279.out 2).trans rfl
          have hcz21_3 : w10.cell? ⟨gb279, 3, none⟩ = some (.int .i64 a0_3) := (blk_cell BK279.out 3).trans rfl
          have hcz21_4 : w10.cell? ⟨gb279, 4, none⟩ = some (.int .i64 a0_4) := (blk_cell BK279.out 4).trans rfl
          have hcz21_5 : w10.cell? ⟨gb279, 5, none⟩ = some (.int .i64 a0_5) := (blk_cell BK279.out 5).trans rfl
          have hfz21_0 := blk_frozen BK279.out 0
          have hfz21_1 := blk_frozen BK279.out 1
          have hfz21_2 := blk_frozen BK279.out 2
          have hfz21_3 := blk_frozen BK279.out 3
          have hfz21_4 := blk_frozen BK279.out 4
          have hfz21_5 := blk_frozen BK279.out 5
          go_wp2_with (first | ((with_reducible refine gate_callee (f := 23) rfl ?_); refine goesL_ (some 10) rfl rfl Try.func23 (by kernel_rfl) rfl #[.agg #[.int .i64 a0_0, .string a0_1, .int .i64 a0_2, .int .i64 a0_3, .int .i64 a0_4, .int .i64 a0_5]] rfl (by (try simp only [List.map_toArray, List.map_cons, List.map_nil]); first | done | rfl | (simp only [List.length_drop, List.length_take]; rfl)) ?_; (with_reducible refine (ontimelaw45_candidate.calls a0_0 a0_1 a0_2 a0_3 a0_4 a0_5 t283 _ A11.out).mono ?_); rintro e w22 ⟨rfl, hb⟩; refine ⟨_, rfl, ?_⟩; have n0_ := Aside0.mk (blk_below (g := gb279) (o := .cells #[.int .i64 a0_0, .string a0_1, .int .i64 a0_2, .int .i64 a0_3, .int .i64 a0_4, .int .i64 a0_5] 42 (0, 0)) (by (with_reducible repeat (first | refine blk_drewN ?_ _ | refine blk_drew ?_ | refine blk_alloc ?_ _)); exact BK279.out) hb); have n1_ := Aside0.mk (blk_below (g := gb280) (o := .cells #[.int .i64 a1_0, .string a1_1, .int .i64 a1_2, .int .i64 a1_3, .int .i64 a1_4, .int .i64 a1_5] 42 (0, 0)) (by (with_reducible repeat (first | refine blk_drewN ?_ _ | refine blk_drew ?_ | refine blk_alloc ?_ _)); exact BK280.out) hb); have n2_ := Aside0.mk (blk_below (g := gb281) (o := .cells #[.int .i64 a2_0, .string a2_1, .int .i64 a2_2, .int .i64 a2_3, .int .i64 a2_4, .int .i64 a2_5] 42 (0, 0)) (by (with_reducible repeat (first | refine blk_drewN ?_ _ | refine blk_drew ?_ | refine blk_alloc ?_ _)); exact BK281.out) hb); have n3_ := Aside0.mk (below_step (by repeat (first | (with_reducible first | exact HB.out | apply below_alloc | apply pw_below_drewN | apply below_drew1 | refine below_set ?_ GE279.out | refine below_set ?_ GE280.out | refine below_set ?_ GE281.out) | exact HB.out)) hb); clear BK279; clear BK280; clear BK281; clear HB; have BK279 := n0_; have BK280 := n1_; have BK281 := n2_; have HB := n3_; clear n0_ n1_ n2_ n3_; (try clear hb); (try clear hb2); (try clear hk); (try clear hi); have hnb23 := NB280_281.out; have hnc23 := NB281_280.out; have hcz24_0 : w22.cell? ⟨gb280, 0, none⟩ = some (.int .i64 a1_0) := (blk_cell BK280.out 0).trans rfl; have hcz24_1 : w22.cell? ⟨gb280, 1, none⟩ = some (.string a1_1) := (blk_cell BK280.out 1).trans rfl; have hcz24_2 : w22.cell? ⟨gb280, 2, none⟩ = some (.int .i64 a1_2) := (blk_cell BK280.out 2).trans rfl; have hcz24_3 : w22.cell? ⟨gb280, 3, none⟩ = some (.int .i64 a1_3) := (blk_cell BK280.out 3).trans rfl; have hcz24_4 : w22.cell? ⟨gb280, 4, none⟩ = some (.int .i64 a1_4) := (blk_cell BK280.out 4).trans rfl; have hcz24_5 : w22.cell? ⟨gb280, 5, none⟩ = some (.int .i64 a1_5) := (blk_cell BK280.out 5).trans rfl; have hfz24_0 := blk_frozen BK280.out 0; have hfz24_1 := blk_frozen BK280.out 1; have hfz24_2 := blk_frozen BK280.out 2; have hfz24_3 := blk_frozen BK280.out 3; have hfz24_4 := blk_frozen BK280.out 4; have hfz24_5 := blk_frozen BK280.out 5) | (go_at_call 23; (with_reducible refine (ontimelaw45_candidate.calls a1_0 a1_1 a1_2 a1_3 a1_4 a1_5 t284 _ A17.out).mono ?_); rintro e w25 ⟨rfl, hb⟩; have n0_ := Aside0.mk (blk_below (g := gb279) (o := .cells #[.int .i64 a0_0, .string a0_1, .int .i64 a0_2, .int .i64 a0_3, .int .i64 a0_4, .int .i64 a0_5] 42 (0, 0)) (by (with_reducible repeat (first | refine blk_drewN ?_ _ | refine blk_drew ?_ | refine blk_alloc ?_ _)); exact BK279.out) hb); have n1_ := Aside0.mk (blk_below (g := gb280) (o := .cells #[.int .i64 a1_0, .string a1_1, .int .i64 a1_2, .int .i64 a1_3, .int .i64 a1_4, .int .i64 a1_5] 42 (0, 0)) (by (with_reducible repeat (first | refine blk_drewN ?_ _ | refine blk_drew ?_ | refine blk_alloc ?_ _)); exact BK280.out) hb); have n2_ := Aside0.mk (blk_below (g := gb281) (o := .cells #[.int .i64 a2_0, .string a2_1, .int .i64 a2_2, .int .i64 a2_3, .int .i64 a2_4, .int .i64 a2_5] 42 (0, 0)) (by (with_reducible repeat (first | refine blk_drewN ?_ _ | refine blk_drew ?_ | refine blk_alloc ?_ _)); exact BK281.out) hb); have n3_ := Aside0.mk (below_step (by repeat (first | (with_reducible first | exact HB.out | apply below_alloc | apply pw_below_drewN | apply below_drew1 | refine below_set ?_ GE279.out | refine below_set ?_ GE280.out | refine below_set ?_ GE281.out) | exact HB.out)) hb); clear BK279; clear BK280; clear BK281; clear HB; have BK279 := n0_; have BK280 := n1_; have BK281 := n2_; have HB := n3_; clear n0_ n1_ n2_ n3_; (try clear hb); (try clear hb2); (try clear hk); (try clear hi)))
          go_meet
          case rel => exact ⟨_, (true), (by first | rfl | (simp; done) | (simp [*]; done)), H', ⟨by first | omega | exact Nat.le_refl _⟩, ⟨by (with_reducible repeat (first | refine blk_drewN ?_ _ | refine blk_drew ?_ | refine blk_alloc ?_ _)); exact BK279.out⟩, ⟨by (with_reducible repeat (first | refine blk_drewN ?_ _ | refine blk_drew ?_ | refine blk_alloc ?_ _)); exact BK280.out⟩, ⟨by (with_reducible repeat (first | refine blk_drewN ?_ _ | refine blk_drew ?_ | refine blk_alloc ?_ _)); exact BK281.out⟩, ⟨by repeat (first | (with_reducible first | exact HB.out | apply below_alloc | apply pw_below_drewN | apply below_drew1 | refine below_set ?_ GE279.out | refine below_set ?_ GE280.out | refine below_set ?_ GE281.out) | exact HB.out)⟩⟩
        · rw [if_neg c18] at H
          have c18b0 : (t284 == 0) = false := beq_eq_false_iff_ne.mpr c18
          have c18b1 : (t284 != 0) = true := bne_iff_ne.mpr c18
          replace H := Option.bind_eq_some_iff.mp H
          obtain ⟨t285, A260, H⟩ := H
          replace H : (if t285 = 0 then (ontimelaw45_PfairOrder.j0 k true a0_0 a0_1 a0_2 a0_3 a0_4 a0_5 a1_0 a1_1 a1_2 a1_3 a1_4 a1_5 a2_0 a2_1 a2_2 a2_3 a2_4 a2_5) else (if a0_0 = a1_0 then (ontimelaw45_PfairOrder.j0 k true a0_0 a0_1 a0_2 a0_3 a0_4 a0_5 a1_0 a1_1 a1_2 a1_3 a1_4 a1_5 a2_0 a2_1 a2_2 a2_3 a2_4 a2_5) else (if a1_0 = a2_0 then (ontimelaw45_PfairOrder.j0 k true a0_0 a0_1 a0_2 a0_3 a0_4 a0_5 a1_0 a1_1 a1_2 a1_3 a1_4 a1_5 a2_0 a2_1 a2_2 a2_3 a2_4 a2_5) else (ontimelaw45_PfairOrder.j0 k (a0_0 == a2_0) a0_0 a0_1 a0_2 a0_3 a0_4 a0_5 a1_0 a1_1 a1_2 a1_3 a1_4 a1_5 a2_0 a2_1 a2_2 a2_3 a2_4 a2_5)))) = some r := H
          have A26 := Aside0.mk A260
          clear A260
          by_cases c27 : t285 = 0
          · rw [if_pos c27] at H
            have c27b0 : (t285 == 0) = true := beq_iff_eq.mpr c27
            have c27b1 : (t285 != 0) = false := bne_eq_false_iff_eq.mpr c27
            clear c27
            have H' := Aside0.mk H
            clear H
            have hnb28 := NB279_280.out
            have hnc28 := NB280_279.out
            have hnb29 := NB279_281.out
            have hnc29 := NB281_279.out
            have hcz30_0 : w10.cell? ⟨gb279, 0, none⟩ = some (.int .i64 a0_0) := (blk_cell BK279.out 0).trans rfl
            have hcz30_1 : w10.cell? ⟨gb279, 1, none⟩ = some (.string a0_1) := (blk_cell BK279.out 1).trans rfl
            have hcz30_2 : w10.cell? ⟨gb279, 2, none⟩ = some (.int .i64 a0_2) := (blk_cell BK279.out 2).trans rfl
            have hcz30_3 : w10.cell? ⟨gb279, 3, none⟩ = some (.int .i64 a0_3) := (blk_cell BK279.out 3).trans rfl
            have hcz30_4 : w10.cell? ⟨gb279, 4, none⟩ = some (.int .i64 a0_4) := (blk_cell BK279.out 4).trans rfl
            have hcz30_5 : w10.cell? ⟨gb279, 5, none⟩ = some (.int .i64 a0_5) := (blk_cell BK279.out 5).trans rfl
            have hfz30_0 := blk_frozen BK279.out 0
            have hfz30_1 := blk_frozen BK279.out 1
            have hfz30_2 := blk_frozen BK279.out 2
            have hfz30_3 := blk_frozen BK279.out 3
            have hfz30_4 := blk_frozen BK279.out 4
            have hfz30_5 := blk_frozen BK279.out 5
            go_wp2_with (first | ((with_reducible refine gate_callee (f := 23) rfl ?_); refine goesL_ (some 10) rfl rfl Try.func23 (by kernel_rfl) rfl #[.agg #[.int .i64 a0_0, .string a0_1, .int .i64 a0_2, .int .i64 a0_3, .int .i64 a0_4, .int .i64 a0_5]] rfl (by (try simp only [List.map_toArray, List.map_cons, List.map_nil]); first | done | rfl | (simp only [List.length_drop, List.length_take]; rfl)) ?_; (with_reducible refine (ontimelaw45_candidate.calls a0_0 a0_1 a0_2 a0_3 a0_4 a0_5 t283 _ A11.out).mono ?_); rintro e w31 ⟨rfl, hb⟩; refine ⟨_, rfl, ?_⟩; have n0_ := Aside0.mk (blk_below (g := gb279) (o := .cells #[.int .i64 a0_0, .string a0_1, .int .i64 a0_2, .int .i64 a0_3, .int .i64 a0_4, .int .i64 a0_5] 42 (0, 0)) (by (with_reducible repeat (first | refine blk_drewN ?_ _ | refine blk_drew ?_ | refine blk_alloc ?_ _)); exact BK279.out) hb); have n1_ := Aside0.mk (blk_below (g := gb280) (o := .cells #[.int .i64 a1_0, .string a1_1, .int .i64 a1_2, .int .i64 a1_3, .int .i64 a1_4, .int .i64 a1_5] 42 (0, 0)) (by (with_reducible repeat (first | refine blk_drewN ?_ _ | refine blk_drew ?_ | refine blk_alloc ?_ _)); exact BK280.out) hb); have n2_ := Aside0.mk (blk_below (g := gb281) (o := .cells #[.int .i64 a2_0, .string a2_1, .int .i64 a2_2, .int .i64 a2_3, .int .i64 a2_4, .int .i64 a2_5] 42 (0, 0)) (by (with_reducible repeat (first | refine blk_drewN ?_ _ | refine blk_drew ?_ | refine blk_alloc ?_ _)); exact BK281.out) hb); have n3_ := Aside0.mk (below_step (by repeat (first | (with_reducible first | exact HB.out | apply below_alloc | apply pw_below_drewN | apply below_drew1 | refine below_set ?_ GE279.out | refine below_set ?_ GE280.out | refine below_set ?_ GE281.out) | exact HB.out)) hb); clear BK279; clear BK280; clear BK281; clear HB; have BK279 := n0_; have BK280 := n1_; have BK281 := n2_; have HB := n3_; clear n0_ n1_ n2_ n3_; (try clear hb); (try clear hb2); (try clear hk); (try clear hi); have hnb32 := NB280_281.out; have hnc32 := NB281_280.out; have hcz33_0 : w31.cell? ⟨gb280, 0, none⟩ = some (.int .i64 a1_0) := (blk_cell BK280.out 0).trans rfl; have hcz33_1 : w31.cell? ⟨gb280, 1, none⟩ = some (.string a1_1) := (blk_cell BK280.out 1).trans rfl; have hcz33_2 : w31.cell? ⟨gb280, 2, none⟩ = some (.int .i64 a1_2) := (blk_cell BK280.out 2).trans rfl; have hcz33_3 : w31.cell? ⟨gb280, 3, none⟩ = some (.int .i64 a1_3) := (blk_cell BK280.out 3).trans rfl; have hcz33_4 : w31.cell? ⟨gb280, 4, none⟩ = some (.int .i64 a1_4) := (blk_cell BK280.out 4).trans rfl; have hcz33_5 : w31.cell? ⟨gb280, 5, none⟩ = some (.int .i64 a1_5) := (blk_cell BK280.out 5).trans rfl; have hfz33_0 := blk_frozen BK280.out 0; have hfz33_1 := blk_frozen BK280.out 1; have hfz33_2 := blk_frozen BK280.out 2; have hfz33_3 := blk_frozen BK280.out 3; have hfz33_4 := blk_frozen BK280.out 4; have hfz33_5 := blk_frozen BK280.out 5) | (go_at_call 23; (with_reducible refine (ontimelaw45_candidate.calls a1_0 a1_1 a1_2 a1_3 a1_4 a1_5 t284 _ A17.out).mono ?_); rintro e w34 ⟨rfl, hb⟩; have n0_ := Aside0.mk (blk_below (g := gb279) (o := .cells #[.int .i64 a0_0, .string a0_1, .int .i64 a0_2, .int .i64 a0_3, .int .i64 a0_4, .int .i64 a0_5] 42 (0, 0)) (by (with_reducible repeat (first | refine blk_drewN ?_ _ | refine blk_drew ?_ | refine blk_alloc ?_ _)); exact BK279.out) hb); have n1_ := Aside0.mk (blk_below (g := gb280) (o := .cells #[.int .i64 a1_0, .string a1_1, .int .i64 a1_2, .int .i64 a1_3, .int .i64 a1_4, .int .i64 a1_5] 42 (0, 0)) (by (with_reducible repeat (first | refine blk_drewN ?_ _ | refine blk_drew ?_ | refine blk_alloc ?_ _)); exact BK280.out) hb); have n2_ := Aside0.mk (blk_below (g := gb281) (o := .cells #[.int .i64 a2_0, .string a2_1, .int .i64 a2_2, .int .i64 a2_3, .int .i64 a2_4, .int .i64 a2_5] 42 (0, 0)) (by (with_reducible repeat (first | refine blk_drewN ?_ _ | refine blk_drew ?_ | refine blk_alloc ?_ _)); exact BK281.out) hb); have n3_ := Aside0.mk (below_step (by repeat (first | (with_reducible first | exact HB.out | apply below_alloc | apply pw_below_drewN | apply below_drew1 | refine below_set ?_ GE279.out | refine below_set ?_ GE280.out | refine below_set ?_ GE281.out) | exact HB.out)) hb); clear BK279; clear BK280; clear BK281; clear HB; have BK279 := n0_; have BK280 := n1_; have BK281 := n2_; have HB := n3_; clear n0_ n1_ n2_ n3_; (try clear hb); (try clear hb2); (try clear hk); (try clear hi); have hcz35_0 : w34.cell? ⟨gb281, 0, none⟩ = some (.int .i64 a2_0) := (blk_cell BK281.out 0).trans rfl; have hcz35_1 : w34.cell? ⟨gb281, 1, none⟩ = some (.string a2_1) := (blk_cell BK281.out 1).trans rfl; have hcz35_2 : w34.cell? ⟨gb281, 2, none⟩ = some (.int .i64 a2_2) := (blk_cell BK281.out 2).trans rfl; have hcz35_3 : w34.cell? ⟨gb281, 3, none⟩ = some (.int .i64 a2_3) := (blk_cell BK281.out 3).trans rfl; have hcz35_4 : w34.cell? ⟨gb281, 4, none⟩ = some (.int .i64 a2_4) := (blk_cell BK281.out 4).trans rfl; have hcz35_5 : w34.cell? ⟨gb281, 5, none⟩ = some (.int .i64 a2_5) := (blk_cell BK281.out 5).trans rfl; have hfz35_0 := blk_frozen BK281.out 0; have hfz35_1 := blk_frozen BK281.out 1; have hfz35_2 := blk_frozen BK281.out 2; have hfz35_3 := blk_frozen BK281.out 3; have hfz35_4 := blk_frozen BK281.out 4; have hfz35_5 := blk_frozen BK281.out 5) | (go_at_call 23; (with_reducible refine (ontimelaw45_candidate.calls a2_0 a2_1 a2_2 a2_3 a2_4 a2_5 t285 _ A26.out).mono ?_); rintro e w36 ⟨rfl, hb⟩; have n0_ := Aside0.mk (blk_below (g := gb279) (o := .cells #[.int .i64 a0_0, .string a0_1, .int .i64 a0_2, .int .i64 a0_3, .int .i64 a0_4, .int .i64 a0_5] 42 (0, 0)) (by (with_reducible repeat (first | refine blk_drewN ?_ _ | refine blk_drew ?_ | refine blk_alloc ?_ _)); exact BK279.out) hb); have n1_ := Aside0.mk (blk_below (g := gb280) (o := .cells #[.int .i64 a1_0, .string a1_1, .int .i64 a1_2, .int .i64 a1_3, .int .i64 a1_4, .int .i64 a1_5] 42 (0, 0)) (by (with_reducible repeat (first | refine blk_drewN ?_ _ | refine blk_drew ?_ | refine blk_alloc ?_ _)); exact BK280.out) hb); have n2_ := Aside0.mk (blk_below (g := gb281) (o := .cells #[.int .i64 a2_0, .string a2_1, .int .i64 a2_2, .int .i64 a2_3, .int .i64 a2_4, .int .i64 a2_5] 42 (0, 0)) (by (with_reducible repeat (first | refine blk_drewN ?_ _ | refine blk_drew ?_ | refine blk_alloc ?_ _)); exact BK281.out) hb); have n3_ := Aside0.mk (below_step (by repeat (first | (with_reducible first | exact HB.out | apply below_alloc | apply pw_below_drewN | apply below_drew1 | refine below_set ?_ GE279.out | refine below_set ?_ GE280.out | refine below_set ?_ GE281.out) | exact HB.out)) hb); clear BK279; clear BK280; clear BK281; clear HB; have BK279 := n0_; have BK280 := n1_; have BK281 := n2_; have HB := n3_; clear n0_ n1_ n2_ n3_; (try clear hb); (try clear hb2); (try clear hk); (try clear hi)))
            go_meet
            case rel => exact ⟨_, (true), (by first | rfl | (simp; done) | (simp [*]; done)), H', ⟨by first | omega | exact Nat.le_refl _⟩, ⟨by (with_reducible repeat (first | refine blk_drewN ?_ _ | refine blk_drew ?_ | refine blk_alloc ?_ _)); exact BK279.out⟩, ⟨by (with_reducible repeat (first | refine blk_drewN ?_ _ | refine blk_drew ?_ | refine blk_alloc ?_ _)); exact BK280.out⟩, ⟨by (with_reducible repeat (first | refine blk_drewN ?_ _ | refine blk_drew ?_ | refine blk_alloc ?_ _)); exact BK281.out⟩, ⟨by repeat (first | (with_reducible first | exact HB.out | apply below_alloc | apply pw_below_drewN | apply below_drew1 | refine below_set ?_ GE279.out | refine below_set ?_ GE280.out | refine below_set ?_ GE281.out) | exact HB.out)⟩⟩
          · rw [if_neg c27] at H
            have c27b0 : (t285 == 0) = false := beq_eq_false_iff_ne.mpr c27
            have c27b1 : (t285 != 0) = true := bne_iff_ne.mpr c27
            by_cases c37 : a0_0 = a1_0
            · rw [if_pos c37] at H
              have c37b0 : (a0_0 == a1_0) = true := beq_iff_eq.mpr c37
              have c37b1 : (a0_0 != a1_0) = false := bne_eq_false_iff_eq.mpr c37
              clear c37
              have H' := Aside0.mk H
              clear H
              have hnb38 := NB279_280.out
              have hnc38 := NB280_279.out
              have hnb39 := NB279_281.out
              have hnc39 := NB281_279.out
              have hcz40_0 : w10.cell? ⟨gb279, 0, none⟩ = some (.int .i64 a0_0) := (blk_cell BK279.out 0).trans rfl
              have hcz40_1 : w10.cell? ⟨gb279, 1, none⟩ = some (.string a0_1) := (blk_cell BK279.out 1).trans rfl
              have hcz40_2 : w10.cell? ⟨gb279, 2, none⟩ = some (.int .i64 a0_2) := (blk_cell BK279.out 2).trans rfl
              have hcz40_3 : w10.cell? ⟨gb279, 3, none⟩ = some (.int .i64 a0_3) := (blk_cell BK279.out 3).trans rfl
              have hcz40_4 : w10.cell? ⟨gb279, 4, none⟩ = some (.int .i64 a0_4) := (blk_cell BK279.out 4).trans rfl
              have hcz40_5 : w10.cell? ⟨gb279, 5, none⟩ = some (.int .i64 a0_5) := (blk_cell BK279.out 5).trans rfl
              have hfz40_0 := blk_frozen BK279.out 0
              have hfz40_1 := blk_frozen BK279.out 1
              have hfz40_2 := blk_frozen BK279.out 2
              have hfz40_3 := blk_frozen BK279.out 3
              have hfz40_4 := blk_frozen BK279.out 4
              have hfz40_5 := blk_frozen BK279.out 5
              go_wp2_with (first | ((with_reducible refine gate_callee (f := 23) rfl ?_); refine goesL_ (some 10) rfl rfl Try.func23 (by kernel_rfl) rfl #[.agg #[.int .i64 a0_0, .string a0_1, .int .i64 a0_2, .int .i64 a0_3, .int .i64 a0_4, .int .i64 a0_5]] rfl (by (try simp only [List.map_toArray, List.map_cons, List.map_nil]); first | done | rfl | (simp only [List.length_drop, List.length_take]; rfl)) ?_; (with_reducible refine (ontimelaw45_candidate.calls a0_0 a0_1 a0_2 a0_3 a0_4 a0_5 t283 _ A11.out).mono ?_); rintro e w41 ⟨rfl, hb⟩; refine ⟨_, rfl, ?_⟩; have n0_ := Aside0.mk (blk_below (g := gb279) (o := .cells #[.int .i64 a0_0, .string a0_1, .int .i64 a0_2, .int .i64 a0_3, .int .i64 a0_4, .int .i64 a0_5] 42 (0, 0)) (by (with_reducible repeat (first | refine blk_drewN ?_ _ | refine blk_drew ?_ | refine blk_alloc ?_ _)); exact BK279.out) hb); have n1_ := Aside0.mk (blk_below (g := gb280) (o := .cells #[.int .i64 a1_0, .string a1_1, .int .i64 a1_2, .int .i64 a1_3, .int .i64 a1_4, .int .i64 a1_5] 42 (0, 0)) (by (with_reducible repeat (first | refine blk_drewN ?_ _ | refine blk_drew ?_ | refine blk_alloc ?_ _)); exact BK280.out) hb); have n2_ := Aside0.mk (blk_below (g := gb281) (o := .cells #[.int .i64 a2_0, .string a2_1, .int .i64 a2_2, .int .i64 a2_3, .int .i64 a2_4, .int .i64 a2_5] 42 (0, 0)) (by (with_reducible repeat (first | refine blk_drewN ?_ _ | refine blk_drew ?_ | refine blk_alloc ?_ _)); exact BK281.out) hb); have n3_ := Aside0.mk (below_step (by repeat (first | (with_reducible first | exact HB.out | apply below_alloc | apply pw_below_drewN | apply below_drew1 | refine below_set ?_ GE279.out | refine below_set ?_ GE280.out | refine below_set ?_ GE281.out) | exact HB.out)) hb); clear BK279; clear BK280; clear BK281; clear HB; have BK279 := n0_; have BK280 := n1_; have BK281 := n2_; have HB := n3_; clear n0_ n1_ n2_ n3_; (try clear hb); (try clear hb2); (try clear hk); (try clear hi); have hnb42 := NB280_281.out; have hnc42 := NB281_280.out; have hcz43_0 : w41.cell? ⟨gb280, 0, none⟩ = some (.int .i64 a1_0) := (blk_cell BK280.out 0).trans rfl; have hcz43_1 : w41.cell? ⟨gb280, 1, none⟩ = some (.string a1_1) := (blk_cell BK280.out 1).trans rfl; have hcz43_2 : w41.cell? ⟨gb280, 2, none⟩ = some (.int .i64 a1_2) := (blk_cell BK280.out 2).trans rfl; have hcz43_3 : w41.cell? ⟨gb280, 3, none⟩ = some (.int .i64 a1_3) := (blk_cell BK280.out 3).trans rfl; have hcz43_4 : w41.cell? ⟨gb280, 4, none⟩ = some (.int .i64 a1_4) := (blk_cell BK280.out 4).trans rfl; have hcz43_5 : w41.cell? ⟨gb280, 5, none⟩ = some (.int .i64 a1_5) := (blk_cell BK280.out 5).trans rfl; have hfz43_0 := blk_frozen BK280.out 0; have hfz43_1 := blk_frozen BK280.out 1; have hfz43_2 := blk_frozen BK280.out 2; have hfz43_3 := blk_frozen BK280.out 3; have hfz43_4 := blk_frozen BK280.out 4; have hfz43_5 := blk_frozen BK280.out 5) | (go_at_call 23; (with_reducible refine (ontimelaw45_candidate.calls a1_0 a1_1 a1_2 a1_3 a1_4 a1_5 t284 _ A17.out).mono ?_); rintro e w44 ⟨rfl, hb⟩; have n0_ := Aside0.mk (blk_below (g := gb279) (o := .cells #[.int .i64 a0_0, .string a0_1, .int .i64 a0_2, .int .i64 a0_3, .int .i64 a0_4, .int .i64 a0_5] 42 (0, 0)) (by (with_reducible repeat (first | refine blk_drewN ?_ _ | refine blk_drew ?_ | refine blk_alloc ?_ _)); exact BK279.out) hb); have n1_ := Aside0.mk (blk_below (g := gb280) (o := .cells #[.int .i64 a1_0, .string a1_1, .int .i64 a1_2, .int .i64 a1_3, .int .i64 a1_4, .int .i64 a1_5] 42 (0, 0)) (by (with_reducible repeat (first | refine blk_drewN ?_ _ | refine blk_drew ?_ | refine blk_alloc ?_ _)); exact BK280.out) hb); have n2_ := Aside0.mk (blk_below (g := gb281) (o := .cells #[.int .i64 a2_0, .string a2_1, .int .i64 a2_2, .int .i64 a2_3, .int .i64 a2_4, .int .i64 a2_5] 42 (0, 0)) (by (with_reducible repeat (first | refine blk_drewN ?_ _ | refine blk_drew ?_ | refine blk_alloc ?_ _)); exact BK281.out) hb); have n3_ := Aside0.mk (below_step (by repeat (first | (with_reducible first | exact HB.out | apply below_alloc | apply pw_below_drewN | apply below_drew1 | refine below_set ?_ GE279.out | refine below_set ?_ GE280.out | refine below_set ?_ GE281.out) | exact HB.out)) hb); clear BK279; clear BK280; clear BK281; clear HB; have BK279 := n0_; have BK280 := n1_; have BK281 := n2_; have HB := n3_; clear n0_ n1_ n2_ n3_; (try clear hb); (try clear hb2); (try clear hk); (try clear hi); have hcz45_0 : w44.cell? ⟨gb281, 0, none⟩ = some (.int .i64 a2_0) := (blk_cell BK281.out 0).trans rfl; have hcz45_1 : w44.cell? ⟨gb281, 1, none⟩ = some (.string a2_1) := (blk_cell BK281.out 1).trans rfl; have hcz45_2 : w44.cell? ⟨gb281, 2, none⟩ = some (.int .i64 a2_2) := (blk_cell BK281.out 2).trans rfl; have hcz45_3 : w44.cell? ⟨gb281, 3, none⟩ = some (.int .i64 a2_3) := (blk_cell BK281.out 3).trans rfl; have hcz45_4 : w44.cell? ⟨gb281, 4, none⟩ = some (.int .i64 a2_4) := (blk_cell BK281.out 4).trans rfl; have hcz45_5 : w44.cell? ⟨gb281, 5, none⟩ = some (.int .i64 a2_5) := (blk_cell BK281.out 5).trans rfl; have hfz45_0 := blk_frozen BK281.out 0; have hfz45_1 := blk_frozen BK281.out 1; have hfz45_2 := blk_frozen BK281.out 2; have hfz45_3 := blk_frozen BK281.out 3; have hfz45_4 := blk_frozen BK281.out 4; have hfz45_5 := blk_frozen BK281.out 5) | (go_at_call 23; (with_reducible refine (ontimelaw45_candidate.calls a2_0 a2_1 a2_2 a2_3 a2_4 a2_5 t285 _ A26.out).mono ?_); rintro e w46 ⟨rfl, hb⟩; have n0_ := Aside0.mk (blk_below (g := gb279) (o := .cells #[.int .i64 a0_0, .string a0_1, .int .i64 a0_2, .int .i64 a0_3, .int .i64 a0_4, .int .i64 a0_5] 42 (0, 0)) (by (with_reducible repeat (first | refine blk_drewN ?_ _ | refine blk_drew ?_ | refine blk_alloc ?_ _)); exact BK279.out) hb); have n1_ := Aside0.mk (blk_below (g := gb280) (o := .cells #[.int .i64 a1_0, .string a1_1, .int .i64 a1_2, .int .i64 a1_3, .int .i64 a1_4, .int .i64 a1_5] 42 (0, 0)) (by (with_reducible repeat (first | refine blk_drewN ?_ _ | refine blk_drew ?_ | refine blk_alloc ?_ _)); exact BK280.out) hb); have n2_ := Aside0.mk (blk_below (g := gb281) (o := .cells #[.int .i64 a2_0, .string a2_1, .int .i64 a2_2, .int .i64 a2_3, .int .i64 a2_4, .int .i64 a2_5] 42 (0, 0)) (by (with_reducible repeat (first | refine blk_drewN ?_ _ | refine blk_drew ?_ | refine blk_alloc ?_ _)); exact BK281.out) hb); have n3_ := Aside0.mk (below_step (by repeat (first | (with_reducible first | exact HB.out | apply below_alloc | apply pw_below_drewN | apply below_drew1 | refine below_set ?_ GE279.out | refine below_set ?_ GE280.out | refine below_set ?_ GE281.out) | exact HB.out)) hb); clear BK279; clear BK280; clear BK281; clear HB; have BK279 := n0_; have BK280 := n1_; have BK281 := n2_; have HB := n3_; clear n0_ n1_ n2_ n3_; (try clear hb); (try clear hb2); (try clear hk); (try clear hi); have hcz47_0 : w46.cell? ⟨gb279, 0, none⟩ = some (.int .i64 a0_0) := (blk_cell BK279.out 0).trans rfl; have hcz47_1 : w46.cell? ⟨gb279, 1, none⟩ = some (.string a0_1) := (blk_cell BK279.out 1).trans rfl; have hcz47_2 : w46.cell? ⟨gb279, 2, none⟩ = some (.int .i64 a0_2) := (blk_cell BK279.out 2).trans rfl; have hcz47_3 : w46.cell? ⟨gb279, 3, none⟩ = some (.int .i64 a0_3) := (blk_cell BK279.out 3).trans rfl; have hcz47_4 : w46.cell? ⟨gb279, 4, none⟩ = some (.int .i64 a0_4) := (blk_cell BK279.out 4).trans rfl; have hcz47_5 : w46.cell? ⟨gb279, 5, none⟩ = some (.int .i64 a0_5) := (blk_cell BK279.out 5).trans rfl; have hfz47_0 := blk_frozen BK279.out 0; have hfz47_1 := blk_frozen BK279.out 1; have hfz47_2 := blk_frozen BK279.out 2; have hfz47_3 := blk_frozen BK279.out 3; have hfz47_4 := blk_frozen BK279.out 4; have hfz47_5 := blk_frozen BK279.out 5; have hcz48_0 : w46.cell? ⟨gb280, 0, none⟩ = some (.int .i64 a1_0) := (blk_cell BK280.out 0).trans rfl; have hcz48_1 : w46.cell? ⟨gb280, 1, none⟩ = some (.string a1_1) := (blk_cell BK280.out 1).trans rfl; have hcz48_2 : w46.cell? ⟨gb280, 2, none⟩ = some (.int .i64 a1_2) := (blk_cell BK280.out 2).trans rfl; have hcz48_3 : w46.cell? ⟨gb280, 3, none⟩ = some (.int .i64 a1_3) := (blk_cell BK280.out 3).trans rfl; have hcz48_4 : w46.cell? ⟨gb280, 4, none⟩ = some (.int .i64 a1_4) := (blk_cell BK280.out 4).trans rfl; have hcz48_5 : w46.cell? ⟨gb280, 5, none⟩ = some (.int .i64 a1_5) := (blk_cell BK280.out 5).trans rfl; have hfz48_0 := blk_frozen BK280.out 0; have hfz48_1 := blk_frozen BK280.out 1; have hfz48_2 := blk_frozen BK280.out 2; have hfz48_3 := blk_frozen BK280.out 3; have hfz48_4 := blk_frozen BK280.out 4; have hfz48_5 := blk_frozen BK280.out 5))
              go_meet
              case rel => exact ⟨_, (true), (by first | rfl | (simp; done) | (simp [*]; done)), H', ⟨by first | omega | exact Nat.le_refl _⟩, ⟨by (with_reducible repeat (first | refine blk_drewN ?_ _ | refine blk_drew ?_ | refine blk_alloc ?_ _)); exact BK279.out⟩, ⟨by (with_reducible repeat (first | refine blk_drewN ?_ _ | refine blk_drew ?_ | refine blk_alloc ?_ _)); exact BK280.out⟩, ⟨by (with_reducible repeat (first | refine blk_drewN ?_ _ | refine blk_drew ?_ | refine blk_alloc ?_ _)); exact BK281.out⟩, ⟨by repeat (first | (with_reducible first | exact HB.out | apply below_alloc | apply pw_below_drewN | apply below_drew1 | refine below_set ?_ GE279.out | refine below_set ?_ GE280.out | refine below_set ?_ GE281.out) | exact HB.out)⟩⟩
            · rw [if_neg c37] at H
              have c37b0 : (a0_0 == a1_0) = false := beq_eq_false_iff_ne.mpr c37
              have c37b1 : (a0_0 != a1_0) = true := bne_iff_ne.mpr c37
              by_cases c49 : a1_0 = a2_0
              · rw [if_pos c49] at H
                have c49b0 : (a1_0 == a2_0) = true := beq_iff_eq.mpr c49
                have c49b1 : (a1_0 != a2_0) = false := bne_eq_false_iff_eq.mpr c49
                clear c49
                have H' := Aside0.mk H
                clear H
                have hnb50 := NB279_280.out
                have hnc50 := NB280_279.out
                have hnb51 := NB279_281.out
                have hnc51 := NB281_279.out
                have hcz52_0 : w10.cell? ⟨gb279, 0, none⟩ = some (.int .i64 a0_0) := (blk_cell BK279.out 0).trans rfl
                have hcz52_1 : w10.cell? ⟨gb279, 1, none⟩ = some (.string a0_1) := (blk_cell BK279.out 1).trans rfl
                have hcz52_2 : w10.cell? ⟨gb279, 2, none⟩ = some (.int .i64 a0_2) := (blk_cell BK279.out 2).trans rfl
                have hcz52_3 : w10.cell? ⟨gb279, 3, none⟩ = some (.int .i64 a0_3) := (blk_cell BK279.out 3).trans rfl
                have hcz52_4 : w10.cell? ⟨gb279, 4, none⟩ = some (.int .i64 a0_4) := (blk_cell BK279.out 4).trans rfl
                have hcz52_5 : w10.cell? ⟨gb279, 5, none⟩ = some (.int .i64 a0_5) := (blk_cell BK279.out 5).trans rfl
                have hfz52_0 := blk_frozen BK279.out 0
                have hfz52_1 := blk_frozen BK279.out 1
                have hfz52_2 := blk_frozen BK279.out 2
                have hfz52_3 := blk_frozen BK279.out 3
                have hfz52_4 := blk_frozen BK279.out 4
                have hfz52_5 := blk_frozen BK279.out 5
                go_wp2_with (first | ((with_reducible refine gate_callee (f := 23) rfl ?_); refine goesL_ (some 10) rfl rfl Try.func23 (by kernel_rfl) rfl #[.agg #[.int .i64 a0_0, .string a0_1, .int .i64 a0_2, .int .i64 a0_3, .int .i64 a0_4, .int .i64 a0_5]] rfl (by (try simp only [List.map_toArray, List.map_cons, List.map_nil]); first | done | rfl | (simp only [List.length_drop, List.length_take]; rfl)) ?_; (with_reducible refine (ontimelaw45_candidate.calls a0_0 a0_1 a0_2 a0_3 a0_4 a0_5 t283 _ A11.out).mono ?_); rintro e w53 ⟨rfl, hb⟩; refine ⟨_, rfl, ?_⟩; have n0_ := Aside0.mk (blk_below (g := gb279) (o := .cells #[.int .i64 a0_0, .string a0_1, .int .i64 a0_2, .int .i64 a0_3, .int .i64 a0_4, .int .i64 a0_5] 42 (0, 0)) (by (with_reducible repeat (first | refine blk_drewN ?_ _ | refine blk_drew ?_ | refine blk_alloc ?_ _)); exact BK279.out) hb); have n1_ := Aside0.mk (blk_below (g := gb280) (o := .cells #[.int .i64 a1_0, .string a1_1, .int .i64 a1_2, .int .i64 a1_3, .int .i64 a1_4, .int .i64 a1_5] 42 (0, 0)) (by (with_reducible repeat (first | refine blk_drewN ?_ _ | refine blk_drew ?_ | refine blk_alloc ?_ _)); exact BK280.out) hb); have n2_ := Aside0.mk (blk_below (g := gb281) (o := .cells #[.int .i64 a2_0, .string a2_1, .int .i64 a2_2, .int .i64 a2_3, .int .i64 a2_4, .int .i64 a2_5] 42 (0, 0)) (by (with_reducible repeat (first | refine blk_drewN ?_ _ | refine blk_drew ?_ | refine blk_alloc ?_ _)); exact BK281.out) hb); have n3_ := Aside0.mk (below_step (by repeat (first | (with_reducible first | exact HB.out | apply below_alloc | apply pw_below_drewN | apply below_drew1 | refine below_set ?_ GE279.out | refine below_set ?_ GE280.out | refine below_set ?_ GE281.out) | exact HB.out)) hb); clear BK279; clear BK280; clear BK281; clear HB; have BK279 := n0_; have BK280 := n1_; have BK281 := n2_; have HB := n3_; clear n0_ n1_ n2_ n3_; (try clear hb); (try clear hb2); (try clear hk); (try clear hi); have hnb54 := NB280_281.out; have hnc54 := NB281_280.out; have hcz55_0 : w53.cell? ⟨gb280, 0, none⟩ = some (.int .i64 a1_0) := (blk_cell BK280.out 0).trans rfl; have hcz55_1 : w53.cell? ⟨gb280, 1, none⟩ = some (.string a1_1) := (blk_cell BK280.out 1).trans rfl; have hcz55_2 : w53.cell? ⟨gb280, 2, none⟩ = some (.int .i64 a1_2) := (blk_cell BK280.out 2).trans rfl; have hcz55_3 : w53.cell? ⟨gb280, 3, none⟩ = some (.int .i64 a1_3) := (blk_cell BK280.out 3).trans rfl; have hcz55_4 : w53.cell? ⟨gb280, 4, none⟩ = some (.int .i64 a1_4) := (blk_cell BK280.out 4).trans rfl; have hcz55_5 : w53.cell? ⟨gb280, 5, none⟩ = some (.int .i64 a1_5) := (blk_cell BK280.out 5).trans rfl; have hfz55_0 := blk_frozen BK280.out 0; have hfz55_1 := blk_frozen BK280.out 1; have hfz55_2 := blk_frozen BK280.out 2; have hfz55_3 := blk_frozen BK280.out 3; have hfz55_4 := blk_frozen BK280.out 4; have hfz55_5 := blk_frozen BK280.out 5) | (go_at_call 23; (with_reducible refine (ontimelaw45_candidate.calls a1_0 a1_1 a1_2 a1_3 a1_4 a1_5 t284 _ A17.out).mono ?_); rintro e w56 ⟨rfl, hb⟩; have n0_ := Aside0.mk (blk_below (g := gb279) (o := .cells #[.int .i64 a0_0, .string a0_1, .int .i64 a0_2, .int .i64 a0_3, .int .i64 a0_4, .int .i64 a0_5] 42 (0, 0)) (by (with_reducible repeat (first | refine blk_drewN ?_ _ | refine blk_drew ?_ | refine blk_alloc ?_ _)); exact BK279.out) hb); have n1_ := Aside0.mk (blk_below (g := gb280) (o := .cells #[.int .i64 a1_0, .string a1_1, .int .i64 a1_2, .int .i64 a1_3, .int .i64 a1_4, .int .i64 a1_5] 42 (0, 0)) (by (with_reducible repeat (first | refine blk_drewN ?_ _ | refine blk_drew ?_ | refine blk_alloc ?_ _)); exact BK280.out) hb); have n2_ := Aside0.mk (blk_below (g := gb281) (o := .cells #[.int .i64 a2_0, .string a2_1, .int .i64 a2_2, .int .i64 a2_3, .int .i64 a2_4, .int .i64 a2_5] 42 (0, 0)) (by (with_reducible repeat (first | refine blk_drewN ?_ _ | refine blk_drew ?_ | refine blk_alloc ?_ _)); exact BK281.out) hb); have n3_ := Aside0.mk (below_step (by repeat (first | (with_reducible first | exact HB.out | apply below_alloc | apply pw_below_drewN | apply below_drew1 | refine below_set ?_ GE279.out | refine below_set ?_ GE280.out | refine below_set ?_ GE281.out) | exact HB.out)) hb); clear BK279; clear BK280; clear BK281; clear HB; have BK279 := n0_; have BK280 := n1_; have BK281 := n2_; have HB := n3_; clear n0_ n1_ n2_ n3_; (try clear hb); (try clear hb2); (try clear hk); (try clear hi); have hcz57_0 : w56.cell? ⟨gb281, 0, none⟩ = some (.int .i64 a2_0) := (blk_cell BK281.out 0).trans rfl; have hcz57_1 : w56.cell? ⟨gb281, 1, none⟩ = some (.string a2_1) := (blk_cell BK281.out 1).trans rfl; have hcz57_2 : w56.cell? ⟨gb281, 2, none⟩ = some (.int .i64 a2_2) := (blk_cell BK281.out 2).trans rfl; have hcz57_3 : w56.cell? ⟨gb281, 3, none⟩ = some (.int .i64 a2_3) := (blk_cell BK281.out 3).trans rfl; have hcz57_4 : w56.cell? ⟨gb281, 4, none⟩ = some (.int .i64 a2_4) := (blk_cell BK281.out 4).trans rfl; have hcz57_5 : w56.cell? ⟨gb281, 5, none⟩ = some (.int .i64 a2_5) := (blk_cell BK281.out 5).trans rfl; have hfz57_0 := blk_frozen BK281.out 0; have hfz57_1 := blk_frozen BK281.out 1; have hfz57_2 := blk_frozen BK281.out 2; have hfz57_3 := blk_frozen BK281.out 3; have hfz57_4 := blk_frozen BK281.out 4; have hfz57_5 := blk_frozen BK281.out 5) | (go_at_call 23; (with_reducible refine (ontimelaw45_candidate.calls a2_0 a2_1 a2_2 a2_3 a2_4 a2_5 t285 _ A26.out).mono ?_); rintro e w58 ⟨rfl, hb⟩; have n0_ := Aside0.mk (blk_below (g := gb279) (o := .cells #[.int .i64 a0_0, .string a0_1, .int .i64 a0_2, .int .i64 a0_3, .int .i64 a0_4, .int .i64 a0_5] 42 (0, 0)) (by (with_reducible repeat (first | refine blk_drewN ?_ _ | refine blk_drew ?_ | refine blk_alloc ?_ _)); exact BK279.out) hb); have n1_ := Aside0.mk (blk_below (g := gb280) (o := .cells #[.int .i64 a1_0, .string a1_1, .int .i64 a1_2, .int .i64 a1_3, .int .i64 a1_4, .int .i64 a1_5] 42 (0, 0)) (by (with_reducible repeat (first | refine blk_drewN ?_ _ | refine blk_drew ?_ | refine blk_alloc ?_ _)); exact BK280.out) hb); have n2_ := Aside0.mk (blk_below (g := gb281) (o := .cells #[.int .i64 a2_0, .string a2_1, .int .i64 a2_2, .int .i64 a2_3, .int .i64 a2_4, .int .i64 a2_5] 42 (0, 0)) (by (with_reducible repeat (first | refine blk_drewN ?_ _ | refine blk_drew ?_ | refine blk_alloc ?_ _)); exact BK281.out) hb); have n3_ := Aside0.mk (below_step (by repeat (first | (with_reducible first | exact HB.out | apply below_alloc | apply pw_below_drewN | apply below_drew1 | refine below_set ?_ GE279.out | refine below_set ?_ GE280.out | refine below_set ?_ GE281.out) | exact HB.out)) hb); clear BK279; clear BK280; clear BK281; clear HB; have BK279 := n0_; have BK280 := n1_; have BK281 := n2_; have HB := n3_; clear n0_ n1_ n2_ n3_; (try clear hb); (try clear hb2); (try clear hk); (try clear hi); have hcz59_0 : w58.cell? ⟨gb279, 0, none⟩ = some (.int .i64 a0_0) := (blk_cell BK279.out 0).trans rfl; have hcz59_1 : w58.cell? ⟨gb279, 1, none⟩ = some (.string a0_1) := (blk_cell BK279.out 1).trans rfl; have hcz59_2 : w58.cell? ⟨gb279, 2, none⟩ = some (.int .i64 a0_2) := (blk_cell BK279.out 2).trans rfl; have hcz59_3 : w58.cell? ⟨gb279, 3, none⟩ = some (.int .i64 a0_3) := (blk_cell BK279.out 3).trans rfl; have hcz59_4 : w58.cell? ⟨gb279, 4, none⟩ = some (.int .i64 a0_4) := (blk_cell BK279.out 4).trans rfl; have hcz59_5 : w58.cell? ⟨gb279, 5, none⟩ = some (.int .i64 a0_5) := (blk_cell BK279.out 5).trans rfl; have hfz59_0 := blk_frozen BK279.out 0; have hfz59_1 := blk_frozen BK279.out 1; have hfz59_2 := blk_frozen BK279.out 2; have hfz59_3 := blk_frozen BK279.out 3; have hfz59_4 := blk_frozen BK279.out 4; have hfz59_5 := blk_frozen BK279.out 5; have hcz60_0 : w58.cell? ⟨gb280, 0, none⟩ = some (.int .i64 a1_0) := (blk_cell BK280.out 0).trans rfl; have hcz60_1 : w58.cell? ⟨gb280, 1, none⟩ = some (.string a1_1) := (blk_cell BK280.out 1).trans rfl; have hcz60_2 : w58.cell? ⟨gb280, 2, none⟩ = some (.int .i64 a1_2) := (blk_cell BK280.out 2).trans rfl; have hcz60_3 : w58.cell? ⟨gb280, 3, none⟩ = some (.int .i64 a1_3) := (blk_cell BK280.out 3).trans rfl; have hcz60_4 : w58.cell? ⟨gb280, 4, none⟩ = some (.int .i64 a1_4) := (blk_cell BK280.out 4).trans rfl; have hcz60_5 : w58.cell? ⟨gb280, 5, none⟩ = some (.int .i64 a1_5) := (blk_cell BK280.out 5).trans rfl; have hfz60_0 := blk_frozen BK280.out 0; have hfz60_1 := blk_frozen BK280.out 1; have hfz60_2 := blk_frozen BK280.out 2; have hfz60_3 := blk_frozen BK280.out 3; have hfz60_4 := blk_frozen BK280.out 4; have hfz60_5 := blk_frozen BK280.out 5; have hcz61_0 : w58.cell? ⟨gb281, 0, none⟩ = some (.int .i64 a2_0) := (blk_cell BK281.out 0).trans rfl; have hcz61_1 : w58.cell? ⟨gb281, 1, none⟩ = some (.string a2_1) := (blk_cell BK281.out 1).trans rfl; have hcz61_2 : w58.cell? ⟨gb281, 2, none⟩ = some (.int .i64 a2_2) := (blk_cell BK281.out 2).trans rfl; have hcz61_3 : w58.cell? ⟨gb281, 3, none⟩ = some (.int .i64 a2_3) := (blk_cell BK281.out 3).trans rfl; have hcz61_4 : w58.cell? ⟨gb281, 4, none⟩ = some (.int .i64 a2_4) := (blk_cell BK281.out 4).trans rfl; have hcz61_5 : w58.cell? ⟨gb281, 5, none⟩ = some (.int .i64 a2_5) := (blk_cell BK281.out 5).trans rfl; have hfz61_0 := blk_frozen BK281.out 0; have hfz61_1 := blk_frozen BK281.out 1; have hfz61_2 := blk_frozen BK281.out 2; have hfz61_3 := blk_frozen BK281.out 3; have hfz61_4 := blk_frozen BK281.out 4; have hfz61_5 := blk_frozen BK281.out 5))
                go_meet
                case rel => exact ⟨_, (true), (by first | rfl | (simp; done) | (simp [*]; done)), H', ⟨by first | omega | exact Nat.le_refl _⟩, ⟨by (with_reducible repeat (first | refine blk_drewN ?_ _ | refine blk_drew ?_ | refine blk_alloc ?_ _)); exact BK279.out⟩, ⟨by (with_reducible repeat (first | refine blk_drewN ?_ _ | refine blk_drew ?_ | refine blk_alloc ?_ _)); exact BK280.out⟩, ⟨by (with_reducible repeat (first | refine blk_drewN ?_ _ | refine blk_drew ?_ | refine blk_alloc ?_ _)); exact BK281.out⟩, ⟨by repeat (first | (with_reducible first | exact HB.out | apply below_alloc | apply pw_below_drewN | apply below_drew1 | refine below_set ?_ GE279.out | refine below_set ?_ GE280.out | refine below_set ?_ GE281.out) | exact HB.out)⟩⟩
              · rw [if_neg c49] at H
                have c49b0 : (a1_0 == a2_0) = false := beq_eq_false_iff_ne.mpr c49
                have c49b1 : (a1_0 != a2_0) = true := bne_iff_ne.mpr c49
                have H' := Aside0.mk H
                clear H
                have hnb62 := NB279_280.out
                have hnc62 := NB280_279.out
                have hnb63 := NB279_281.out
                have hnc63 := NB281_279.out
                have hcz64_0 : w10.cell? ⟨gb279, 0, none⟩ = some (.int .i64 a0_0) := (blk_cell BK279.out 0).trans rfl
                have hcz64_1 : w10.cell? ⟨gb279, 1, none⟩ = some (.string a0_1) := (blk_cell BK279.out 1).trans rfl
                have hcz64_2 : w10.cell? ⟨gb279, 2, none⟩ = some (.int .i64 a0_2) := (blk_cell BK279.out 2).trans rfl
                have hcz64_3 : w10.cell? ⟨gb279, 3, none⟩ = some (.int .i64 a0_3) := (blk_cell BK279.out 3).trans rfl
                have hcz64_4 : w10.cell? ⟨gb279, 4, none⟩ = some (.int .i64 a0_4) := (blk_cell BK279.out 4).trans rfl
                have hcz64_5 : w10.cell? ⟨gb279, 5, none⟩ = some (.int .i64 a0_5) := (blk_cell BK279.out 5).trans rfl
                have hfz64_0 := blk_frozen BK279.out 0
                have hfz64_1 := blk_frozen BK279.out 1
                have hfz64_2 := blk_frozen BK279.out 2
                have hfz64_3 := blk_frozen BK279.out 3
                have hfz64_4 := blk_frozen BK279.out 4
                have hfz64_5 := blk_frozen BK279.out 5
                go_wp2_with (first | ((with_reducible refine gate_callee (f := 23) rfl ?_); refine goesL_ (some 10) rfl rfl Try.func23 (by kernel_rfl) rfl #[.agg #[.int .i64 a0_0, .string a0_1, .int .i64 a0_2, .int .i64 a0_3, .int .i64 a0_4, .int .i64 a0_5]] rfl (by (try simp only [List.map_toArray, List.map_cons, List.map_nil]); first | done | rfl | (simp only [List.length_drop, List.length_take]; rfl)) ?_; (with_reducible refine (ontimelaw45_candidate.calls a0_0 a0_1 a0_2 a0_3 a0_4 a0_5 t283 _ A11.out).mono ?_); rintro e w65 ⟨rfl, hb⟩; refine ⟨_, rfl, ?_⟩; have n0_ := Aside0.mk (blk_below (g := gb279) (o := .cells #[.int .i64 a0_0, .string a0_1, .int .i64 a0_2, .int .i64 a0_3, .int .i64 a0_4, .int .i64 a0_5] 42 (0, 0)) (by (with_reducible repeat (first | refine blk_drewN ?_ _ | refine blk_drew ?_ | refine blk_alloc ?_ _)); exact BK279.out) hb); have n1_ := Aside0.mk (blk_below (g := gb280) (o := .cells #[.int .i64 a1_0, .string a1_1, .int .i64 a1_2, .int .i64 a1_3, .int .i64 a1_4, .int .i64 a1_5] 42 (0, 0)) (by (with_reducible repeat (first | refine blk_drewN ?_ _ | refine blk_drew ?_ | refine blk_alloc ?_ _)); exact BK280.out) hb); have n2_ := Aside0.mk (blk_below (g := gb281) (o := .cells #[.int .i64 a2_0, .string a2_1, .int .i64 a2_2, .int .i64 a2_3, .int .i64 a2_4, .int .i64 a2_5] 42 (0, 0)) (by (with_reducible repeat (first | refine blk_drewN ?_ _ | refine blk_drew ?_ | refine blk_alloc ?_ _)); exact BK281.out) hb); have n3_ := Aside0.mk (below_step (by repeat (first | (with_reducible first | exact HB.out | apply below_alloc | apply pw_below_drewN | apply below_drew1 | refine below_set ?_ GE279.out | refine below_set ?_ GE280.out | refine below_set ?_ GE281.out) | exact HB.out)) hb); clear BK279; clear BK280; clear BK281; clear HB; have BK279 := n0_; have BK280 := n1_; have BK281 := n2_; have HB := n3_; clear n0_ n1_ n2_ n3_; (try clear hb); (try clear hb2); (try clear hk); (try clear hi); have hnb66 := NB280_281.out; have hnc66 := NB281_280.out; have hcz67_0 : w65.cell? ⟨gb280, 0, none⟩ = some (.int .i64 a1_0) := (blk_cell BK280.out 0).trans rfl; have hcz67_1 : w65.cell? ⟨gb280, 1, none⟩ = some (.string a1_1) := (blk_cell BK280.out 1).trans rfl; have hcz67_2 : w65.cell? ⟨gb280, 2, none⟩ = some (.int .i64 a1_2) := (blk_cell BK280.out 2).trans rfl; have hcz67_3 : w65.cell? ⟨gb280, 3, none⟩ = some (.int .i64 a1_3) := (blk_cell BK280.out 3).trans rfl; have hcz67_4 : w65.cell? ⟨gb280, 4, none⟩ = some (.int .i64 a1_4) := (blk_cell BK280.out 4).trans rfl; have hcz67_5 : w65.cell? ⟨gb280, 5, none⟩ = some (.int .i64 a1_5) := (blk_cell BK280.out 5).trans rfl; have hfz67_0 := blk_frozen BK280.out 0; have hfz67_1 := blk_frozen BK280.out 1; have hfz67_2 := blk_frozen BK280.out 2; have hfz67_3 := blk_frozen BK280.out 3; have hfz67_4 := blk_frozen BK280.out 4; have hfz67_5 := blk_frozen BK280.out 5) | (go_at_call 23; (with_reducible refine (ontimelaw45_candidate.calls a1_0 a1_1 a1_2 a1_3 a1_4 a1_5 t284 _ A17.out).mono ?_); rintro e w68 ⟨rfl, hb⟩; have n0_ := Aside0.mk (blk_below (g := gb279) (o := .cells #[.int .i64 a0_0, .string a0_1, .int .i64 a0_2, .int .i64 a0_3, .int .i64 a0_4, .int .i64 a0_5] 42 (0, 0)) (by (with_reducible repeat (first | refine blk_drewN ?_ _ | refine blk_drew ?_ | refine blk_alloc ?_ _)); exact BK279.out) hb); have n1_ := Aside0.mk (blk_below (g := gb280) (o := .cells #[.int .i64 a1_0, .string a1_1, .int .i64 a1_2, .int .i64 a1_3, .int .i64 a1_4, .int .i64 a1_5] 42 (0, 0)) (by (with_reducible repeat (first | refine blk_drewN ?_ _ | refine blk_drew ?_ | refine blk_alloc ?_ _)); exact BK280.out) hb); have n2_ := Aside0.mk (blk_below (g := gb281) (o := .cells #[.int .i64 a2_0, .string a2_1, .int .i64 a2_2, .int .i64 a2_3, .int .i64 a2_4, .int .i64 a2_5] 42 (0, 0)) (by (with_reducible repeat (first | refine blk_drewN ?_ _ | refine blk_drew ?_ | refine blk_alloc ?_ _)); exact BK281.out) hb); have n3_ := Aside0.mk (below_step (by repeat (first | (with_reducible first | exact HB.out | apply below_alloc | apply pw_below_drewN | apply below_drew1 | refine below_set ?_ GE279.out | refine below_set ?_ GE280.out | refine below_set ?_ GE281.out) | exact HB.out)) hb); clear BK279; clear BK280; clear BK281; clear HB; have BK279 := n0_; have BK280 := n1_; have BK281 := n2_; have HB := n3_; clear n0_ n1_ n2_ n3_; (try clear hb); (try clear hb2); (try clear hk); (try clear hi); have hcz69_0 : w68.cell? ⟨gb281, 0, none⟩ = some (.int .i64 a2_0) := (blk_cell BK281.out 0).trans rfl; have hcz69_1 : w68.cell? ⟨gb281, 1, none⟩ = some (.string a2_1) := (blk_cell BK281.out 1).trans rfl; have hcz69_2 : w68.cell? ⟨gb281, 2, none⟩ = some (.int .i64 a2_2) := (blk_cell BK281.out 2).trans rfl; have hcz69_3 : w68.cell? ⟨gb281, 3, none⟩ = some (.int .i64 a2_3) := (blk_cell BK281.out 3).trans rfl; have hcz69_4 : w68.cell? ⟨gb281, 4, none⟩ = some (.int .i64 a2_4) := (blk_cell BK281.out 4).trans rfl; have hcz69_5 : w68.cell? ⟨gb281, 5, none⟩ = some (.int .i64 a2_5) := (blk_cell BK281.out 5).trans rfl; have hfz69_0 := blk_frozen BK281.out 0; have hfz69_1 := blk_frozen BK281.out 1; have hfz69_2 := blk_frozen BK281.out 2; have hfz69_3 := blk_frozen BK281.out 3; have hfz69_4 := blk_frozen BK281.out 4; have hfz69_5 := blk_frozen BK281.out 5) | (go_at_call 23; (with_reducible refine (ontimelaw45_candidate.calls a2_0 a2_1 a2_2 a2_3 a2_4 a2_5 t285 _ A26.out).mono ?_); rintro e w70 ⟨rfl, hb⟩; have n0_ := Aside0.mk (blk_below (g := gb279) (o := .cells #[.int .i64 a0_0, .string a0_1, .int .i64 a0_2, .int .i64 a0_3, .int .i64 a0_4, .int .i64 a0_5] 42 (0, 0)) (by (with_reducible repeat (first | refine blk_drewN ?_ _ | refine blk_drew ?_ | refine blk_alloc ?_ _)); exact BK279.out) hb); have n1_ := Aside0.mk (blk_below (g := gb280) (o := .cells #[.int .i64 a1_0, .string a1_1, .int .i64 a1_2, .int .i64 a1_3, .int .i64 a1_4, .int .i64 a1_5] 42 (0, 0)) (by (with_reducible repeat (first | refine blk_drewN ?_ _ | refine blk_drew ?_ | refine blk_alloc ?_ _)); exact BK280.out) hb); have n2_ := Aside0.mk (blk_below (g := gb281) (o := .cells #[.int .i64 a2_0, .string a2_1, .int .i64 a2_2, .int .i64 a2_3, .int .i64 a2_4, .int .i64 a2_5] 42 (0, 0)) (by (with_reducible repeat (first | refine blk_drewN ?_ _ | refine blk_drew ?_ | refine blk_alloc ?_ _)); exact BK281.out) hb); have n3_ := Aside0.mk (below_step (by repeat (first | (with_reducible first | exact HB.out | apply below_alloc | apply pw_below_drewN | apply below_drew1 | refine below_set ?_ GE279.out | refine below_set ?_ GE280.out | refine below_set ?_ GE281.out) | exact HB.out)) hb); clear BK279; clear BK280; clear BK281; clear HB; have BK279 := n0_; have BK280 := n1_; have BK281 := n2_; have HB := n3_; clear n0_ n1_ n2_ n3_; (try clear hb); (try clear hb2); (try clear hk); (try clear hi); have hcz71_0 : w70.cell? ⟨gb279, 0, none⟩ = some (.int .i64 a0_0) := (blk_cell BK279.out 0).trans rfl; have hcz71_1 : w70.cell? ⟨gb279, 1, none⟩ = some (.string a0_1) := (blk_cell BK279.out 1).trans rfl; have hcz71_2 : w70.cell? ⟨gb279, 2, none⟩ = some (.int .i64 a0_2) := (blk_cell BK279.out 2).trans rfl; have hcz71_3 : w70.cell? ⟨gb279, 3, none⟩ = some (.int .i64 a0_3) := (blk_cell BK279.out 3).trans rfl; have hcz71_4 : w70.cell? ⟨gb279, 4, none⟩ = some (.int .i64 a0_4) := (blk_cell BK279.out 4).trans rfl; have hcz71_5 : w70.cell? ⟨gb279, 5, none⟩ = some (.int .i64 a0_5) := (blk_cell BK279.out 5).trans rfl; have hfz71_0 := blk_frozen BK279.out 0; have hfz71_1 := blk_frozen BK279.out 1; have hfz71_2 := blk_frozen BK279.out 2; have hfz71_3 := blk_frozen BK279.out 3; have hfz71_4 := blk_frozen BK279.out 4; have hfz71_5 := blk_frozen BK279.out 5; have hcz72_0 : w70.cell? ⟨gb280, 0, none⟩ = some (.int .i64 a1_0) := (blk_cell BK280.out 0).trans rfl; have hcz72_1 : w70.cell? ⟨gb280, 1, none⟩ = some (.string a1_1) := (blk_cell BK280.out 1).trans rfl; have hcz72_2 : w70.cell? ⟨gb280, 2, none⟩ = some (.int .i64 a1_2) := (blk_cell BK280.out 2).trans rfl; have hcz72_3 : w70.cell? ⟨gb280, 3, none⟩ = some (.int .i64 a1_3) := (blk_cell BK280.out 3).trans rfl; have hcz72_4 : w70.cell? ⟨gb280, 4, none⟩ = some (.int .i64 a1_4) := (blk_cell BK280.out 4).trans rfl; have hcz72_5 : w70.cell? ⟨gb280, 5, none⟩ = some (.int .i64 a1_5) := (blk_cell BK280.out 5).trans rfl; have hfz72_0 := blk_frozen BK280.out 0; have hfz72_1 := blk_frozen BK280.out 1; have hfz72_2 := blk_frozen BK280.out 2; have hfz72_3 := blk_frozen BK280.out 3; have hfz72_4 := blk_frozen BK280.out 4; have hfz72_5 := blk_frozen BK280.out 5; have hcz73_0 : w70.cell? ⟨gb281, 0, none⟩ = some (.int .i64 a2_0) := (blk_cell BK281.out 0).trans rfl; have hcz73_1 : w70.cell? ⟨gb281, 1, none⟩ = some (.string a2_1) := (blk_cell BK281.out 1).trans rfl; have hcz73_2 : w70.cell? ⟨gb281, 2, none⟩ = some (.int .i64 a2_2) := (blk_cell BK281.out 2).trans rfl; have hcz73_3 : w70.cell? ⟨gb281, 3, none⟩ = some (.int .i64 a2_3) := (blk_cell BK281.out 3).trans rfl; have hcz73_4 : w70.cell? ⟨gb281, 4, none⟩ = some (.int .i64 a2_4) := (blk_cell BK281.out 4).trans rfl; have hcz73_5 : w70.cell? ⟨gb281, 5, none⟩ = some (.int .i64 a2_5) := (blk_cell BK281.out 5).trans rfl; have hfz73_0 := blk_frozen BK281.out 0; have hfz73_1 := blk_frozen BK281.out 1; have hfz73_2 := blk_frozen BK281.out 2; have hfz73_3 := blk_frozen BK281.out 3; have hfz73_4 := blk_frozen BK281.out 4; have hfz73_5 := blk_frozen BK281.out 5))
                go_meet
                case rel => exact ⟨_, ((a0_0 == a2_0)), (by first | rfl | (simp; done) | (simp [*]; done)), H', ⟨by first | omega | exact Nat.le_refl _⟩, ⟨by (with_reducible repeat (first | refine blk_drewN ?_ _ | refine blk_drew ?_ | refine blk_alloc ?_ _)); exact BK279.out⟩, ⟨by (with_reducible repeat (first | refine blk_drewN ?_ _ | refine blk_drew ?_ | refine blk_alloc ?_ _)); exact BK280.out⟩, ⟨by (with_reducible repeat (first | refine blk_drewN ?_ _ | refine blk_drew ?_ | refine blk_alloc ?_ _)); exact BK281.out⟩, ⟨by repeat (first | (with_reducible first | exact HB.out | apply below_alloc | apply pw_below_drewN | apply below_drew1 | refine below_set ?_ GE279.out | refine below_set ?_ GE280.out | refine below_set ?_ GE281.out) | exact HB.out)⟩⟩
    case rest =>
      clear HC6
      try clear c1
      try clear c2
      try clear p2
      try clear c3
      try clear c4
      try clear c5
      try clear c6
      try clear c9
      try clear c11
      try clear c12
      try clear c12b0
      try clear c12b1
      try clear c13
      try clear c14
      try clear c18
      try clear c18b0
      try clear c18b1
      try clear c19
      try clear c20
      try clear c23
      try clear c27
      try clear c27b0
      try clear c27b1
      try clear c28
      try clear c29
      try clear c32
      try clear c37
      try clear c37b0
      try clear c37b1
      try clear c38
      try clear c39
      try clear c42
      try clear c49
      try clear c49b0
      try clear c49b1
      try clear c50
      try clear c51
      try clear c54
      try clear c62
      try clear c63
      try clear c66
      try clear hcz15_0
      try clear hcz15_1
      try clear hcz15_2
      try clear hcz15_3
      try clear hcz15_4
      try clear hcz15_5
      try clear hcz21_0
      try clear hcz21_1
      try clear hcz21_2
      try clear hcz21_3
      try clear hcz21_4
      try clear hcz21_5
      try clear hcz24_0
      try clear hcz24_1
      try clear hcz24_2
      try clear hcz24_3
      try clear hcz24_4
      try clear hcz24_5
      try clear hcz30_0
      try clear hcz30_1
      try clear hcz30_2
      try clear hcz30_3
      try clear hcz30_4
      try clear hcz30_5
      try clear hcz33_0
      try clear hcz33_1
      try clear hcz33_2
      try clear hcz33_3
      try clear hcz33_4
      try clear hcz33_5
      try clear hcz35_0
      try clear hcz35_1
      try clear hcz35_2
      try clear hcz35_3
      try clear hcz35_4
      try clear hcz35_5
      try clear hcz40_0
      try clear hcz40_1
      try clear hcz40_2
      try clear hcz40_3
      try clear hcz40_4
      try clear hcz40_5
      try clear hcz43_0
      try clear hcz43_1
      try clear hcz43_2
      try clear hcz43_3
      try clear hcz43_4
      try clear hcz43_5
      try clear hcz45_0
      try clear hcz45_1
      try clear hcz45_2
      try clear hcz45_3
      try clear hcz45_4
      try clear hcz45_5
      try clear hcz47_0
      try clear hcz47_1
      try clear hcz47_2
      try clear hcz47_3
      try clear hcz47_4
      try clear hcz47_5
      try clear hcz48_0
      try clear hcz48_1
      try clear hcz48_2
      try clear hcz48_3
      try clear hcz48_4
      try clear hcz48_5
      try clear hcz52_0
      try clear hcz52_1
      try clear hcz52_2
      try clear hcz52_3
      try clear hcz52_4
      try clear hcz52_5
      try clear hcz55_0
      try clear hcz55_1
      try clear hcz55_2
      try clear hcz55_3
      try clear hcz55_4
      try clear hcz55_5
      try clear hcz57_0
      try clear hcz57_1
      try clear hcz57_2
      try clear hcz57_3
      try clear hcz57_4
      try clear hcz57_5
      try clear hcz59_0
      try clear hcz59_1
      try clear hcz59_2
      try clear hcz59_3
      try clear hcz59_4
      try clear hcz59_5
      try clear hcz60_0
      try clear hcz60_1
      try clear hcz60_2
      try clear hcz60_3
      try clear hcz60_4
      try clear hcz60_5
      try clear hcz61_0
      try clear hcz61_1
      try clear hcz61_2
      try clear hcz61_3
      try clear hcz61_4
      try clear hcz61_5
      try clear hcz64_0
      try clear hcz64_1
      try clear hcz64_2
      try clear hcz64_3
      try clear hcz64_4
      try clear hcz64_5
      try clear hcz67_0
      try clear hcz67_1
      try clear hcz67_2
      try clear hcz67_3
      try clear hcz67_4
      try clear hcz67_5
      try clear hcz69_0
      try clear hcz69_1
      try clear hcz69_2
      try clear hcz69_3
      try clear hcz69_4
      try clear hcz69_5
      try clear hcz71_0
      try clear hcz71_1
      try clear hcz71_2
      try clear hcz71_3
      try clear hcz71_4
      try clear hcz71_5
      try clear hcz72_0
      try clear hcz72_1
      try clear hcz72_2
      try clear hcz72_3
      try clear hcz72_4
      try clear hcz72_5
      try clear hcz73_0
      try clear hcz73_1
      try clear hcz73_2
      try clear hcz73_3
      try clear hcz73_4
      try clear hcz73_5
      try clear hfz15_0
      try clear hfz15_1
      try clear hfz15_2
      try clear hfz15_3
      try clear hfz15_4
      try clear hfz15_5
      try clear hfz21_0
      try clear hfz21_1
      try clear hfz21_2
      try clear hfz21_3
      try clear hfz21_4
      try clear hfz21_5
      try clear hfz24_0
      try clear hfz24_1
      try clear hfz24_2
      try clear hfz24_3
      try clear hfz24_4
      try clear hfz24_5
      try clear hfz30_0
      try clear hfz30_1
      try clear hfz30_2
      try clear hfz30_3
      try clear hfz30_4
      try clear hfz30_5
      try clear hfz33_0
      try clear hfz33_1
      try clear hfz33_2
      try clear hfz33_3
      try clear hfz33_4
      try clear hfz33_5
      try clear hfz35_0
      try clear hfz35_1
      try clear hfz35_2
      try clear hfz35_3
      try clear hfz35_4
      try clear hfz35_5
      try clear hfz40_0
      try clear hfz40_1
      try clear hfz40_2
      try clear hfz40_3
      try clear hfz40_4
      try clear hfz40_5
      try clear hfz43_0
      try clear hfz43_1
      try clear hfz43_2
      try clear hfz43_3
      try clear hfz43_4
      try clear hfz43_5
      try clear hfz45_0
      try clear hfz45_1
      try clear hfz45_2
      try clear hfz45_3
      try clear hfz45_4
      try clear hfz45_5
      try clear hfz47_0
      try clear hfz47_1
      try clear hfz47_2
      try clear hfz47_3
      try clear hfz47_4
      try clear hfz47_5
      try clear hfz48_0
      try clear hfz48_1
      try clear hfz48_2
      try clear hfz48_3
      try clear hfz48_4
      try clear hfz48_5
      try clear hfz52_0
      try clear hfz52_1
      try clear hfz52_2
      try clear hfz52_3
      try clear hfz52_4
      try clear hfz52_5
      try clear hfz55_0
      try clear hfz55_1
      try clear hfz55_2
      try clear hfz55_3
      try clear hfz55_4
      try clear hfz55_5
      try clear hfz57_0
      try clear hfz57_1
      try clear hfz57_2
      try clear hfz57_3
      try clear hfz57_4
      try clear hfz57_5
      try clear hfz59_0
      try clear hfz59_1
      try clear hfz59_2
      try clear hfz59_3
      try clear hfz59_4
      try clear hfz59_5
      try clear hfz60_0
      try clear hfz60_1
      try clear hfz60_2
      try clear hfz60_3
      try clear hfz60_4
      try clear hfz60_5
      try clear hfz61_0
      try clear hfz61_1
      try clear hfz61_2
      try clear hfz61_3
      try clear hfz61_4
      try clear hfz61_5
      try clear hfz64_0
      try clear hfz64_1
      try clear hfz64_2
      try clear hfz64_3
      try clear hfz64_4
      try clear hfz64_5
      try clear hfz67_0
      try clear hfz67_1
      try clear hfz67_2
      try clear hfz67_3
      try clear hfz67_4
      try clear hfz67_5
      try clear hfz69_0
      try clear hfz69_1
      try clear hfz69_2
      try clear hfz69_3
      try clear hfz69_4
      try clear hfz69_5
      try clear hfz71_0
      try clear hfz71_1
      try clear hfz71_2
      try clear hfz71_3
      try clear hfz71_4
      try clear hfz71_5
      try clear hfz72_0
      try clear hfz72_1
      try clear hfz72_2
      try clear hfz72_3
      try clear hfz72_4
      try clear hfz72_5
      try clear hfz73_0
      try clear hfz73_1
      try clear hfz73_2
      try clear hfz73_3
      try clear hfz73_4
      try clear hfz73_5
      obtain ⟨kq, x42_5, rfl, HA, HJ5, BK279, BK280, BK281, HB⟩ := hcut
      cases kq with
      | zero => exact absurd HA.out (by simp [ontimelaw45_PfairOrder.j0])
      | succ kj5 =>
        have H := HA.out
        clear HA
        simp only [ontimelaw45_PfairOrder.j0] at H
        by_cases c74 : x42_5 = true
        · subst c74
          have H1 : (some true) = some r := by rw [if_pos rfl] at H; exact H
          clear H
          have H := H1
          clear H1
          obtain rfl := Option.some.inj H
          go_wp2
          go_ret
          exact ⟨by first | rfl | (simp [errW_none, errW_some] <;> rfl) | (simp [*, errW_none, errW_some] <;> rfl), by repeat (first | (with_reducible first | exact HB.out | apply below_alloc | apply pw_below_drewN | apply below_drew1 | refine below_set ?_ GE279.out | refine below_set ?_ GE280.out | refine below_set ?_ GE281.out) | exact HB.out)⟩
        · replace c74 := Bool.eq_false_iff.mpr c74
          subst c74
          have H1 : ((pfair_Before.f kj5 a0_0 a0_1 a0_2 a0_3 a0_4 a0_5 a0_0 a0_1 a0_2 a0_3 a0_4 a0_5).bind fun t286 => (if t286 = true then (ontimelaw45_PfairOrder.j1 kj5 true a0_0 a0_1 a0_2 a0_3 a0_4 a0_5 a1_0 a1_1 a1_2 a1_3 a1_4 a1_5 a2_0 a2_1 a2_2 a2_3 a2_4 a2_5) else ((pfair_Before.f kj5 a0_0 a0_1 a0_2 a0_3 a0_4 a0_5 a1_0 a1_1 a1_2 a1_3 a1_4 a1_5).bind fun t287 => ((pfair_Before.f kj5 a1_0 a1_1 a1_2 a1_3 a1_4 a1_5 a0_0 a0_1 a0_2 a0_3 a0_4 a0_5).bind fun t288 => (ontimelaw45_PfairOrder.j1 kj5 (t287 == t288) a0_0 a0_1 a0_2 a0_3 a0_4 a0_5 a1_0 a1_1 a1_2 a1_3 a1_4 a1_5 a2_0 a2_1 a2_2 a2_3 a2_4 a2_5))))) = some r := by rw [if_neg (show ¬ (false = true) by decide)] at H; exact H
          clear H
          have H := H1
          clear H1
          have HC75 := Aside0.mk H
          clear H
          go_upto_region 5 with (fail)
          go_cut [54] (fun v54 wc => ∃ (kq : Nat) (x54_74 : Bool), v54 = .bool x54_74 ∧ Aside0 (ontimelaw45_PfairOrder.j1 kq x54_74 a0_0 a0_1 a0_2 a0_3 a0_4 a0_5 a1_0 a1_1 a1_2 a1_3 a1_4 a1_5 a2_0 a2_1 a2_2 a2_3 a2_4 a2_5 = some r) ∧ Aside0 (kq ≤ kj5) ∧ Aside0 (wc.heap[gb279]? = some (.cells #[.int .i64 a0_0, .string a0_1, .int .i64 a0_2, .int .i64 a0_3, .int .i64 a0_4, .int .i64 a0_5] 42 (0, 0))) ∧ Aside0 (wc.heap[gb280]? = some (.cells #[.int .i64 a1_0, .string a1_1, .int .i64 a1_2, .int .i64 a1_3, .int .i64 a1_4, .int .i64 a1_5] 42 (0, 0))) ∧ Aside0 (wc.heap[gb281]? = some (.cells #[.int .i64 a2_0, .string a2_1, .int .i64 a2_2, .int .i64 a2_3, .int .i64 a2_4, .int .i64 a2_5] 42 (0, 0))) ∧ Aside0 (Below w.heap.size w wc))
          case first =>
            have H := HC75.out
            clear HC75
            replace H := Option.bind_eq_some_iff.mp H
            obtain ⟨t286, A760, H⟩ := H
            replace H : (if t286 = true then (ontimelaw45_PfairOrder.j1 kj5 true a0_0 a0_1 a0_2 a0_3 a0_4 a0_5 a1_0 a1_1 a1_2 a1_3 a1_4 a1_5 a2_0 a2_1 a2_2 a2_3 a2_4 a2_5) else ((pfair_Before.f kj5 a0_0 a0_1 a0_2 a0_3 a0_4 a0_5 a1_0 a1_1 a1_2 a1_3 a1_4 a1_5).bind fun t287 => ((pfair_Before.f kj5 a1_0 a1_1 a1_2 a1_3 a1_4 a1_5 a0_0 a0_1 a0_2 a0_3 a0_4 a0_5).bind fun t288 => (ontimelaw45_PfairOrder.j1 kj5 (t287 == t288) a0_0 a0_1 a0_2 a0_3 a0_4 a0_5 a1_0 a1_1 a1_2 a1_3 a1_4 a1_5 a2_0 a2_1 a2_2 a2_3 a2_4 a2_5)))) = some r := H
            have A76 := Aside0.mk A760
            clear A760
            by_cases c77 : t286 = true
            · subst c77
              have H1 : (ontimelaw45_PfairOrder.j1 kj5 true a0_0 a0_1 a0_2 a0_3 a0_4 a0_5 a1_0 a1_1 a1_2 a1_3 a1_4 a1_5 a2_0 a2_1 a2_2 a2_3 a2_4 a2_5) = some r := by rw [if_pos rfl] at H; exact H
              clear H
              have H := H1
              clear H1
              have H' := Aside0.mk H
              clear H
              try go_wp2
              have n0_ := Aside0.mk (blk_drew BK279.out)
              have n1_ := Aside0.mk (blk_drew BK280.out)
              have n2_ := Aside0.mk (blk_drew BK281.out)
              have n3_ := Aside0.mk (below_drew1 HB.out)
              clear BK279
              clear BK280
              clear BK281
              clear HB
              have BK279 := n0_
              have BK280 := n1_
              have BK281 := n2_
              have HB := n3_
              clear n0_ n1_ n2_ n3_
              refine start_ (n := 12) (S := fun w' => w'.cell? ⟨gb279, 0, none⟩ = some (.int .i64 a0_0) ∧ w'.cell? ⟨gb279, 1, none⟩ = some (.string a0_1) ∧ w'.cell? ⟨gb279, 2, none⟩ = some (.int .i64 a0_2) ∧ w'.cell? ⟨gb279, 3, none⟩ = some (.int .i64 a0_3) ∧ w'.cell? ⟨gb279, 4, none⟩ = some (.int .i64 a0_4) ∧ w'.cell? ⟨gb279, 5, none⟩ = some (.int .i64 a0_5)) (ds := []) #[false, false, false, false, false, false, false, false, false, false, false, false] (by kernel_rfl) rfl rfl ⟨(blk_cell BK279.out 0).trans rfl, (blk_cell BK279.out 1).trans rfl, (blk_cell BK279.out 2).trans rfl, (blk_cell BK279.out 3).trans rfl, (blk_cell BK279.out 4).trans rfl, (blk_cell BK279.out 5).trans rfl⟩ (fun hHeld => ?_); refine with_tabW ontimelaw45_PfairOrder.tab5 ontimelaw45_PfairOrder.bits5 (fun HT_ HW_ => ?_)
              generalize wc.drew = w78 at BK279 BK280 BK281 HB hHeld ⊢
              refine take_ (i := 0) (N := some 43) (v := ?_) (a' := ?_) #[true, false, false, false, false, false, false, false, false, false, false, false] rfl rfl (take_ofW HT_.out HW_.out (by kernel_rfl)) (fun _ _ _ h => h) (Or.inl ⟨by rfl, ?_⟩) hHeld ?_ ?_
              rotate_left
              · rintro w' ⟨s0, s1, s2, s3, s4, s5⟩
                go_simp
                with_reducible rfl
              rotate_left
              · simp only [Act.put, List.setIfInBounds_toArray, List.set_cons_zero, List.set_cons_succ, i64_w, i32_w]
                rfl
              refine take_ (i := 1) (N := some 44) (v := ?_) (a' := ?_) #[true, true, false, false, false, false, false, false, false, false, false, false] rfl rfl (take_ofW HT_.out HW_.out (by kernel_rfl)) (fun _ _ _ h => h) (Or.inl ⟨by rfl, ?_⟩) hHeld ?_ ?_
              rotate_left
              · rintro w' ⟨s0, s1, s2, s3, s4, s5⟩
                go_simp
                with_reducible rfl
              rotate_left
              · simp only [Act.put, List.setIfInBounds_toArray, List.set_cons_zero, List.set_cons_succ, i64_w, i32_w]
                rfl
              refine one_ (i := 2) (N := some 45) #[true, true, true, false, false, false, false, false, false, false, false, false] rfl rfl (one_of HT_.out (by kernel_rfl)) (by decide) (fun K hK => ?_)
              refine goes_ Try.func22 (by kernel_rfl) rfl #[.agg #[.int .i64 a0_0, .string a0_1, .int .i64 a0_2, .int .i64 a0_3, .int .i64 a0_4, .int .i64 a0_5], .agg #[.int .i64 a0_0, .string a0_1, .int .i64 a0_2, .int .i64 a0_3, .int .i64 a0_4, .int .i64 a0_5]] (by rfl) rfl rfl (by (try simp only [List.map_toArray, List.map_cons, List.map_nil]); first | done | rfl | (simp only [List.length_drop, List.length_take]; rfl)) ?_
              with_reducible refine (pfair_Before.calls kj5 a0_0 a0_1 a0_2 a0_3 a0_4 a0_5 a0_0 a0_1 a0_2 a0_3 a0_4 a0_5 true _ A76.out).mono ?_
              rintro e w79 ⟨rfl, hb⟩
              refine ⟨_, rfl, ?_⟩
              have n0_ := Aside0.mk (blk_below (g := gb279) (o := .cells #[.int .i64 a0_0, .string a0_1, .int .i64 a0_2, .int .i64 a0_3, .int .i64 a0_4, .int .i64 a0_5] 42 (0, 0)) (by (with_reducible repeat (first | refine blk_drewN ?_ _ | refine blk_drew ?_ | refine blk_alloc ?_ _)); exact BK279.out) hb)
              have n1_ := Aside0.mk (blk_below (g := gb280) (o := .cells #[.int .i64 a1_0, .string a1_1, .int .i64 a1_2, .int .i64 a1_3, .int .i64 a1_4, .int .i64 a1_5] 42 (0, 0)) (by (with_reducible repeat (first | refine blk_drewN ?_ _ | refine blk_drew ?_ | refine blk_alloc ?_ _)); exact BK280.out) hb)
              have n2_ := Aside0.mk (blk_below (g := gb281) (o := .cells #[.int .i64 a2_0, .string a2_1, .int .i64 a2_2, .int .i64 a2_3, .int .i64 a2_4, .int .i64 a2_5] 42 (0, 0)) (by (with_reducible repeat (first | refine blk_drewN ?_ _ | refine blk_drew ?_ | refine blk_alloc ?_ _)); exact BK281.out) hb)
              have n3_ := Aside0.mk (below_step (by repeat (first | (with_reducible first | exact HB.out | apply below_alloc | apply pw_below_drewN | apply below_drew1 | refine below_set ?_ GE279.out | refine below_set ?_ GE280.out | refine below_set ?_ GE281.out) | exact HB.out)) hb)
              clear BK279
              clear BK280
              clear BK281
              clear HB
              have BK279 := n0_
              have BK280 := n1_
              have BK281 := n2_
              have HB := n3_
              clear n0_ n1_ n2_ n3_
              (try clear hb)
              (try clear hb2)
              (try clear hk)
              (try clear hi)
              refine hK.out _ _ ⟨(blk_cell BK279.out 0).trans rfl, (blk_cell BK279.out 1).trans rfl, (blk_cell BK279.out 2).trans rfl, (blk_cell BK279.out 3).trans rfl, (blk_cell BK279.out 4).trans rfl, (blk_cell BK279.out 5).trans rfl⟩ (fun hHeld => ?_)
              clear hK K
              refine norm_ (a' := ?_) ?_ ?_
              rotate_left
              · show Act.put _ (some 45) _ = _
                simp only [Act.put, List.setIfInBounds_toArray, List.set_cons_zero, List.set_cons_succ, i64_w, i32_w]
                rfl
              refine pure_ (i := 3) (N := some 46) (v := ?_) (a' := ?_) #[true, true, true, true, false, false, false, false, false, false, false, false] rfl rfl (any_of HT_.out (by kernel_rfl)) (fun _ _ _ h => h) (Or.inl ⟨by rfl, ?_⟩) ?_ ?_
              rotate_left
              · intro w'
                go_simp
                with_reducible rfl
              rotate_left
              · simp only [Act.put, List.setIfInBounds_toArray, List.set_cons_zero, List.set_cons_succ, i64_w, i32_w]
                rfl
              refine pure_ (i := 4) (N := some 47) (v := undef) (a' := ?_) #[true, true, true, true, true, false, false, false, false, false, false, false] rfl rfl (any_of HT_.out (by kernel_rfl)) (fun _ _ _ h => h) (Or.inr ⟨by rfl, rfl⟩) ?_ ?_
              rotate_left
              · simp only [Act.put, List.setIfInBounds_toArray, List.set_cons_zero, List.set_cons_succ, i64_w, i32_w]
                rfl
              refine pure_ (i := 5) (N := some 48) (v := undef) (a' := ?_) #[true, true, true, true, true, true, false, false, false, false, false, false] rfl rfl (any_of HT_.out (by kernel_rfl)) (fun _ _ _ h => h) (Or.inr ⟨by rfl, rfl⟩) ?_ ?_
              rotate_left
              · simp only [Act.put, List.setIfInBounds_toArray, List.set_cons_zero, List.set_cons_succ, i64_w, i32_w]
                rfl
              refine pure_ (i := 6) (N := some 49) (v := undef) (a' := ?_) #[true, true, true, true, true, true, true, false, false, false, false, false] rfl rfl (any_of HT_.out (by kernel_rfl)) (fun _ _ _ h => h) (Or.inr ⟨by rfl, rfl⟩) ?_ ?_
              rotate_left
              · simp only [Act.put, List.setIfInBounds_toArray, List.set_cons_zero, List.set_cons_succ, i64_w, i32_w]
                rfl
              refine pure_ (i := 7) (N := some 50) (v := undef) (a' := ?_) #[true, true, true, true, true, true, true, true, false, false, false, false] rfl rfl (any_of HT_.out (by kernel_rfl)) (fun _ _ _ h => h) (Or.inr ⟨by rfl, rfl⟩) ?_ ?_
              rotate_left
              · simp only [Act.put, List.setIfInBounds_toArray, List.set_cons_zero, List.set_cons_succ, i64_w, i32_w]
                rfl
              refine pure_ (i := 8) (N := some 51) (v := undef) (a' := ?_) #[true, true, true, true, true, true, true, true, true, false, false, false] rfl rfl (any_of HT_.out (by kernel_rfl)) (fun _ _ _ h => h) (Or.inr ⟨by rfl, rfl⟩) ?_ ?_
              rotate_left
              · simp only [Act.put, List.setIfInBounds_toArray, List.set_cons_zero, List.set_cons_succ, i64_w, i32_w]
                rfl
              refine pure_ (i := 9) (N := some 52) (v := undef) (a' := ?_) #[true, true, true, true, true, true, true, true, true, true, false, false] rfl rfl (any_of HT_.out (by kernel_rfl)) (fun _ _ _ h => h) (Or.inr ⟨by rfl, rfl⟩) ?_ ?_
              rotate_left
              · simp only [Act.put, List.setIfInBounds_toArray, List.set_cons_zero, List.set_cons_succ, i64_w, i32_w]
                rfl
              refine pure_ (i := 10) (N := some 53) (v := undef) (a' := ?_) #[true, true, true, true, true, true, true, true, true, true, true, false] rfl rfl (any_of HT_.out (by kernel_rfl)) (fun _ _ _ h => h) (Or.inr ⟨by rfl, rfl⟩) ?_ ?_
              rotate_left
              · simp only [Act.put, List.setIfInBounds_toArray, List.set_cons_zero, List.set_cons_succ, i64_w, i32_w]
                rfl
              refine pure_ (i := 11) (N := some 54) (v := ?_) (a' := ?_) #[true, true, true, true, true, true, true, true, true, true, true, true] rfl rfl (any_of HT_.out (by kernel_rfl)) (fun _ _ _ h => h) (Or.inl ⟨by rfl, ?_⟩) ?_ ?_
              rotate_left
              · intro w'
                go_simp
                with_reducible rfl
              rotate_left
              · simp only [Act.put, List.setIfInBounds_toArray, List.set_cons_zero, List.set_cons_succ, i64_w, i32_w]
                rfl
              refine done_ (done_of HT_.out (by kernel_rfl)) ?_
              try go_wp2
              go_meet
              case rel => exact ⟨_, (true), (by first | rfl | (simp; done) | (simp [*]; done)), H', ⟨by have := HJ5.out; first | omega | exact Nat.le_refl _⟩, ⟨by (with_reducible repeat (first | refine blk_drewN ?_ _ | refine blk_drew ?_ | refine blk_alloc ?_ _)); exact BK279.out⟩, ⟨by (with_reducible repeat (first | refine blk_drewN ?_ _ | refine blk_drew ?_ | refine blk_alloc ?_ _)); exact BK280.out⟩, ⟨by (with_reducible repeat (first | refine blk_drewN ?_ _ | refine blk_drew ?_ | refine blk_alloc ?_ _)); exact BK281.out⟩, ⟨by repeat (first | (with_reducible first | exact HB.out | apply below_alloc | apply pw_below_drewN | apply below_drew1 | refine below_set ?_ GE279.out | refine below_set ?_ GE280.out | refine below_set ?_ GE281.out) | exact HB.out)⟩⟩
            · replace c77 := Bool.eq_false_iff.mpr c77
              subst c77
              have H1 : ((pfair_Before.f kj5 a0_0 a0_1 a0_2 a0_3 a0_4 a0_5 a1_0 a1_1 a1_2 a1_3 a1_4 a1_5).bind fun t287 => ((pfair_Before.f kj5 a1_0 a1_1 a1_2 a1_3 a1_4 a1_5 a0_0 a0_1 a0_2 a0_3 a0_4 a0_5).bind fun t288 => (ontimelaw45_PfairOrder.j1 kj5 (t287 == t288) a0_0 a0_1 a0_2 a0_3 a0_4 a0_5 a1_0 a1_1 a1_2 a1_3 a1_4 a1_5 a2_0 a2_1 a2_2 a2_3 a2_4 a2_5))) = some r := by rw [if_neg (show ¬ (false = true) by decide)] at H; exact H
              clear H
              have H := H1
              clear H1
              replace H := Option.bind_eq_some_iff.mp H
              obtain ⟨t287, A800, H⟩ := H
              replace H : ((pfair_Before.f kj5 a1_0 a1_1 a1_2 a1_3 a1_4 a1_5 a0_0 a0_1 a0_2 a0_3 a0_4 a0_5).bind fun t288 => (ontimelaw45_PfairOrder.j1 kj5 (t287 == t288) a0_0 a0_1 a0_2 a0_3 a0_4 a0_5 a1_0 a1_1 a1_2 a1_3 a1_4 a1_5 a2_0 a2_1 a2_2 a2_3 a2_4 a2_5)) = some r := H
              have A80 := Aside0.mk A800
              clear A800
              replace H := Option.bind_eq_some_iff.mp H
              obtain ⟨t288, A810, H⟩ := H
              replace H : (ontimelaw45_PfairOrder.j1 kj5 (t287 == t288) a0_0 a0_1 a0_2 a0_3 a0_4 a0_5 a1_0 a1_1 a1_2 a1_3 a1_4 a1_5 a2_0 a2_1 a2_2 a2_3 a2_4 a2_5) = some r := H
              have A81 := Aside0.mk A810
              clear A810
              have H' := Aside0.mk H
              clear H
              try go_wp2
              have n0_ := Aside0.mk (blk_drew BK279.out)
              have n1_ := Aside0.mk (blk_drew BK280.out)
              have n2_ := Aside0.mk (blk_drew BK281.out)
              have n3_ := Aside0.mk (below_drew1 HB.out)
              clear BK279
              clear BK280
              clear BK281
              clear HB
              have BK279 := n0_
              have BK280 := n1_
              have BK281 := n2_
              have HB := n3_
              clear n0_ n1_ n2_ n3_
              refine start_ (n := 12) (S := fun w' => w'.cell? ⟨gb279, 0, none⟩ = some (.int .i64 a0_0) ∧ w'.cell? ⟨gb279, 1, none⟩ = some (.string a0_1) ∧ w'.cell? ⟨gb279, 2, none⟩ = some (.int .i64 a0_2) ∧ w'.cell? ⟨gb279, 3, none⟩ = some (.int .i64 a0_3) ∧ w'.cell? ⟨gb279, 4, none⟩ = some (.int .i64 a0_4) ∧ w'.cell? ⟨gb279, 5, none⟩ = some (.int .i64 a0_5) ∧ w'.cell? ⟨gb280, 0, none⟩ = some (.int .i64 a1_0) ∧ w'.cell? ⟨gb280, 1, none⟩ = some (.string a1_1) ∧ w'.cell? ⟨gb280, 2, none⟩ = some (.int .i64 a1_2) ∧ w'.cell? ⟨gb280, 3, none⟩ = some (.int .i64 a1_3) ∧ w'.cell? ⟨gb280, 4, none⟩ = some (.int .i64 a1_4) ∧ w'.cell? ⟨gb280, 5, none⟩ = some (.int .i64 a1_5)) (ds := []) #[false, false, false, false, false, false, false, false, false, false, false, false] (by kernel_rfl) rfl rfl ⟨(blk_cell BK279.out 0).trans rfl, (blk_cell BK279.out 1).trans rfl, (blk_cell BK279.out 2).trans rfl, (blk_cell BK279.out 3).trans rfl, (blk_cell BK279.out 4).trans rfl, (blk_cell BK279.out 5).trans rfl, (blk_cell BK280.out 0).trans rfl, (blk_cell BK280.out 1).trans rfl, (blk_cell BK280.out 2).trans rfl, (blk_cell BK280.out 3).trans rfl, (blk_cell BK280.out 4).trans rfl, (blk_cell BK280.out 5).trans rfl⟩ (fun hHeld => ?_); refine with_tabW ontimelaw45_PfairOrder.tab5 ontimelaw45_PfairOrder.bits5 (fun HT_ HW_ => ?_)
              generalize wc.drew = w82 at BK279 BK280 BK281 HB hHeld ⊢
              refine take_ (i := 0) (N := some 43) (v := ?_) (a' := ?_) #[true, false, false, false, false, false, false, false, false, false, false, false] rfl rfl (take_ofW HT_.out HW_.out (by kernel_rfl)) (fun _ _ _ h => h) (Or.inl ⟨by rfl, ?_⟩) hHeld ?_ ?_
              rotate_left
              · rintro w' ⟨s0, s1, s2, s3, s4, s5, s6, s7, s8, s9, s10, s11⟩
                go_simp
                with_reducible rfl
              rotate_left
              · simp only [Act.put, List.setIfInBounds_toArray, List.set_cons_zero, List.set_cons_succ, i64_w, i32_w]
                rfl
              refine take_ (i := 1) (N := some 44) (v := ?_) (a' := ?_) #[true, true, false, false, false, false, false, false, false, false, false, false] rfl rfl (take_ofW HT_.out HW_.out (by kernel_rfl)) (fun _ _ _ h => h) (Or.inl ⟨by rfl, ?_⟩) hHeld ?_ ?_
              rotate_left
              · rintro w' ⟨s0, s1, s2, s3, s4, s5, s6, s7, s8, s9, s10, s11⟩
                go_simp
                with_reducible rfl
              rotate_left
              · simp only [Act.put, List.setIfInBounds_toArray, List.set_cons_zero, List.set_cons_succ, i64_w, i32_w]
                rfl
              refine one_ (i := 2) (N := some 45) #[true, true, true, false, false, false, false, false, false, false, false, false] rfl rfl (one_of HT_.out (by kernel_rfl)) (by decide) (fun K hK => ?_)
              refine goes_ Try.func22 (by kernel_rfl) rfl #[.agg #[.int .i64 a0_0, .string a0_1, .int .i64 a0_2, .int .i64 a0_3, .int .i64 a0_4, .int .i64 a0_5], .agg #[.int .i64 a0_0, .string a0_1, .int .i64 a0_2, .int .i64 a0_3, .int .i64 a0_4, .int .i64 a0_5]] (by rfl) rfl rfl (by (try simp only [List.map_toArray, List.map_cons, List.map_nil]); first | done | rfl | (simp only [List.length_drop, List.length_take]; rfl)) ?_
              with_reducible refine (pfair_Before.calls kj5 a0_0 a0_1 a0_2 a0_3 a0_4 a0_5 a0_0 a0_1 a0_2 a0_3 a0_4 a0_5 false _ A76.out).mono ?_
              rintro e w83 ⟨rfl, hb⟩
              refine ⟨_, rfl, ?_⟩
              have n0_ := Aside0.mk (blk_below (g := gb279) (o := .cells #[.int .i64 a0_0, .string a0_1, .int .i64 a0_2, .int .i64 a0_3, .int .i64 a0_4, .int .i64 a0_5] 42 (0, 0)) (by (with_reducible repeat (first | refine blk_drewN ?_ _ | refine blk_drew ?_ | refine blk_alloc ?_ _)); exact BK279.out) hb)
              have n1_ := Aside0.mk (blk_below (g := gb280) (o := .cells #[.int .i64 a1_0, .string a1_1, .int .i64 a1_2, .int .i64 a1_3, .int .i64 a1_4, .int .i64 a1_5] 42 (0, 0)) (by (with_reducible repeat (first | refine blk_drewN ?_ _ | refine blk_drew ?_ | refine blk_alloc ?_ _)); exact BK280.out) hb)
              have n2_ := Aside0.mk (blk_below (g := gb281) (o := .cells #[.int .i64 a2_0, .string a2_1, .int .i64 a2_2, .int .i64 a2_3, .int .i64 a2_4, .int .i64 a2_5] 42 (0, 0)) (by (with_reducible repeat (first | refine blk_drewN ?_ _ | refine blk_drew ?_ | refine blk_alloc ?_ _)); exact BK281.out) hb)
              have n3_ := Aside0.mk (below_step (by repeat (first | (with_reducible first | exact HB.out | apply below_alloc | apply pw_below_drewN | apply below_drew1 | refine below_set ?_ GE279.out | refine below_set ?_ GE280.out | refine below_set ?_ GE281.out) | exact HB.out)) hb)
              clear BK279
              clear BK280
              clear BK281
              clear HB
              have BK279 := n0_
              have BK280 := n1_
              have BK281 := n2_
              have HB := n3_
              clear n0_ n1_ n2_ n3_
              (try clear hb)
              (try clear hb2)
              (try clear hk)
              (try clear hi)
              refine hK.out _ _ ⟨(blk_cell BK279.out 0).trans rfl, (blk_cell BK279.out 1).trans rfl, (blk_cell BK279.out 2).trans rfl, (blk_cell BK279.out 3).trans rfl, (blk_cell BK279.out 4).trans rfl, (blk_cell BK279.out 5).trans rfl, (blk_cell BK280.out 0).trans rfl, (blk_cell BK280.out 1).trans rfl, (blk_cell BK280.out 2).trans rfl, (blk_cell BK280.out 3).trans rfl, (blk_cell BK280.out 4).trans rfl, (blk_cell BK280.out 5).trans rfl⟩ (fun hHeld => ?_)
              clear hK K
              refine norm_ (a' := ?_) ?_ ?_
              rotate_left
              · show Act.put _ (some 45) _ = _
                simp only [Act.put, List.setIfInBounds_toArray, List.set_cons_zero, List.set_cons_succ, i64_w, i32_w]
                rfl
              refine pure_ (i := 3) (N := some 46) (v := ?_) (a' := ?_) #[true, true, true, true, false, false, false, false, false, false, false, false] rfl rfl (any_of HT_.out (by kernel_rfl)) (fun _ _ _ h => h) (Or.inl ⟨by rfl, ?_⟩) ?_ ?_
              rotate_left
              · intro w'
                go_simp
                with_reducible rfl
              rotate_left
              · simp only [Act.put, List.setIfInBounds_toArray, List.set_cons_zero, List.set_cons_succ, i64_w, i32_w]
                rfl
              refine take_ (i := 4) (N := some 47) (v := ?_) (a' := ?_) #[true, true, true, true, true, false, false, false, false, false, false, false] rfl rfl (take_ofW HT_.out HW_.out (by kernel_rfl)) (fun _ _ _ h => h) (Or.inl ⟨by rfl, ?_⟩) hHeld ?_ ?_
              rotate_left
              · rintro w' ⟨s0, s1, s2, s3, s4, s5, s6, s7, s8, s9, s10, s11⟩
                go_simp
                with_reducible rfl
              rotate_left
              · simp only [Act.put, List.setIfInBounds_toArray, List.set_cons_zero, List.set_cons_succ, i64_w, i32_w]
                rfl
              refine take_ (i := 5) (N := some 48) (v := ?_) (a' := ?_) #[true, true, true, true, true, true, false, false, false, false, false, false] rfl rfl (take_ofW HT_.out HW_.out (by kernel_rfl)) (fun _ _ _ h => h) (Or.inl ⟨by rfl, ?_⟩) hHeld ?_ ?_
              rotate_left
              · rintro w' ⟨s0, s1, s2, s3, s4, s5, s6, s7, s8, s9, s10, s11⟩
                go_simp
                with_reducible rfl
              rotate_left
              · simp only [Act.put, List.setIfInBounds_toArray, List.set_cons_zero, List.set_cons_succ, i64_w, i32_w]
                rfl
              refine take_ (i := 7) (N := some 50) (v := ?_) (a' := ?_) #[true, true, true, true, true, true, false, true, false, false, false, false] rfl rfl (take_ofW HT_.out HW_.out (by kernel_rfl)) (fun _ _ _ h => h) (Or.inl ⟨by rfl, ?_⟩) hHeld ?_ ?_
              rotate_left
              · rintro w' ⟨s0, s1, s2, s3, s4, s5, s6, s7, s8, s9, s10, s11⟩
                go_simp
                with_reducible rfl
              rotate_left
              · simp only [Act.put, List.setIfInBounds_toArray, List.set_cons_zero, List.set_cons_succ, i64_w, i32_w]
                rfl
              refine take_ (i := 8) (N := some 51) (v := ?_) (a' := ?_) #[true, true, true, true, true, true, false, true, true, false, false, false] rfl rfl (take_ofW HT_.out HW_.out (by kernel_rfl)) (fun _ _ _ h => h) (Or.inl ⟨by rfl, ?_⟩) hHeld ?_ ?_
              rotate_left
              · rintro w' ⟨s0, s1, s2, s3, s4, s5, s6, s7, s8, s9, s10, s11⟩
                go_simp
                with_reducible rfl
              rotate_left
              · simp only [Act.put, List.setIfInBounds_toArray, List.set_cons_zero, List.set_cons_succ, i64_w, i32_w]
                rfl
              refine one_ (i := 6) (N := some 49) #[true, true, true, true, true, true, true, true, true, false, false, false] rfl rfl (one_of HT_.out (by kernel_rfl)) (by decide) (fun K hK => ?_)
              refine goes_ Try.func22 (by kernel_rfl) rfl #[.agg #[.int .i64 a0_0, .string a0_1, .int .i64 a0_2, .int .i64 a0_3, .int .i64 a0_4, .int .i64 a0_5], .agg #[.int .i64 a1_0, .string a1_1, .int .i64 a1_2, .int .i64 a1_3, .int .i64 a1_4, .int .i64 a1_5]] (by rfl) rfl rfl (by (try simp only [List.map_toArray, List.map_cons, List.map_nil]); first | done | rfl | (simp only [List.length_drop, List.length_take]; rfl)) ?_
              with_reducible refine (pfair_Before.calls kj5 a0_0 a0_1 a0_2 a0_3 a0_4 a0_5 a1_0 a1_1 a1_2 a1_3 a1_4 a1_5 t287 _ A80.out).mono ?_
              rintro e w84 ⟨rfl, hb⟩
              refine ⟨_, rfl, ?_⟩
              have n0_ := Aside0.mk (blk_below (g := gb279) (o := .cells #[.int .i64 a0_0, .string a0_1, .int .i64 a0_2, .int .i64 a0_3, .int .i64 a0_4, .int .i64 a0_5] 42 (0, 0)) (by (with_reducible repeat (first | refine blk_drewN ?_ _ | refine blk_drew ?_ | refine blk_alloc ?_ _)); exact BK279.out) hb)
              have n1_ := Aside0.mk (blk_below (g := gb280) (o := .cells #[.int .i64 a1_0, .string a1_1, .int .i64 a1_2, .int .i64 a1_3, .int .i64 a1_4, .int .i64 a1_5] 42 (0, 0)) (by (with_reducible repeat (first | refine blk_drewN ?_ _ | refine blk_drew ?_ | refine blk_alloc ?_ _)); exact BK280.out) hb)
              have n2_ := Aside0.mk (blk_below (g := gb281) (o := .cells #[.int .i64 a2_0, .string a2_1, .int .i64 a2_2, .int .i64 a2_3, .int .i64 a2_4, .int .i64 a2_5] 42 (0, 0)) (by (with_reducible repeat (first | refine blk_drewN ?_ _ | refine blk_drew ?_ | refine blk_alloc ?_ _)); exact BK281.out) hb)
              have n3_ := Aside0.mk (below_step (by repeat (first | (with_reducible first | exact HB.out | apply below_alloc | apply pw_below_drewN | apply below_drew1 | refine below_set ?_ GE279.out | refine below_set ?_ GE280.out | refine below_set ?_ GE281.out) | exact HB.out)) hb)
              clear BK279
              clear BK280
              clear BK281
              clear HB
              have BK279 := n0_
              have BK280 := n1_
              have BK281 := n2_
              have HB := n3_
              clear n0_ n1_ n2_ n3_
              (try clear hb)
              (try clear hb2)
              (try clear hk)
              (try clear hi)
              refine hK.out _ _ ⟨(blk_cell BK279.out 0).trans rfl, (blk_cell BK279.out 1).trans rfl, (blk_cell BK279.out 2).trans rfl, (blk_cell BK279.out 3).trans rfl, (blk_cell BK279.out 4).trans rfl, (blk_cell BK279.out 5).trans rfl, (blk_cell BK280.out 0).trans rfl, (blk_cell BK280.out 1).trans rfl, (blk_cell BK280.out 2).trans rfl, (blk_cell BK280.out 3).trans rfl, (blk_cell BK280.out 4).trans rfl, (blk_cell BK280.out 5).trans rfl⟩ (fun hHeld => ?_)
              clear hK K
              refine norm_ (a' := ?_) ?_ ?_
              rotate_left
              · show Act.put _ (some 49) _ = _
                simp only [Act.put, List.setIfInBounds_toArray, List.set_cons_zero, List.set_cons_succ, i64_w, i32_w]
                rfl
              refine one_ (i := 9) (N := some 52) #[true, true, true, true, true, true, true, true, true, true, false, false] rfl rfl (one_of HT_.out (by kernel_rfl)) (by decide) (fun K hK => ?_)
              refine goes_ Try.func22 (by kernel_rfl) rfl #[.agg #[.int .i64 a1_0, .string a1_1, .int .i64 a1_2, .int .i64 a1_3, .int .i64 a1_4, .int .i64 a1_5], .agg #[.int .i64 a0_0, .string a0_1, .int .i64 a0_2, .int .i64 a0_3, .int .i64 a0_4, .int .i64 a0_5]] (by rfl) rfl rfl (by (try simp only [List.map_toArray, List.map_cons, List.map_nil]); first | done | rfl | (simp only [List.length_drop, List.length_take]; rfl)) ?_
              with_reducible refine (pfair_Before.calls kj5 a1_0 a1_1 a1_2 a1_3 a1_4 a1_5 a0_0 a0_1 a0_2 a0_3 a0_4 a0_5 t288 _ A81.out).mono ?_
              rintro e w85 ⟨rfl, hb⟩
              refine ⟨_, rfl, ?_⟩
              have n0_ := Aside0.mk (blk_below (g := gb279) (o := .cells #[.int .i64 a0_0, .string a0_1, .int .i64 a0_2, .int .i64 a0_3, .int .i64 a0_4, .int .i64 a0_5] 42 (0, 0)) (by (with_reducible repeat (first | refine blk_drewN ?_ _ | refine blk_drew ?_ | refine blk_alloc ?_ _)); exact BK279.out) hb)
              have n1_ := Aside0.mk (blk_below (g := gb280) (o := .cells #[.int .i64 a1_0, .string a1_1, .int .i64 a1_2, .int .i64 a1_3, .int .i64 a1_4, .int .i64 a1_5] 42 (0, 0)) (by (with_reducible repeat (first | refine blk_drewN ?_ _ | refine blk_drew ?_ | refine blk_alloc ?_ _)); exact BK280.out) hb)
              have n2_ := Aside0.mk (blk_below (g := gb281) (o := .cells #[.int .i64 a2_0, .string a2_1, .int .i64 a2_2, .int .i64 a2_3, .int .i64 a2_4, .int .i64 a2_5] 42 (0, 0)) (by (with_reducible repeat (first | refine blk_drewN ?_ _ | refine blk_drew ?_ | refine blk_alloc ?_ _)); exact BK281.out) hb)
              have n3_ := Aside0.mk (below_step (by repeat (first | (with_reducible first | exact HB.out | apply below_alloc | apply pw_below_drewN | apply below_drew1 | refine below_set ?_ GE279.out | refine below_set ?_ GE280.out | refine below_set ?_ GE281.out) | exact HB.out)) hb)
              clear BK279
              clear BK280
              clear BK281
              clear HB
              have BK279 := n0_
              have BK280 := n1_
              have BK281 := n2_
              have HB := n3_
              clear n0_ n1_ n2_ n3_
              (try clear hb)
              (try clear hb2)
              (try clear hk)
              (try clear hi)
              refine hK.out _ _ ⟨(blk_cell BK279.out 0).trans rfl, (blk_cell BK279.out 1).trans rfl, (blk_cell BK279.out 2).trans rfl, (blk_cell BK279.out 3).trans rfl, (blk_cell BK279.out 4).trans rfl, (blk_cell BK279.out 5).trans rfl, (blk_cell BK280.out 0).trans rfl, (blk_cell BK280.out 1).trans rfl, (blk_cell BK280.out 2).trans rfl, (blk_cell BK280.out 3).trans rfl, (blk_cell BK280.out 4).trans rfl, (blk_cell BK280.out 5).trans rfl⟩ (fun hHeld => ?_)
              clear hK K
              refine norm_ (a' := ?_) ?_ ?_
              rotate_left
              · show Act.put _ (some 52) _ = _
                simp only [Act.put, List.setIfInBounds_toArray, List.set_cons_zero, List.set_cons_succ, i64_w, i32_w]
                rfl
              refine pure_ (i := 10) (N := some 53) (v := ?_) (a' := ?_) #[true, true, true, true, true, true, true, true, true, true, true, false] rfl rfl (any_of HT_.out (by kernel_rfl)) (fun _ _ _ h => h) (Or.inl ⟨by rfl, ?_⟩) ?_ ?_
              rotate_left
              · intro w'
                go_simp
                with_reducible rfl
              rotate_left
              · simp only [Act.put, List.setIfInBounds_toArray, List.set_cons_zero, List.set_cons_succ, i64_w, i32_w]
                rfl
              refine pure_ (i := 11) (N := some 54) (v := ?_) (a' := ?_) #[true, true, true, true, true, true, true, true, true, true, true, true] rfl rfl (any_of HT_.out (by kernel_rfl)) (fun _ _ _ h => h) (Or.inl ⟨by rfl, ?_⟩) ?_ ?_
              rotate_left
              · intro w'
                go_simp
                with_reducible rfl
              rotate_left
              · simp only [Act.put, List.setIfInBounds_toArray, List.set_cons_zero, List.set_cons_succ, i64_w, i32_w]
                rfl
              refine done_ (done_of HT_.out (by kernel_rfl)) ?_
              try go_wp2
              go_meet
              case rel => exact ⟨_, ((t287 == t288)), (by first | rfl | (simp; done) | (simp [*]; done)), H', ⟨by have := HJ5.out; first | omega | exact Nat.le_refl _⟩, ⟨by (with_reducible repeat (first | refine blk_drewN ?_ _ | refine blk_drew ?_ | refine blk_alloc ?_ _)); exact BK279.out⟩, ⟨by (with_reducible repeat (first | refine blk_drewN ?_ _ | refine blk_drew ?_ | refine blk_alloc ?_ _)); exact BK280.out⟩, ⟨by (with_reducible repeat (first | refine blk_drewN ?_ _ | refine blk_drew ?_ | refine blk_alloc ?_ _)); exact BK281.out⟩, ⟨by repeat (first | (with_reducible first | exact HB.out | apply below_alloc | apply pw_below_drewN | apply below_drew1 | refine below_set ?_ GE279.out | refine below_set ?_ GE280.out | refine below_set ?_ GE281.out) | exact HB.out)⟩⟩
          case rest =>
            clear HC75
            try clear c2
            try clear p2
            try clear c7
            try clear c22
            try clear c74
            try clear c77
            try clear hcz33_3
            try clear hcz33_4
            try clear hcz33_5
            try clear hcz35_0
            try clear hcz35_1
            try clear hcz35_2
            try clear hcz35_3
            try clear hcz35_4
            try clear hcz35_5
            try clear hcz40_0
            try clear hcz40_1
            try clear hcz40_2
            try clear hcz40_3
            try clear hcz40_4
            try clear hcz40_5
            try clear hcz43_0
            try clear hcz43_1
            try clear hcz43_2
            try clear hcz43_3
            try clear hcz43_4
            try clear hcz43_5
            try clear hcz45_0
            try clear hcz45_1
            try clear hcz45_2
            try clear hcz45_3
            try clear hcz45_4
            try clear hcz45_5
            try clear hcz47_0
            try clear hcz47_1
            try clear hcz47_2
            try clear hcz47_3
            try clear hcz47_4
            try clear hcz47_5
            try clear hcz48_0
            try clear hcz48_1
            try clear hcz48_2
            try clear hcz48_3
            try clear hcz48_4
            try clear hcz48_5
            try clear hcz52_0
            try clear hcz52_1
            try clear hcz52_2
            try clear hcz52_3
            try clear hcz52_4
            try clear hcz52_5
            try clear hcz55_0
            try clear hcz55_1
            try clear hcz55_2
            try clear hcz55_3
            try clear hcz55_4
            try clear hcz55_5
            try clear hcz57_0
            try clear hcz57_1
            try clear hcz57_2
            try clear hcz57_3
            try clear hcz57_4
            try clear hcz57_5
            try clear hcz59_0
            try clear hcz59_1
            try clear hcz59_2
            try clear hcz59_3
            try clear hcz59_4
            try clear hcz59_5
            try clear hcz60_0
            try clear hcz60_1
            try clear hcz60_2
            try clear hcz60_3
            try clear hcz60_4
            try clear hcz60_5
            try clear hcz61_0
            try clear hcz61_1
            try clear hcz61_2
            try clear hcz61_3
            try clear hcz61_4
            try clear hcz61_5
            try clear hcz64_0
            try clear hcz64_1
            try clear hcz64_2
            try clear hcz64_3
            try clear hcz64_4
            try clear hcz64_5
            try clear hcz67_0
            try clear hcz67_1
            try clear hcz67_2
            try clear hcz67_3
            try clear hcz67_4
            try clear hcz67_5
            try clear hcz69_0
            try clear hcz69_1
            try clear hcz69_2
            try clear hcz69_3
            try clear hcz69_4
            try clear hcz69_5
            try clear hcz71_0
            try clear hcz71_1
            try clear hcz71_2
            try clear hcz71_3
            try clear hcz71_4
            try clear hcz71_5
            try clear hcz72_0
            try clear hcz72_1
            try clear hcz72_2
            try clear hcz72_3
            try clear hcz72_4
            try clear hcz72_5
            try clear hcz73_0
            try clear hcz73_1
            try clear hcz73_2
            try clear hcz73_3
            try clear hcz73_4
            try clear hcz73_5
            try clear hfz15_0
            try clear hfz15_1
            try clear hfz15_2
            try clear hfz15_3
            try clear hfz15_4
            try clear hfz15_5
            try clear hfz21_0
            try clear hfz21_1
            try clear hfz21_2
            try clear hfz21_3
            try clear hfz21_4
            try clear hfz21_5
            try clear hfz24_0
            try clear hfz24_1
            try clear hfz24_2
            try clear hfz24_3
            try clear hfz24_4
            try clear hfz24_5
            try clear hfz30_0
            try clear hfz30_1
            try clear hfz30_2
            try clear hfz30_3
            try clear hfz30_4
            try clear hfz30_5
            try clear hfz33_0
            try clear hfz33_1
            try clear hfz33_2
            try clear hfz33_3
            try clear hfz33_4
            try clear hfz33_5
            try clear hfz35_0
            try clear hfz35_1
            try clear hfz35_2
            try clear hfz35_3
            try clear hfz35_4
            try clear hfz35_5
            try clear hfz40_0
            try clear hfz40_1
            try clear hfz40_2
            try clear hfz40_3
            try clear hfz40_4
            try clear hfz40_5
            try clear hfz43_0
            try clear hfz43_1
            try clear hfz43_2
            try clear hfz43_3
            try clear hfz43_4
            try clear hfz43_5
            try clear hfz45_0
            try clear hfz45_1
            try clear hfz45_2
            try clear hfz45_3
            try clear hfz45_4
            try clear hfz45_5
            try clear hfz47_0
            try clear hfz47_1
            try clear hfz47_2
            try clear hfz47_3
            try clear hfz47_4
            try clear hfz47_5
            try clear hfz48_0
            try clear hfz48_1
            try clear hfz48_2
            try clear hfz48_3
            try clear hfz48_4
            try clear hfz48_5
            try clear hfz52_0
            try clear hfz52_1
            try clear hfz52_2
            try clear hfz52_3
            try clear hfz52_4
            try clear hfz52_5
            try clear hfz55_0
            try clear hfz55_1
            try clear hfz55_2
            try clear hfz55_3
            try clear hfz55_4
            try clear hfz55_5
            try clear hfz57_0
            try clear hfz57_1
            try clear hfz57_2
            try clear hfz57_3
            try clear hfz57_4
            try clear hfz57_5
            try clear hfz59_0
            try clear hfz59_1
            try clear hfz59_2
            try clear hfz59_3
            try clear hfz59_4
            try clear hfz59_5
            try clear hfz60_0
            try clear hfz60_1
            try clear hfz60_2
            try clear hfz60_3
            try clear hfz60_4
            try clear hfz60_5
            try clear hfz61_0
            try clear hfz61_1
            try clear hfz61_2
            try clear hfz61_3
            try clear hfz61_4
            try clear hfz61_5
            try clear hfz64_0
            try clear hfz64_1
            try clear hfz64_2
            try clear hfz64_3
            try clear hfz64_4
            try clear hfz64_5
            try clear hfz67_0
            try clear hfz67_1
            try clear hfz67_2
            try clear hfz67_3
            try clear hfz67_4
            try clear hfz67_5
            try clear hfz69_0
            try clear hfz69_1
            try clear hfz69_2
            try clear hfz69_3
            try clear hfz69_4
            try clear hfz69_5
            try clear hfz71_0
            try clear hfz71_1
            try clear hfz71_2
            try clear hfz71_3
            try clear hfz71_4
            try clear hfz71_5
            try clear hfz72_0
            try clear hfz72_1
            try clear hfz72_2
            try clear hfz72_3
            try clear hfz72_4
            try clear hfz72_5
            try clear hfz73_0
            try clear hfz73_1
            try clear hfz73_2
            try clear hfz73_3
            try clear hfz73_4
            try clear hfz73_5
            obtain ⟨kq, x54_74, rfl, HA, HJ74, BK279, BK280, BK281, HB⟩ := hcut
            cases kq with
            | zero => exact absurd HA.out (by simp [ontimelaw45_PfairOrder.j1])
            | succ kj74 =>
              have H := HA.out
              clear HA
              simp only [ontimelaw45_PfairOrder.j1] at H
              by_cases c86 : x54_74 = true
              · subst c86
                have H1 : (some false) = some r := by rw [if_pos rfl] at H; exact H
                clear H
                have H := H1
                clear H1
                obtain rfl := Option.some.inj H
                go_wp2
                go_ret
                exact ⟨by first | rfl | (simp [errW_none, errW_some] <;> rfl) | (simp [*, errW_none, errW_some] <;> rfl), by repeat (first | (with_reducible first | exact HB.out | apply below_alloc | apply pw_below_drewN | apply below_drew1 | refine below_set ?_ GE279.out | refine below_set ?_ GE280.out | refine below_set ?_ GE281.out) | exact HB.out)⟩
              · replace c86 := Bool.eq_false_iff.mpr c86
                subst c86
                have H1 : ((pfair_Before.f kj74 a0_0 a0_1 a0_2 a0_3 a0_4 a0_5 a1_0 a1_1 a1_2 a1_3 a1_4 a1_5).bind fun t289 => (if t289 = true then ((pfair_Before.f kj74 a1_0 a1_1 a1_2 a1_3 a1_4 a1_5 a2_0 a2_1 a2_2 a2_3 a2_4 a2_5).bind fun t290 => (if t290 = true then ((pfair_Before.f kj74 a0_0 a0_1 a0_2 a0_3 a0_4 a0_5 a2_0 a2_1 a2_2 a2_3 a2_4 a2_5).bind fun t291 => (some t291)) else (some true))) else (some true))) = some r := by rw [if_neg (show ¬ (false = true) by decide)] at H; exact H
                clear H
                have H := H1
                clear H1
                replace H := Option.bind_eq_some_iff.mp H
                obtain ⟨t289, A870, H⟩ := H
                replace H : (if t289 = true then ((pfair_Before.f kj74 a1_0 a1_1 a1_2 a1_3 a1_4 a1_5 a2_0 a2_1 a2_2 a2_3 a2_4 a2_5).bind fun t290 => (if t290 = true then ((pfair_Before.f kj74 a0_0 a0_1 a0_2 a0_3 a0_4 a0_5 a2_0 a2_1 a2_2 a2_3 a2_4 a2_5).bind fun t291 => (some t291)) else (some true))) else (some true)) = some r := H
                have A87 := Aside0.mk A870
                clear A870
                by_cases c88 : t289 = true
                · subst c88
                  have H1 : ((pfair_Before.f kj74 a1_0 a1_1 a1_2 a1_3 a1_4 a1_5 a2_0 a2_1 a2_2 a2_3 a2_4 a2_5).bind fun t290 => (if t290 = true then ((pfair_Before.f kj74 a0_0 a0_1 a0_2 a0_3 a0_4 a0_5 a2_0 a2_1 a2_2 a2_3 a2_4 a2_5).bind fun t291 => (some t291)) else (some true))) = some r := by rw [if_pos rfl] at H; exact H
                  clear H
                  have H := H1
                  clear H1
                  replace H := Option.bind_eq_some_iff.mp H
                  obtain ⟨t290, A890, H⟩ := H
                  replace H : (if t290 = true then ((pfair_Before.f kj74 a0_0 a0_1 a0_2 a0_3 a0_4 a0_5 a2_0 a2_1 a2_2 a2_3 a2_4 a2_5).bind fun t291 => (some t291)) else (some true)) = some r := H
                  have A89 := Aside0.mk A890
                  clear A890
                  by_cases c90 : t290 = true
                  · subst c90
                    have H1 : ((pfair_Before.f kj74 a0_0 a0_1 a0_2 a0_3 a0_4 a0_5 a2_0 a2_1 a2_2 a2_3 a2_4 a2_5).bind fun t291 => (some t291)) = some r := by rw [if_pos rfl] at H; exact H
                    clear H
                    have H := H1
                    clear H1
                    replace H := Option.bind_eq_some_iff.mp H
                    obtain ⟨t291, A910, H⟩ := H
                    replace H : (some t291) = some r := H
                    have A91 := Aside0.mk A910
                    clear A910
                    obtain rfl := Option.some.inj H
                    have hnb92 := NB279_280.out
                    have hnc92 := NB280_279.out
                    have hnb93 := NB279_281.out
                    have hnc93 := NB281_279.out
                    have hcz94_0 : wc.cell? ⟨gb279, 0, none⟩ = some (.int .i64 a0_0) := (blk_cell BK279.out 0).trans rfl
                    have hcz94_1 : wc.cell? ⟨gb279, 1, none⟩ = some (.string a0_1) := (blk_cell BK279.out 1).trans rfl
                    have hcz94_2 : wc.cell? ⟨gb279, 2, none⟩ = some (.int .i64 a0_2) := (blk_cell BK279.out 2).trans rfl
                    have hcz94_3 : wc.cell? ⟨gb279, 3, none⟩ = some (.int .i64 a0_3) := (blk_cell BK279.out 3).trans rfl
                    have hcz94_4 : wc.cell? ⟨gb279, 4, none⟩ = some (.int .i64 a0_4) := (blk_cell BK279.out 4).trans rfl
                    have hcz94_5 : wc.cell? ⟨gb279, 5, none⟩ = some (.int .i64 a0_5) := (blk_cell BK279.out 5).trans rfl
                    have hfz94_0 := blk_frozen BK279.out 0
                    have hfz94_1 := blk_frozen BK279.out 1
                    have hfz94_2 := blk_frozen BK279.out 2
                    have hfz94_3 := blk_frozen BK279.out 3
                    have hfz94_4 := blk_frozen BK279.out 4
                    have hfz94_5 := blk_frozen BK279.out 5
                    have hnb95 := NB280_281.out
                    have hnc95 := NB281_280.out
                    have hcz96_0 : wc.cell? ⟨gb280, 0, none⟩ = some (.int .i64 a1_0) := (blk_cell BK280.out 0).trans rfl
                    have hcz96_1 : wc.cell? ⟨gb280, 1, none⟩ = some (.string a1_1) := (blk_cell BK280.out 1).trans rfl
                    have hcz96_2 : wc.cell? ⟨gb280, 2, none⟩ = some (.int .i64 a1_2) := (blk_cell BK280.out 2).trans rfl
                    have hcz96_3 : wc.cell? ⟨gb280, 3, none⟩ = some (.int .i64 a1_3) := (blk_cell BK280.out 3).trans rfl
                    have hcz96_4 : wc.cell? ⟨gb280, 4, none⟩ = some (.int .i64 a1_4) := (blk_cell BK280.out 4).trans rfl
                    have hcz96_5 : wc.cell? ⟨gb280, 5, none⟩ = some (.int .i64 a1_5) := (blk_cell BK280.out 5).trans rfl
                    have hfz96_0 := blk_frozen BK280.out 0
                    have hfz96_1 := blk_frozen BK280.out 1
                    have hfz96_2 := blk_frozen BK280.out 2
                    have hfz96_3 := blk_frozen BK280.out 3
                    have hfz96_4 := blk_frozen BK280.out 4
                    have hfz96_5 := blk_frozen BK280.out 5
                    go_wp2_with (first | ((with_reducible refine gate_callee (f := 22) rfl ?_); refine goesL_ (some 57) rfl rfl Try.func22 (by kernel_rfl) rfl #[.agg #[.int .i64 a0_0, .string a0_1, .int .i64 a0_2, .int .i64 a0_3, .int .i64 a0_4, .int .i64 a0_5], .agg #[.int .i64 a1_0, .string a1_1, .int .i64 a1_2, .int .i64 a1_3, .int .i64 a1_4, .int .i64 a1_5]] rfl (by (try simp only [List.map_toArray, List.map_cons, List.map_nil]); first | done | rfl | (simp only [List.length_drop, List.length_take]; rfl)) ?_; (with_reducible refine (pfair_Before.calls kj74 a0_0 a0_1 a0_2 a0_3 a0_4 a0_5 a1_0 a1_1 a1_2 a1_3 a1_4 a1_5 true _ A87.out).mono ?_); rintro e w97 ⟨rfl, hb⟩; refine ⟨_, rfl, ?_⟩; have n0_ := Aside0.mk (blk_below (g := gb279) (o := .cells #[.int .i64 a0_0, .string a0_1, .int .i64 a0_2, .int .i64 a0_3, .int .i64 a0_4, .int .i64 a0_5] 42 (0, 0)) (by (with_reducible repeat (first | refine blk_drewN ?_ _ | refine blk_drew ?_ | refine blk_alloc ?_ _)); exact BK279.out) hb); have n1_ := Aside0.mk (blk_below (g := gb280) (o := .cells #[.int .i64 a1_0, .string a1_1, .int .i64 a1_2, .int .i64 a1_3, .int .i64 a1_4, .int .i64 a1_5] 42 (0, 0)) (by (with_reducible repeat (first | refine blk_drewN ?_ _ | refine blk_drew ?_ | refine blk_alloc ?_ _)); exact BK280.out) hb); have n2_ := Aside0.mk (blk_below (g := gb281) (o := .cells #[.int .i64 a2_0, .string a2_1, .int .i64 a2_2, .int .i64 a2_3, .int .i64 a2_4, .int .i64 a2_5] 42 (0, 0)) (by (with_reducible repeat (first | refine blk_drewN ?_ _ | refine blk_drew ?_ | refine blk_alloc ?_ _)); exact BK281.out) hb); have n3_ := Aside0.mk (below_step (by repeat (first | (with_reducible first | exact HB.out | apply below_alloc | apply pw_below_drewN | apply below_drew1 | refine below_set ?_ GE279.out | refine below_set ?_ GE280.out | refine below_set ?_ GE281.out) | exact HB.out)) hb); clear BK279; clear BK280; clear BK281; clear HB; have BK279 := n0_; have BK280 := n1_; have BK281 := n2_; have HB := n3_; clear n0_ n1_ n2_ n3_; (try clear hb); (try clear hb2); (try clear hk); (try clear hi); have hcz98_0 : w97.cell? ⟨gb280, 0, none⟩ = some (.int .i64 a1_0) := (blk_cell BK280.out 0).trans rfl; have hcz98_1 : w97.cell? ⟨gb280, 1, none⟩ = some (.string a1_1) := (blk_cell BK280.out 1).trans rfl; have hcz98_2 : w97.cell? ⟨gb280, 2, none⟩ = some (.int .i64 a1_2) := (blk_cell BK280.out 2).trans rfl; have hcz98_3 : w97.cell? ⟨gb280, 3, none⟩ = some (.int .i64 a1_3) := (blk_cell BK280.out 3).trans rfl; have hcz98_4 : w97.cell? ⟨gb280, 4, none⟩ = some (.int .i64 a1_4) := (blk_cell BK280.out 4).trans rfl; have hcz98_5 : w97.cell? ⟨gb280, 5, none⟩ = some (.int .i64 a1_5) := (blk_cell BK280.out 5).trans rfl; have hfz98_0 := blk_frozen BK280.out 0; have hfz98_1 := blk_frozen BK280.out 1; have hfz98_2 := blk_frozen BK280.out 2; have hfz98_3 := blk_frozen BK280.out 3; have hfz98_4 := blk_frozen BK280.out 4; have hfz98_5 := blk_frozen BK280.out 5; have hcz99_0 : w97.cell? ⟨gb281, 0, none⟩ = some (.int .i64 a2_0) := (blk_cell BK281.out 0).trans rfl; have hcz99_1 : w97.cell? ⟨gb281, 1, none⟩ = some (.string a2_1) := (blk_cell BK281.out 1).trans rfl; have hcz99_2 : w97.cell? ⟨gb281, 2, none⟩ = some (.int .i64 a2_2) := (blk_cell BK281.out 2).trans rfl; have hcz99_3 : w97.cell? ⟨gb281, 3, none⟩ = some (.int .i64 a2_3) := (blk_cell BK281.out 3).trans rfl; have hcz99_4 : w97.cell? ⟨gb281, 4, none⟩ = some (.int .i64 a2_4) := (blk_cell BK281.out 4).trans rfl; have hcz99_5 : w97.cell? ⟨gb281, 5, none⟩ = some (.int .i64 a2_5) := (blk_cell BK281.out 5).trans rfl; have hfz99_0 := blk_frozen BK281.out 0; have hfz99_1 := blk_frozen BK281.out 1; have hfz99_2 := blk_frozen BK281.out 2; have hfz99_3 := blk_frozen BK281.out 3; have hfz99_4 := blk_frozen BK281.out 4; have hfz99_5 := blk_frozen BK281.out 5) | (go_at_call 22; (with_reducible refine (pfair_Before.calls kj74 a1_0 a1_1 a1_2 a1_3 a1_4 a1_5 a2_0 a2_1 a2_2 a2_3 a2_4 a2_5 true _ A89.out).mono ?_); rintro e w100 ⟨rfl, hb⟩; have n0_ := Aside0.mk (blk_below (g := gb279) (o := .cells #[.int .i64 a0_0, .string a0_1, .int .i64 a0_2, .int .i64 a0_3, .int .i64 a0_4, .int .i64 a0_5] 42 (0, 0)) (by (with_reducible repeat (first | refine blk_drewN ?_ _ | refine blk_drew ?_ | refine blk_alloc ?_ _)); exact BK279.out) hb); have n1_ := Aside0.mk (blk_below (g := gb280) (o := .cells #[.int .i64 a1_0, .string a1_1, .int .i64 a1_2, .int .i64 a1_3, .int .i64 a1_4, .int .i64 a1_5] 42 (0, 0)) (by (with_reducible repeat (first | refine blk_drewN ?_ _ | refine blk_drew ?_ | refine blk_alloc ?_ _)); exact BK280.out) hb); have n2_ := Aside0.mk (blk_below (g := gb281) (o := .cells #[.int .i64 a2_0, .string a2_1, .int .i64 a2_2, .int .i64 a2_3, .int .i64 a2_4, .int .i64 a2_5] 42 (0, 0)) (by (with_reducible repeat (first | refine blk_drewN ?_ _ | refine blk_drew ?_ | refine blk_alloc ?_ _)); exact BK281.out) hb); have n3_ := Aside0.mk (below_step (by repeat (first | (with_reducible first | exact HB.out | apply below_alloc | apply pw_below_drewN | apply below_drew1 | refine below_set ?_ GE279.out | refine below_set ?_ GE280.out | refine below_set ?_ GE281.out) | exact HB.out)) hb); clear BK279; clear BK280; clear BK281; clear HB; have BK279 := n0_; have BK280 := n1_; have BK281 := n2_; have HB := n3_; clear n0_ n1_ n2_ n3_; (try clear hb); (try clear hb2); (try clear hk); (try clear hi); have hcz101_0 : w100.cell? ⟨gb279, 0, none⟩ = some (.int .i64 a0_0) := (blk_cell BK279.out 0).trans rfl; have hcz101_1 : w100.cell? ⟨gb279, 1, none⟩ = some (.string a0_1) := (blk_cell BK279.out 1).trans rfl; have hcz101_2 : w100.cell? ⟨gb279, 2, none⟩ = some (.int .i64 a0_2) := (blk_cell BK279.out 2).trans rfl; have hcz101_3 : w100.cell? ⟨gb279, 3, none⟩ = some (.int .i64 a0_3) := (blk_cell BK279.out 3).trans rfl; have hcz101_4 : w100.cell? ⟨gb279, 4, none⟩ = some (.int .i64 a0_4) := (blk_cell BK279.out 4).trans rfl; have hcz101_5 : w100.cell? ⟨gb279, 5, none⟩ = some (.int .i64 a0_5) := (blk_cell BK279.out 5).trans rfl; have hfz101_0 := blk_frozen BK279.out 0; have hfz101_1 := blk_frozen BK279.out 1; have hfz101_2 := blk_frozen BK279.out 2; have hfz101_3 := blk_frozen BK279.out 3; have hfz101_4 := blk_frozen BK279.out 4; have hfz101_5 := blk_frozen BK279.out 5; have hcz102_0 : w100.cell? ⟨gb281, 0, none⟩ = some (.int .i64 a2_0) := (blk_cell BK281.out 0).trans rfl; have hcz102_1 : w100.cell? ⟨gb281, 1, none⟩ = some (.string a2_1) := (blk_cell BK281.out 1).trans rfl; have hcz102_2 : w100.cell? ⟨gb281, 2, none⟩ = some (.int .i64 a2_2) := (blk_cell BK281.out 2).trans rfl; have hcz102_3 : w100.cell? ⟨gb281, 3, none⟩ = some (.int .i64 a2_3) := (blk_cell BK281.out 3).trans rfl; have hcz102_4 : w100.cell? ⟨gb281, 4, none⟩ = some (.int .i64 a2_4) := (blk_cell BK281.out 4).trans rfl; have hcz102_5 : w100.cell? ⟨gb281, 5, none⟩ = some (.int .i64 a2_5) := (blk_cell BK281.out 5).trans rfl; have hfz102_0 := blk_frozen BK281.out 0; have hfz102_1 := blk_frozen BK281.out 1; have hfz102_2 := blk_frozen BK281.out 2; have hfz102_3 := blk_frozen BK281.out 3; have hfz102_4 := blk_frozen BK281.out 4; have hfz102_5 := blk_frozen BK281.out 5) | (go_at_call 22; (with_reducible refine (pfair_Before.calls kj74 a0_0 a0_1 a0_2 a0_3 a0_4 a0_5 a2_0 a2_1 a2_2 a2_3 a2_4 a2_5 t291 _ A91.out).mono ?_); rintro e w103 ⟨rfl, hb⟩; have n0_ := Aside0.mk (blk_below (g := gb279) (o := .cells #[.int .i64 a0_0, .string a0_1, .int .i64 a0_2, .int .i64 a0_3, .int .i64 a0_4, .int .i64 a0_5] 42 (0, 0)) (by (with_reducible repeat (first | refine blk_drewN ?_ _ | refine blk_drew ?_ | refine blk_alloc ?_ _)); exact BK279.out) hb); have n1_ := Aside0.mk (blk_below (g := gb280) (o := .cells #[.int .i64 a1_0, .string a1_1, .int .i64 a1_2, .int .i64 a1_3, .int .i64 a1_4, .int .i64 a1_5] 42 (0, 0)) (by (with_reducible repeat (first | refine blk_drewN ?_ _ | refine blk_drew ?_ | refine blk_alloc ?_ _)); exact BK280.out) hb); have n2_ := Aside0.mk (blk_below (g := gb281) (o := .cells #[.int .i64 a2_0, .string a2_1, .int .i64 a2_2, .int .i64 a2_3, .int .i64 a2_4, .int .i64 a2_5] 42 (0, 0)) (by (with_reducible repeat (first | refine blk_drewN ?_ _ | refine blk_drew ?_ | refine blk_alloc ?_ _)); exact BK281.out) hb); have n3_ := Aside0.mk (below_step (by repeat (first | (with_reducible first | exact HB.out | apply below_alloc | apply pw_below_drewN | apply below_drew1 | refine below_set ?_ GE279.out | refine below_set ?_ GE280.out | refine below_set ?_ GE281.out) | exact HB.out)) hb); clear BK279; clear BK280; clear BK281; clear HB; have BK279 := n0_; have BK280 := n1_; have BK281 := n2_; have HB := n3_; clear n0_ n1_ n2_ n3_; (try clear hb); (try clear hb2); (try clear hk); (try clear hi)))
                    go_ret
                    exact ⟨by first | rfl | (simp [errW_none, errW_some] <;> rfl) | (simp [*, errW_none, errW_some] <;> rfl), by repeat (first | (with_reducible first | exact HB.out | apply below_alloc | apply pw_below_drewN | apply below_drew1 | refine below_set ?_ GE279.out | refine below_set ?_ GE280.out | refine below_set ?_ GE281.out) | exact HB.out)⟩
                  · replace c90 := Bool.eq_false_iff.mpr c90
                    subst c90
                    have H1 : (some true) = some r := by rw [if_neg (show ¬ (false = true) by decide)] at H; exact H
                    clear H
                    have H := H1
                    clear H1
                    obtain rfl := Option.some.inj H
                    have hnb104 := NB279_280.out
                    have hnc104 := NB280_279.out
                    have hnb105 := NB279_281.out
                    have hnc105 := NB281_279.out
                    have hcz106_0 : wc.cell? ⟨gb279, 0, none⟩ = some (.int .i64 a0_0) := (blk_cell BK279.out 0).trans rfl
                    have hcz106_1 : wc.cell? ⟨gb279, 1, none⟩ = some (.string a0_1) := (blk_cell BK279.out 1).trans rfl
                    have hcz106_2 : wc.cell? ⟨gb279, 2, none⟩ = some (.int .i64 a0_2) := (blk_cell BK279.out 2).trans rfl
                    have hcz106_3 : wc.cell? ⟨gb279, 3, none⟩ = some (.int .i64 a0_3) := (blk_cell BK279.out 3).trans rfl
                    have hcz106_4 : wc.cell? ⟨gb279, 4, none⟩ = some (.int .i64 a0_4) := (blk_cell BK279.out 4).trans rfl
                    have hcz106_5 : wc.cell? ⟨gb279, 5, none⟩ = some (.int .i64 a0_5) := (blk_cell BK279.out 5).trans rfl
                    have hfz106_0 := blk_frozen BK279.out 0
                    have hfz106_1 := blk_frozen BK279.out 1
                    have hfz106_2 := blk_frozen BK279.out 2
                    have hfz106_3 := blk_frozen BK279.out 3
                    have hfz106_4 := blk_frozen BK279.out 4
                    have hfz106_5 := blk_frozen BK279.out 5
                    have hnb107 := NB280_281.out
                    have hnc107 := NB281_280.out
                    have hcz108_0 : wc.cell? ⟨gb280, 0, none⟩ = some (.int .i64 a1_0) := (blk_cell BK280.out 0).trans rfl
                    have hcz108_1 : wc.cell? ⟨gb280, 1, none⟩ = some (.string a1_1) := (blk_cell BK280.out 1).trans rfl
                    have hcz108_2 : wc.cell? ⟨gb280, 2, none⟩ = some (.int .i64 a1_2) := (blk_cell BK280.out 2).trans rfl
                    have hcz108_3 : wc.cell? ⟨gb280, 3, none⟩ = some (.int .i64 a1_3) := (blk_cell BK280.out 3).trans rfl
                    have hcz108_4 : wc.cell? ⟨gb280, 4, none⟩ = some (.int .i64 a1_4) := (blk_cell BK280.out 4).trans rfl
                    have hcz108_5 : wc.cell? ⟨gb280, 5, none⟩ = some (.int .i64 a1_5) := (blk_cell BK280.out 5).trans rfl
                    have hfz108_0 := blk_frozen BK280.out 0
                    have hfz108_1 := blk_frozen BK280.out 1
                    have hfz108_2 := blk_frozen BK280.out 2
                    have hfz108_3 := blk_frozen BK280.out 3
                    have hfz108_4 := blk_frozen BK280.out 4
                    have hfz108_5 := blk_frozen BK280.out 5
                    go_wp2_with (first | ((with_reducible refine gate_callee (f := 22) rfl ?_); refine goesL_ (some 57) rfl rfl Try.func22 (by kernel_rfl) rfl #[.agg #[.int .i64 a0_0, .string a0_1, .int .i64 a0_2, .int .i64 a0_3, .int .i64 a0_4, .int .i64 a0_5], .agg #[.int .i64 a1_0, .string a1_1, .int .i64 a1_2, .int .i64 a1_3, .int .i64 a1_4, .int .i64 a1_5]] rfl (by (try simp only [List.map_toArray, List.map_cons, List.map_nil]); first | done | rfl | (simp only [List.length_drop, List.length_take]; rfl)) ?_; (with_reducible refine (pfair_Before.calls kj74 a0_0 a0_1 a0_2 a0_3 a0_4 a0_5 a1_0 a1_1 a1_2 a1_3 a1_4 a1_5 true _ A87.out).mono ?_); rintro e w109 ⟨rfl, hb⟩; refine ⟨_, rfl, ?_⟩; have n0_ := Aside0.mk (blk_below (g := gb279) (o := .cells #[.int .i64 a0_0, .string a0_1, .int .i64 a0_2, .int .i64 a0_3, .int .i64 a0_4, .int .i64 a0_5] 42 (0, 0)) (by (with_reducible repeat (first | refine blk_drewN ?_ _ | refine blk_drew ?_ | refine blk_alloc ?_ _)); exact BK279.out) hb); have n1_ := Aside0.mk (blk_below (g := gb280) (o := .cells #[.int .i64 a1_0, .string a1_1, .int .i64 a1_2, .int .i64 a1_3, .int .i64 a1_4, .int .i64 a1_5] 42 (0, 0)) (by (with_reducible repeat (first | refine blk_drewN ?_ _ | refine blk_drew ?_ | refine blk_alloc ?_ _)); exact BK280.out) hb); have n2_ := Aside0.mk (blk_below (g := gb281) (o := .cells #[.int .i64 a2_0, .string a2_1, .int .i64 a2_2, .int .i64 a2_3, .int .i64 a2_4, .int .i64 a2_5] 42 (0, 0)) (by (with_reducible repeat (first | refine blk_drewN ?_ _ | refine blk_drew ?_ | refine blk_alloc ?_ _)); exact BK281.out) hb); have n3_ := Aside0.mk (below_step (by repeat (first | (with_reducible first | exact HB.out | apply below_alloc | apply pw_below_drewN | apply below_drew1 | refine below_set ?_ GE279.out | refine below_set ?_ GE280.out | refine below_set ?_ GE281.out) | exact HB.out)) hb); clear BK279; clear BK280; clear BK281; clear HB; have BK279 := n0_; have BK280 := n1_; have BK281 := n2_; have HB := n3_; clear n0_ n1_ n2_ n3_; (try clear hb); (try clear hb2); (try clear hk); (try clear hi); have hcz110_0 : w109.cell? ⟨gb280, 0, none⟩ = some (.int .i64 a1_0) := (blk_cell BK280.out 0).trans rfl; have hcz110_1 : w109.cell? ⟨gb280, 1, none⟩ = some (.string a1_1) := (blk_cell BK280.out 1).trans rfl; have hcz110_2 : w109.cell? ⟨gb280, 2, none⟩ = some (.int .i64 a1_2) := (blk_cell BK280.out 2).trans rfl; have hcz110_3 : w109.cell? ⟨gb280, 3, none⟩ = some (.int .i64 a1_3) := (blk_cell BK280.out 3).trans rfl; have hcz110_4 : w109.cell? ⟨gb280, 4, none⟩ = some (.int .i64 a1_4) := (blk_cell BK280.out 4).trans rfl; have hcz110_5 : w109.cell? ⟨gb280, 5, none⟩ = some (.int .i64 a1_5) := (blk_cell BK280.out 5).trans rfl; have hfz110_0 := blk_frozen BK280.out 0; have hfz110_1 := blk_frozen BK280.out 1; have hfz110_2 := blk_frozen BK280.out 2; have hfz110_3 := blk_frozen BK280.out 3; have hfz110_4 := blk_frozen BK280.out 4; have hfz110_5 := blk_frozen BK280.out 5; have hcz111_0 : w109.cell? ⟨gb281, 0, none⟩ = some (.int .i64 a2_0) := (blk_cell BK281.out 0).trans rfl; have hcz111_1 : w109.cell? ⟨gb281, 1, none⟩ = some (.string a2_1) := (blk_cell BK281.out 1).trans rfl; have hcz111_2 : w109.cell? ⟨gb281, 2, none⟩ = some (.int .i64 a2_2) := (blk_cell BK281.out 2).trans rfl; have hcz111_3 : w109.cell? ⟨gb281, 3, none⟩ = some (.int .i64 a2_3) := (blk_cell BK281.out 3).trans rfl; have hcz111_4 : w109.cell? ⟨gb281, 4, none⟩ = some (.int .i64 a2_4) := (blk_cell BK281.out 4).trans rfl; have hcz111_5 : w109.cell? ⟨gb281, 5, none⟩ = some (.int .i64 a2_5) := (blk_cell BK281.out 5).trans rfl; have hfz111_0 := blk_frozen BK281.out 0; have hfz111_1 := blk_frozen BK281.out 1; have hfz111_2 := blk_frozen BK281.out 2; have hfz111_3 := blk_frozen BK281.out 3; have hfz111_4 := blk_frozen BK281.out 4; have hfz111_5 := blk_frozen BK281.out 5) | (go_at_call 22; (with_reducible refine (pfair_Before.calls kj74 a1_0 a1_1 a1_2 a1_3 a1_4 a1_5 a2_0 a2_1 a2_2 a2_3 a2_4 a2_5 false _ A89.out).mono ?_); rintro e w112 ⟨rfl, hb⟩; have n0_ := Aside0.mk (blk_below (g := gb279) (o := .cells #[.int .i64 a0_0, .string a0_1, .int .i64 a0_2, .int .i64 a0_3, .int .i64 a0_4, .int .i64 a0_5] 42 (0, 0)) (by (with_reducible repeat (first | refine blk_drewN ?_ _ | refine blk_drew ?_ | refine blk_alloc ?_ _)); exact BK279.out) hb); have n1_ := Aside0.mk (blk_below (g := gb280) (o := .cells #[.int .i64 a1_0, .string a1_1, .int .i64 a1_2, .int .i64 a1_3, .int .i64 a1_4, .int .i64 a1_5] 42 (0, 0)) (by (with_reducible repeat (first | refine blk_drewN ?_ _ | refine blk_drew ?_ | refine blk_alloc ?_ _)); exact BK280.out) hb); have n2_ := Aside0.mk (blk_below (g := gb281) (o := .cells #[.int .i64 a2_0, .string a2_1, .int .i64 a2_2, .int .i64 a2_3, .int .i64 a2_4, .int .i64 a2_5] 42 (0, 0)) (by (with_reducible repeat (first | refine blk_drewN ?_ _ | refine blk_drew ?_ | refine blk_alloc ?_ _)); exact BK281.out) hb); have n3_ := Aside0.mk (below_step (by repeat (first | (with_reducible first | exact HB.out | apply below_alloc | apply pw_below_drewN | apply below_drew1 | refine below_set ?_ GE279.out | refine below_set ?_ GE280.out | refine below_set ?_ GE281.out) | exact HB.out)) hb); clear BK279; clear BK280; clear BK281; clear HB; have BK279 := n0_; have BK280 := n1_; have BK281 := n2_; have HB := n3_; clear n0_ n1_ n2_ n3_; (try clear hb); (try clear hb2); (try clear hk); (try clear hi)))
                    go_ret
                    exact ⟨by first | rfl | (simp [errW_none, errW_some] <;> rfl) | (simp [*, errW_none, errW_some] <;> rfl), by repeat (first | (with_reducible first | exact HB.out | apply below_alloc | apply pw_below_drewN | apply below_drew1 | refine below_set ?_ GE279.out | refine below_set ?_ GE280.out | refine below_set ?_ GE281.out) | exact HB.out)⟩
                · replace c88 := Bool.eq_false_iff.mpr c88
                  subst c88
                  have H1 : (some true) = some r := by rw [if_neg (show ¬ (false = true) by decide)] at H; exact H
                  clear H
                  have H := H1
                  clear H1
                  obtain rfl := Option.some.inj H
                  have hnb113 := NB279_280.out
                  have hnc113 := NB280_279.out
                  have hnb114 := NB279_281.out
                  have hnc114 := NB281_279.out
                  have hcz115_0 : wc.cell? ⟨gb279, 0, none⟩ = some (.int .i64 a0_0) := (blk_cell BK279.out 0).trans rfl
                  have hcz115_1 : wc.cell? ⟨gb279, 1, none⟩ = some (.string a0_1) := (blk_cell BK279.out 1).trans rfl
                  have hcz115_2 : wc.cell? ⟨gb279, 2, none⟩ = some (.int .i64 a0_2) := (blk_cell BK279.out 2).trans rfl
                  have hcz115_3 : wc.cell? ⟨gb279, 3, none⟩ = some (.int .i64 a0_3) := (blk_cell BK279.out 3).trans rfl
                  have hcz115_4 : wc.cell? ⟨gb279, 4, none⟩ = some (.int .i64 a0_4) := (blk_cell BK279.out 4).trans rfl
                  have hcz115_5 : wc.cell? ⟨gb279, 5, none⟩ = some (.int .i64 a0_5) := (blk_cell BK279.out 5).trans rfl
                  have hfz115_0 := blk_frozen BK279.out 0
                  have hfz115_1 := blk_frozen BK279.out 1
                  have hfz115_2 := blk_frozen BK279.out 2
                  have hfz115_3 := blk_frozen BK279.out 3
                  have hfz115_4 := blk_frozen BK279.out 4
                  have hfz115_5 := blk_frozen BK279.out 5
                  have hnb116 := NB280_281.out
                  have hnc116 := NB281_280.out
                  have hcz117_0 : wc.cell? ⟨gb280, 0, none⟩ = some (.int .i64 a1_0) := (blk_cell BK280.out 0).trans rfl
                  have hcz117_1 : wc.cell? ⟨gb280, 1, none⟩ = some (.string a1_1) := (blk_cell BK280.out 1).trans rfl
                  have hcz117_2 : wc.cell? ⟨gb280, 2, none⟩ = some (.int .i64 a1_2) := (blk_cell BK280.out 2).trans rfl
                  have hcz117_3 : wc.cell? ⟨gb280, 3, none⟩ = some (.int .i64 a1_3) := (blk_cell BK280.out 3).trans rfl
                  have hcz117_4 : wc.cell? ⟨gb280, 4, none⟩ = some (.int .i64 a1_4) := (blk_cell BK280.out 4).trans rfl
                  have hcz117_5 : wc.cell? ⟨gb280, 5, none⟩ = some (.int .i64 a1_5) := (blk_cell BK280.out 5).trans rfl
                  have hfz117_0 := blk_frozen BK280.out 0
                  have hfz117_1 := blk_frozen BK280.out 1
                  have hfz117_2 := blk_frozen BK280.out 2
                  have hfz117_3 := blk_frozen BK280.out 3
                  have hfz117_4 := blk_frozen BK280.out 4
                  have hfz117_5 := blk_frozen BK280.out 5
                  go_wp2_with (first | ((with_reducible refine gate_callee (f := 22) rfl ?_); refine goesL_ (some 57) rfl rfl Try.func22 (by kernel_rfl) rfl #[.agg #[.int .i64 a0_0, .string a0_1, .int .i64 a0_2, .int .i64 a0_3, .int .i64 a0_4, .int .i64 a0_5], .agg #[.int .i64 a1_0, .string a1_1, .int .i64 a1_2, .int .i64 a1_3, .int .i64 a1_4, .int .i64 a1_5]] rfl (by (try simp only [List.map_toArray, List.map_cons, List.map_nil]); first | done | rfl | (simp only [List.length_drop, List.length_take]; rfl)) ?_; (with_reducible refine (pfair_Before.calls kj74 a0_0 a0_1 a0_2 a0_3 a0_4 a0_5 a1_0 a1_1 a1_2 a1_3 a1_4 a1_5 false _ A87.out).mono ?_); rintro e w118 ⟨rfl, hb⟩; refine ⟨_, rfl, ?_⟩; have n0_ := Aside0.mk (blk_below (g := gb279) (o := .cells #[.int .i64 a0_0, .string a0_1, .int .i64 a0_2, .int .i64 a0_3, .int .i64 a0_4, .int .i64 a0_5] 42 (0, 0)) (by (with_reducible repeat (first | refine blk_drewN ?_ _ | refine blk_drew ?_ | refine blk_alloc ?_ _)); exact BK279.out) hb); have n1_ := Aside0.mk (blk_below (g := gb280) (o := .cells #[.int .i64 a1_0, .string a1_1, .int .i64 a1_2, .int .i64 a1_3, .int .i64 a1_4, .int .i64 a1_5] 42 (0, 0)) (by (with_reducible repeat (first | refine blk_drewN ?_ _ | refine blk_drew ?_ | refine blk_alloc ?_ _)); exact BK280.out) hb); have n2_ := Aside0.mk (blk_below (g := gb281) (o := .cells #[.int .i64 a2_0, .string a2_1, .int .i64 a2_2, .int .i64 a2_3, .int .i64 a2_4, .int .i64 a2_5] 42 (0, 0)) (by (with_reducible repeat (first | refine blk_drewN ?_ _ | refine blk_drew ?_ | refine blk_alloc ?_ _)); exact BK281.out) hb); have n3_ := Aside0.mk (below_step (by repeat (first | (with_reducible first | exact HB.out | apply below_alloc | apply pw_below_drewN | apply below_drew1 | refine below_set ?_ GE279.out | refine below_set ?_ GE280.out | refine below_set ?_ GE281.out) | exact HB.out)) hb); clear BK279; clear BK280; clear BK281; clear HB; have BK279 := n0_; have BK280 := n1_; have BK281 := n2_; have HB := n3_; clear n0_ n1_ n2_ n3_; (try clear hb); (try clear hb2); (try clear hk); (try clear hi)))
                  go_ret
                  exact ⟨by first | rfl | (simp [errW_none, errW_some] <;> rfl) | (simp [*, errW_none, errW_some] <;> rfl), by repeat (first | (with_reducible first | exact HB.out | apply below_alloc | apply pw_below_drewN | apply below_drew1 | refine below_set ?_ GE279.out | refine below_set ?_ GE280.out | refine below_set ?_ GE281.out) | exact HB.out)⟩
  · replace c5 := Bool.eq_false_iff.mpr c5
    subst c5
    have H1 : (some false) = some r := by rw [if_neg (show ¬ (false = true) by decide)] at H; exact H
    clear H
    have H := H1
    clear H1
    obtain rfl := Option.some.inj H
    go_enter Try.func9, Try.ntmps9
    go_wp2_with (first | ((with_reducible refine gate_dst (N := 3) rfl ?_); refine box_event ?hg (N := 3) ?hd (cs := #[.int .i64 a0_0, .string a0_1, .int .i64 a0_2, .int .i64 a0_3, .int .i64 a0_4, .int .i64 a0_5]) (t := 42) ?hr ?_; (case hd => rfl); (case hg => rfl); (case hr => first | (go_simp; done) | (go_simp; rfl)); intro gb279 hg w119 hbox hb; have n0_ := Aside0.mk (below_step (by repeat (first | (with_reducible first | exact HB.out | apply below_alloc | apply pw_below_drewN | apply below_drew1) | exact HB.out)) hb); have n1_ := Aside0.mk (hbox); have n2_ := Aside0.mk ((by rw [hg]; exact (below_size (by repeat (first | (with_reducible first | exact HB.out | apply below_alloc | apply pw_below_drewN | apply below_drew1) | exact HB.out))) : w.heap.size ≤ gb279)); have n3_ := Aside0.mk ((by rw [hg]; exact (below_size (by repeat (first | (with_reducible first | exact HB.out | apply below_alloc | apply pw_below_drewN | apply below_drew1) | exact HB.out))) : w.heap.size ≤ gb279)); clear HB; have HB := n0_; have BK279 := n1_; have GW279 := n2_; have GE279 := n3_; clear n0_ n1_ n2_ n3_; clear hb hbox hg) | ((with_reducible refine gate_dst (N := 4) rfl ?_); refine box_event ?hg (N := 4) ?hd (cs := #[.int .i64 a1_0, .string a1_1, .int .i64 a1_2, .int .i64 a1_3, .int .i64 a1_4, .int .i64 a1_5]) (t := 42) ?hr ?_; (case hd => rfl); (case hg => rfl); (case hr => first | (go_simp; done) | (go_simp; rfl)); intro gb280 hg w120 hbox hb; have n0_ := Aside0.mk (blk_below (g := gb279) (o := .cells #[.int .i64 a0_0, .string a0_1, .int .i64 a0_2, .int .i64 a0_3, .int .i64 a0_4, .int .i64 a0_5] 42 (0, 0)) (by (with_reducible repeat (first | refine blk_drewN ?_ _ | refine blk_drew ?_ | refine blk_alloc ?_ _)); exact BK279.out) hb); have n1_ := Aside0.mk (below_step (by repeat (first | (with_reducible first | exact HB.out | apply below_alloc | apply pw_below_drewN | apply below_drew1 | refine below_set ?_ GE279.out) | exact HB.out)) hb); have n2_ := Aside0.mk (hbox); have n3_ := Aside0.mk ((by rw [hg]; exact (below_size (by repeat (first | (with_reducible first | exact HB.out | apply below_alloc | apply pw_below_drewN | apply below_drew1 | refine below_set ?_ GE279.out) | exact HB.out))) : w.heap.size ≤ gb280)); have n4_ := Aside0.mk ((by rw [hg]; exact (below_size (by repeat (first | (with_reducible first | exact HB.out | apply below_alloc | apply pw_below_drewN | apply below_drew1 | refine below_set ?_ GE279.out) | exact HB.out))) : w.heap.size ≤ gb280)); have n5_ := Aside0.mk ((by rw [hg]; exact Nat.ne_of_lt (blk_lt (g := gb279) (o := .cells #[.int .i64 a0_0, .string a0_1, .int .i64 a0_2, .int .i64 a0_3, .int .i64 a0_4, .int .i64 a0_5] 42 (0, 0)) (by (with_reducible repeat (first | refine blk_drewN ?_ _ | refine blk_drew ?_ | refine blk_alloc ?_ _)); exact BK279.out)) : gb279 ≠ gb280)); have n6_ := Aside0.mk ((by rw [hg]; exact Nat.ne_of_gt (blk_lt (g := gb279) (o := .cells #[.int .i64 a0_0, .string a0_1, .int .i64 a0_2, .int .i64 a0_3, .int .i64 a0_4, .int .i64 a0_5] 42 (0, 0)) (by (with_reducible repeat (first | refine blk_drewN ?_ _ | refine blk_drew ?_ | refine blk_alloc ?_ _)); exact BK279.out)) : gb280 ≠ gb279)); clear BK279; clear HB; have BK279 := n0_; have HB := n1_; have BK280 := n2_; have GW280 := n3_; have GE280 := n4_; have NB279_280 := n5_; have NB280_279 := n6_; clear n0_ n1_ n2_ n3_ n4_ n5_ n6_; clear hb hbox hg) | ((with_reducible refine gate_dst (N := 5) rfl ?_); refine box_event ?hg (N := 5) ?hd (cs := #[.int .i64 a2_0, .string a2_1, .int .i64 a2_2, .int .i64 a2_3, .int .i64 a2_4, .int .i64 a2_5]) (t := 42) ?hr ?_; (case hd => rfl); (case hg => rfl); (case hr => first | (go_simp; done) | (go_simp; rfl)); intro gb281 hg w121 hbox hb; have n0_ := Aside0.mk (blk_below (g := gb279) (o := .cells #[.int .i64 a0_0, .string a0_1, .int .i64 a0_2, .int .i64 a0_3, .int .i64 a0_4, .int .i64 a0_5] 42 (0, 0)) (by (with_reducible repeat (first | refine blk_drewN ?_ _ | refine blk_drew ?_ | refine blk_alloc ?_ _)); exact BK279.out) hb); have n1_ := Aside0.mk (blk_below (g := gb280) (o := .cells #[.int .i64 a1_0, .string a1_1, .int .i64 a1_2, .int .i64 a1_3, .int .i64 a1_4, .int .i64 a1_5] 42 (0, 0)) (by (with_reducible repeat (first | refine blk_drewN ?_ _ | refine blk_drew ?_ | refine blk_alloc ?_ _)); exact BK280.out) hb); have n2_ := Aside0.mk (below_step (by repeat (first | (with_reducible first | exact HB.out | apply below_alloc | apply pw_below_drewN | apply below_drew1 | refine below_set ?_ GE279.out | refine below_set ?_ GE280.out) | exact HB.out)) hb); have n3_ := Aside0.mk (hbox); have n4_ := Aside0.mk ((by rw [hg]; exact (below_size (by repeat (first | (with_reducible first | exact HB.out | apply below_alloc | apply pw_below_drewN | apply below_drew1 | refine below_set ?_ GE279.out | refine below_set ?_ GE280.out) | exact HB.out))) : w.heap.size ≤ gb281)); have n5_ := Aside0.mk ((by rw [hg]; exact (below_size (by repeat (first | (with_reducible first | exact HB.out | apply below_alloc | apply pw_below_drewN | apply below_drew1 | refine below_set ?_ GE279.out | refine below_set ?_ GE280.out) | exact HB.out))) : w.heap.size ≤ gb281)); have n6_ := Aside0.mk ((by rw [hg]; exact Nat.ne_of_lt (blk_lt (g := gb279) (o := .cells #[.int .i64 a0_0, .string a0_1, .int .i64 a0_2, .int .i64 a0_3, .int .i64 a0_4, .int .i64 a0_5] 42 (0, 0)) (by (with_reducible repeat (first | refine blk_drewN ?_ _ | refine blk_drew ?_ | refine blk_alloc ?_ _)); exact BK279.out)) : gb279 ≠ gb281)); have n7_ := Aside0.mk ((by rw [hg]; exact Nat.ne_of_gt (blk_lt (g := gb279) (o := .cells #[.int .i64 a0_0, .string a0_1, .int .i64 a0_2, .int .i64 a0_3, .int .i64 a0_4, .int .i64 a0_5] 42 (0, 0)) (by (with_reducible repeat (first | refine blk_drewN ?_ _ | refine blk_drew ?_ | refine blk_alloc ?_ _)); exact BK279.out)) : gb281 ≠ gb279)); have n8_ := Aside0.mk ((by rw [hg]; exact Nat.ne_of_lt (blk_lt (g := gb280) (o := .cells #[.int .i64 a1_0, .string a1_1, .int .i64 a1_2, .int .i64 a1_3, .int .i64 a1_4, .int .i64 a1_5] 42 (0, 0)) (by (with_reducible repeat (first | refine blk_drewN ?_ _ | refine blk_drew ?_ | refine blk_alloc ?_ _)); exact BK280.out)) : gb280 ≠ gb281)); have n9_ := Aside0.mk ((by rw [hg]; exact Nat.ne_of_gt (blk_lt (g := gb280) (o := .cells #[.int .i64 a1_0, .string a1_1, .int .i64 a1_2, .int .i64 a1_3, .int .i64 a1_4, .int .i64 a1_5] 42 (0, 0)) (by (with_reducible repeat (first | refine blk_drewN ?_ _ | refine blk_drew ?_ | refine blk_alloc ?_ _)); exact BK280.out)) : gb281 ≠ gb280)); clear BK279; clear BK280; clear HB; have BK279 := n0_; have BK280 := n1_; have HB := n2_; have BK281 := n3_; have GW281 := n4_; have GE281 := n5_; have NB279_281 := n6_; have NB281_279 := n7_; have NB280_281 := n8_; have NB281_280 := n9_; clear n0_ n1_ n2_ n3_ n4_ n5_ n6_ n7_ n8_ n9_; clear hb hbox hg) | ((with_reducible refine gate_callee (f := 11) rfl ?_); refine goesL_ (some 7) rfl rfl Try.func11 (by kernel_rfl) rfl #[] rfl (by (try simp only [List.map_toArray, List.map_cons, List.map_nil]); first | done | rfl | (simp only [List.length_drop, List.length_take]; rfl)) ?_; (with_reducible refine (ontimelaw45_awake.calls k  false _ A4.out).mono ?_); rintro e w122 ⟨rfl, hb⟩; refine ⟨_, rfl, ?_⟩; have n0_ := Aside0.mk (blk_below (g := gb279) (o := .cells #[.int .i64 a0_0, .string a0_1, .int .i64 a0_2, .int .i64 a0_3, .int .i64 a0_4, .int .i64 a0_5] 42 (0, 0)) (by (with_reducible repeat (first | refine blk_drewN ?_ _ | refine blk_drew ?_ | refine blk_alloc ?_ _)); exact BK279.out) hb); have n1_ := Aside0.mk (blk_below (g := gb280) (o := .cells #[.int .i64 a1_0, .string a1_1, .int .i64 a1_2, .int .i64 a1_3, .int .i64 a1_4, .int .i64 a1_5] 42 (0, 0)) (by (with_reducible repeat (first | refine blk_drewN ?_ _ | refine blk_drew ?_ | refine blk_alloc ?_ _)); exact BK280.out) hb); have n2_ := Aside0.mk (blk_below (g := gb281) (o := .cells #[.int .i64 a2_0, .string a2_1, .int .i64 a2_2, .int .i64 a2_3, .int .i64 a2_4, .int .i64 a2_5] 42 (0, 0)) (by (with_reducible repeat (first | refine blk_drewN ?_ _ | refine blk_drew ?_ | refine blk_alloc ?_ _)); exact BK281.out) hb); have n3_ := Aside0.mk (below_step (by repeat (first | (with_reducible first | exact HB.out | apply below_alloc | apply pw_below_drewN | apply below_drew1 | refine below_set ?_ GE279.out | refine below_set ?_ GE280.out | refine below_set ?_ GE281.out) | exact HB.out)) hb); clear BK279; clear BK280; clear BK281; clear HB; have BK279 := n0_; have BK280 := n1_; have BK281 := n2_; have HB := n3_; clear n0_ n1_ n2_ n3_; (try clear hb); (try clear hb2); (try clear hk); (try clear hi)))
    go_ret
    exact ⟨by first | rfl | (simp [errW_none, errW_some] <;> rfl) | (simp [*, errW_none, errW_some] <;> rfl), by repeat (first | (with_reducible first | exact HB.out | apply below_alloc | apply pw_below_drewN | apply below_drew1 | refine below_set ?_ GE279.out | refine below_set ?_ GE280.out | refine below_set ?_ GE281.out) | exact HB.out)⟩

end Go.Proofs.Ytbjhkcfgahbipaa.P
