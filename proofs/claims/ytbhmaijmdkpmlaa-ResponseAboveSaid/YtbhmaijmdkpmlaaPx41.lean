-- Written by wip/gen.py: the kit's print, with contracts of mine in it.
import Derived.Test.YtbhmaijmdkpmlaaPx0
import Derived.Test.YtbhmaijmdkpmlaaPx7
import Derived.Test.YtbhmaijmdkpmlaaPx12
import Derived.Test.YtbhmaijmdkpmlaaPx14
import Derived.Test.YtbhmaijmdkpmlaaPx17
import Derived.Test.YtbhmaijmdkpmlaaPx18
namespace Go.Proofs.Ytbhmaijmdkpmlaa.P
open Go.RowKit Go.Proofs.YtbhmaijmdkpmlaaW.PrintWords Go.Proofs.YtbhmaijmdkpmlaaW.PrintLast Go.Proofs.YtbhmaijmdkpmlaaW.PrintMore
attribute [local go_sem] max2_int min2_int max_two min_two max_three min_three max_four min_four   -- for this text's walks alone
set_option linter.unusedVariables false
set_option linter.unusedSimpArgs false

/-! ### ontimelaw44_ResponseAbove: function 8 -/
mutual
def ontimelaw44_ResponseAbove.j0 : Nat → List (S49) → Int → Bool → Option (Bool)
  | 0, _, _, _ => none
  | k + 1, x0, x1, x28 => if x28 = true then (some true) else (if (x0.length : Int) = 0 then (none) else (if 0 ≤ (x0.length : Int) then (if ((x0.length : Int) : Int).toNat ≤ 5864062014805 then (ontimelaw44_ResponseAbove.l0 k x0 (Int.tmod (wrap64 (x1)) (x0.length : Int)) (List.replicate ((x0.length : Int) : Int).toNat z49) x0 (x0.length : Int) 0) else (none)) else (none)))
def ontimelaw44_ResponseAbove.l0 : Nat → List (S49) → Int → List (S49) → List (S49) → Int → Int → Option (Bool)
  | 0, _, _, _, _, _, _ => none
  | k + 1, x0, x5, x6, x37, x38, x39 => if x39 < x38 then (if 0 ≤ x39 then (if x39 < (x37.length : Int) then (if x39 < (x6.length : Int) then (ontimelaw44_ResponseAbove.l0 k x0 x5 (x6.set (x39 : Int).toNat (⟨(rd_T49 x37 x39).f0, (rd_T49 x37 x39).f1, (rd_T49 x37 x39).f2, ([] : List (S68))⟩ : S49)) x37 x38 (wrap64 (x39 + 1))) else (none)) else (none)) else (none)) else ((response_Response.f k x6 x5).bind fun bt280 => (if 0 ≤ (wrap64 (x5 + 1)) then (if (wrap64 (x5 + 1)) ≤ (x6.length : Int) then ((response_Response.f k (x6.take ((wrap64 (x5 + 1)) : Int).toNat) x5).bind fun bt286 => ((response_Response.f k x0 x5).bind fun bt288 => (if bt280.1 = bt286.1 then (if bt280.2 = bt286.2 then ((response_Blocking.f x6 x5).bind fun t290 => (ontimelaw44_ResponseAbove.j2 k x0 x5 bt280.1 bt280.2 bt288.1 bt288.2 (t290 != 0))) else (ontimelaw44_ResponseAbove.j2 k x0 x5 bt280.1 bt280.2 bt288.1 bt288.2 true)) else (ontimelaw44_ResponseAbove.j2 k x0 x5 bt280.1 bt280.2 bt288.1 bt288.2 true)))) else (none)) else (none)))
def ontimelaw44_ResponseAbove.j2 : Nat → List (S49) → Int → Int → Int → Int → Int → Bool → Option (Bool)
  | 0, _, _, _, _, _, _, _ => none
  | k + 1, x0, x5, x9, x10, x13, x14, x84 => if x84 = true then (some false) else ((response_Blocking.f x0 x5).bind fun t291 => (if t291 = 0 then (if x13 = x9 then (some (x14 == x10)) else (some false)) else (if x14 = 21 then (some true) else (if x10 = 0 then ((response_Blocking.f x0 x5).bind fun t292 => (some (decide (x13 ≥ (wrap64 (x9 + t292)))))) else (some false)))))
end
def ontimelaw44_ResponseAbove.f (k : Nat) (l0 : List (S49)) (a1 : Int) : Option (Bool) := (ontimelaw44_awake.f k).bind fun t271 => (if t271 = true then ((ontimelaw44_great.f k l0).bind fun t272 => (if t272 = true then (ontimelaw44_ResponseAbove.j0 k l0 a1 true) else (if (l0.length : Int) = 0 then (ontimelaw44_ResponseAbove.j0 k l0 a1 true) else ((ceiling_Valid.f l0).bind fun t273 => (ontimelaw44_ResponseAbove.j0 k l0 a1 (!t273)))))) else (some false))
theorem ontimelaw44_ResponseAbove.mono_l : ∀ k, (∀ y0 y1 y2, LeO (ontimelaw44_ResponseAbove.j0 k y0 y1 y2) (ontimelaw44_ResponseAbove.j0 (k + 1) y0 y1 y2)) ∧ (∀ y0 y1 y2 y3 y4 y5, LeO (ontimelaw44_ResponseAbove.l0 k y0 y1 y2 y3 y4 y5) (ontimelaw44_ResponseAbove.l0 (k + 1) y0 y1 y2 y3 y4 y5)) ∧ (∀ y0 y1 y2 y3 y4 y5 y6, LeO (ontimelaw44_ResponseAbove.j2 k y0 y1 y2 y3 y4 y5 y6) (ontimelaw44_ResponseAbove.j2 (k + 1) y0 y1 y2 y3 y4 y5 y6))
  | 0 => ⟨fun _ _ _ r h => by simp [ontimelaw44_ResponseAbove.j0] at h, fun _ _ _ _ _ _ r h => by simp [ontimelaw44_ResponseAbove.l0] at h, fun _ _ _ _ _ _ _ r h => by simp [ontimelaw44_ResponseAbove.j2] at h⟩
  | k + 1 => by
    obtain ⟨ih0, ih1, ih2⟩ := ontimelaw44_ResponseAbove.mono_l k
    refine ⟨?_, ?_, ?_⟩
    · intro y0 y1 y2
      unfold ontimelaw44_ResponseAbove.j0
      repeat' first
      | (with_reducible exact ih0 _ _ _)
      | (with_reducible exact ih1 _ _ _ _ _ _)
      | (with_reducible exact ih2 _ _ _ _ _ _ _)
      | (with_reducible exact ontimelaw44_awake.mono _)
      | (with_reducible exact ontimelaw44_great.mono _ _)
      | (with_reducible exact response_Response.mono _ _ _)
      | (with_reducible exact LeO.refl _)
      | (with_reducible exact LeO.none _)
      | (with_reducible refine LeO.ite ?_ ?_)
      | (with_reducible refine LeO.bind ?_ (fun _ => ?_))
      | exact ih0 _ _ _
      | exact ih1 _ _ _ _ _ _
      | exact ih2 _ _ _ _ _ _ _
      | exact ontimelaw44_awake.mono _
      | exact ontimelaw44_great.mono _ _
      | exact response_Response.mono _ _ _
      | exact LeO.none _
      | refine LeO.ite ?_ ?_
      | refine LeO.bind ?_ (fun _ => ?_)
    · intro y0 y1 y2 y3 y4 y5
      unfold ontimelaw44_ResponseAbove.l0
      repeat' first
      | (with_reducible exact ih0 _ _ _)
      | (with_reducible exact ih1 _ _ _ _ _ _)
      | (with_reducible exact ih2 _ _ _ _ _ _ _)
      | (with_reducible exact ontimelaw44_awake.mono _)
      | (with_reducible exact ontimelaw44_great.mono _ _)
      | (with_reducible exact response_Response.mono _ _ _)
      | (with_reducible exact LeO.refl _)
      | (with_reducible exact LeO.none _)
      | (with_reducible refine LeO.ite ?_ ?_)
      | (with_reducible refine LeO.bind ?_ (fun _ => ?_))
      | exact ih0 _ _ _
      | exact ih1 _ _ _ _ _ _
      | exact ih2 _ _ _ _ _ _ _
      | exact ontimelaw44_awake.mono _
      | exact ontimelaw44_great.mono _ _
      | exact response_Response.mono _ _ _
      | exact LeO.none _
      | refine LeO.ite ?_ ?_
      | refine LeO.bind ?_ (fun _ => ?_)
    · intro y0 y1 y2 y3 y4 y5 y6
      unfold ontimelaw44_ResponseAbove.j2
      repeat' first
      | (with_reducible exact ih0 _ _ _)
      | (with_reducible exact ih1 _ _ _ _ _ _)
      | (with_reducible exact ih2 _ _ _ _ _ _ _)
      | (with_reducible exact ontimelaw44_awake.mono _)
      | (with_reducible exact ontimelaw44_great.mono _ _)
      | (with_reducible exact response_Response.mono _ _ _)
      | (with_reducible exact LeO.refl _)
      | (with_reducible exact LeO.none _)
      | (with_reducible refine LeO.ite ?_ ?_)
      | (with_reducible refine LeO.bind ?_ (fun _ => ?_))
      | exact ih0 _ _ _
      | exact ih1 _ _ _ _ _ _
      | exact ih2 _ _ _ _ _ _ _
      | exact ontimelaw44_awake.mono _
      | exact ontimelaw44_great.mono _ _
      | exact response_Response.mono _ _ _
      | exact LeO.none _
      | refine LeO.ite ?_ ?_
      | refine LeO.bind ?_ (fun _ => ?_)
theorem ontimelaw44_ResponseAbove.mono : ∀ a0 a1 k, LeO (ontimelaw44_ResponseAbove.f k a0 a1) (ontimelaw44_ResponseAbove.f (k + 1) a0 a1) := by
  intro a0 a1 k
  obtain ⟨ih0, ih1, ih2⟩ := ontimelaw44_ResponseAbove.mono_l k
  unfold ontimelaw44_ResponseAbove.f
  repeat' first
      | (with_reducible exact ih0 _ _ _)
      | (with_reducible exact ih1 _ _ _ _ _ _)
      | (with_reducible exact ih2 _ _ _ _ _ _ _)
      | (with_reducible exact ontimelaw44_awake.mono _)
      | (with_reducible exact ontimelaw44_great.mono _ _)
      | (with_reducible exact response_Response.mono _ _ _)
      | (with_reducible exact LeO.refl _)
      | (with_reducible exact LeO.none _)
      | (with_reducible refine LeO.ite ?_ ?_)
      | (with_reducible refine LeO.bind ?_ (fun _ => ?_))
      | exact ih0 _ _ _
      | exact ih1 _ _ _ _ _ _
      | exact ih2 _ _ _ _ _ _ _
      | exact ontimelaw44_awake.mono _
      | exact ontimelaw44_great.mono _ _
      | exact response_Response.mono _ _ _
      | exact LeO.none _
      | refine LeO.ite ?_ ?_
      | refine LeO.bind ?_ (fun _ => ?_)
set_option maxHeartbeats 8000000 in
set_option maxRecDepth 100000 in
theorem ontimelaw44_ResponseAbove.calls (k : Nat) (A0 : Option Addr) (c0 : Nat) (l0 : List (S49)) (a1 : Int) (r : Bool) (w : World) (hr0 : Kd.C k49 w A0 l0.length l0) (hc0 : l0.length ≤ c0) (h : ontimelaw44_ResponseAbove.f k l0 a1 = some r) :
    Calls Try.prog 8 #[.slice A0 l0.length c0, .int .u8 a1] w fun e w' => e = .returned (.bool r) ∧ Below w.heap.size w w' := by
  have hu49 := Try.underlying49
  have HR0 := Aside0.mk hr0
  have HC0 := Aside0.mk hc0
  clear hr0 hc0
  have HB := Aside0.mk (Below.refl w.heap.size w)
  have H : ((ontimelaw44_awake.f k).bind fun t271 => (if t271 = true then ((ontimelaw44_great.f k l0).bind fun t272 => (if t272 = true then (ontimelaw44_ResponseAbove.j0 k l0 a1 true) else (if (l0.length : Int) = 0 then (ontimelaw44_ResponseAbove.j0 k l0 a1 true) else ((ceiling_Valid.f l0).bind fun t273 => (ontimelaw44_ResponseAbove.j0 k l0 a1 (!t273)))))) else (some false))) = some r := h
  clear h
  replace H := Option.bind_eq_some_iff.mp H
  obtain ⟨t271, A30, H⟩ := H
  replace H : (if t271 = true then ((ontimelaw44_great.f k l0).bind fun t272 => (if t272 = true then (ontimelaw44_ResponseAbove.j0 k l0 a1 true) else (if (l0.length : Int) = 0 then (ontimelaw44_ResponseAbove.j0 k l0 a1 true) else ((ceiling_Valid.f l0).bind fun t273 => (ontimelaw44_ResponseAbove.j0 k l0 a1 (!t273)))))) else (some false)) = some r := H
  have A3 := Aside0.mk A30
  clear A30
  by_cases c4 : t271 = true
  · subst c4
    have H1 : ((ontimelaw44_great.f k l0).bind fun t272 => (if t272 = true then (ontimelaw44_ResponseAbove.j0 k l0 a1 true) else (if (l0.length : Int) = 0 then (ontimelaw44_ResponseAbove.j0 k l0 a1 true) else ((ceiling_Valid.f l0).bind fun t273 => (ontimelaw44_ResponseAbove.j0 k l0 a1 (!t273)))))) = some r := by rw [if_pos rfl] at H; exact H
    clear H
    have H := H1
    clear H1
    have HC5 := Aside0.mk H
    clear H
    go_enter Try.func8, Try.ntmps8
    go_upto_region 3 with (first | ((with_reducible refine gate_callee (f := 18) rfl ?_); refine goesL_ (some 15) rfl rfl Try.func18 (by kernel_rfl) rfl #[] rfl (by (try simp only [List.map_toArray, List.map_cons, List.map_nil]); first | done | rfl | (simp only [List.length_drop, List.length_take]; rfl)) ?_; (with_reducible refine (ontimelaw44_awake.calls k  true _ A3.out).mono ?_); rintro e w6 ⟨rfl, hb⟩; refine ⟨_, rfl, ?_⟩; have n0_ := Aside0.mk (below_step (by repeat (first | (with_reducible first | exact HB.out | apply below_alloc | apply pw_below_drewN | apply below_drew1) | exact HB.out)) hb); clear HB; have HB := n0_; clear n0_; (try clear hb); (try clear hb2); (try clear hk); (try clear hi)))
    (try simp only [Act.put, List.setIfInBounds_toArray, List.set_cons_zero, List.set_cons_succ])
    go_cut [28] (fun v28 wc => ∃ (kq : Nat) (x28_4 : Bool), v28 = .bool x28_4 ∧ Aside0 (ontimelaw44_ResponseAbove.j0 kq l0 a1 x28_4 = some r) ∧ Aside0 (kq ≤ k) ∧ Aside0 (Below w.heap.size w wc))
    case first =>
      have H := HC5.out
      clear HC5
      replace H := Option.bind_eq_some_iff.mp H
      obtain ⟨t272, A70, H⟩ := H
      replace H : (if t272 = true then (ontimelaw44_ResponseAbove.j0 k l0 a1 true) else (if (l0.length : Int) = 0 then (ontimelaw44_ResponseAbove.j0 k l0 a1 true) else ((ceiling_Valid.f l0).bind fun t273 => (ontimelaw44_ResponseAbove.j0 k l0 a1 (!t273))))) = some r := H
      have A7 := Aside0.mk A70
      clear A70
      by_cases c8 : t272 = true
      · subst c8
        have H1 : (ontimelaw44_ResponseAbove.j0 k l0 a1 true) = some r := by rw [if_pos rfl] at H; exact H
        clear H
        have H := H1
        clear H1
        have H' := Aside0.mk H
        clear H
        go_wp2_with (first | ((with_reducible refine gate_callee (f := 19) rfl ?_); refine goesL_ (some 18) rfl rfl Try.func19 (by kernel_rfl) rfl #[.slice A0 l0.length c0] rfl (by (try simp only [List.map_toArray, List.map_cons, List.map_nil]); first | done | rfl | (simp only [List.length_drop, List.length_take]; rfl)) ?_; (with_reducible refine (ontimelaw44_great.calls k _ _ l0 true _ ?side1 ?side2 A7.out).mono ?_); (case side1 => repeat (first | exact (Kd.C_below HR0.out HB.out) | (with_reducible refine Kd.C_alloc ?_ _) | (with_reducible refine Kd.C_drewN ?_ _) | (with_reducible refine Kd.C_drew ?_))); (case side2 => exact HC0.out); rintro e w9 ⟨rfl, hb⟩; refine ⟨_, rfl, ?_⟩; have n0_ := Aside0.mk (below_step (by repeat (first | (with_reducible first | exact HB.out | apply below_alloc | apply pw_below_drewN | apply below_drew1) | exact HB.out)) hb); clear HB; have HB := n0_; clear n0_; (try clear hb); (try clear hb2); (try clear hk); (try clear hi)))
        go_meet
        case rel => exact ⟨_, (true), (by first | rfl | (simp; done) | (simp [*]; done)), H', ⟨by first | omega | exact Nat.le_refl _⟩, ⟨by repeat (first | (with_reducible first | exact HB.out | apply below_alloc | apply pw_below_drewN | apply below_drew1) | exact HB.out)⟩⟩
      · replace c8 := Bool.eq_false_iff.mpr c8
        subst c8
        have H1 : (if (l0.length : Int) = 0 then (ontimelaw44_ResponseAbove.j0 k l0 a1 true) else ((ceiling_Valid.f l0).bind fun t273 => (ontimelaw44_ResponseAbove.j0 k l0 a1 (!t273)))) = some r := by rw [if_neg (show ¬ (false = true) by decide)] at H; exact H
        clear H
        have H := H1
        clear H1
        by_cases c10 : (l0.length : Int) = 0
        · rw [if_pos c10] at H
          have c10b0 : ((l0.length : Int) == 0) = true := beq_iff_eq.mpr c10
          have c10b1 : ((l0.length : Int) != 0) = false := bne_eq_false_iff_eq.mpr c10
          clear c10
          (first | rw [c10b0] | (simp only [i64_w, i32_w]; rw [c10b0]) | skip)
          have H' := Aside0.mk H
          clear H
          go_wp2_with (first | ((with_reducible refine gate_callee (f := 19) rfl ?_); refine goesL_ (some 18) rfl rfl Try.func19 (by kernel_rfl) rfl #[.slice A0 l0.length c0] rfl (by (try simp only [List.map_toArray, List.map_cons, List.map_nil]); first | done | rfl | (simp only [List.length_drop, List.length_take]; rfl)) ?_; (with_reducible refine (ontimelaw44_great.calls k _ _ l0 false _ ?side1 ?side2 A7.out).mono ?_); (case side1 => repeat (first | exact (Kd.C_below HR0.out HB.out) | (with_reducible refine Kd.C_alloc ?_ _) | (with_reducible refine Kd.C_drewN ?_ _) | (with_reducible refine Kd.C_drew ?_))); (case side2 => exact HC0.out); rintro e w11 ⟨rfl, hb⟩; refine ⟨_, rfl, ?_⟩; have n0_ := Aside0.mk (below_step (by repeat (first | (with_reducible first | exact HB.out | apply below_alloc | apply pw_below_drewN | apply below_drew1) | exact HB.out)) hb); clear HB; have HB := n0_; clear n0_; (try clear hb); (try clear hb2); (try clear hk); (try clear hi)))
          go_meet
          case rel => exact ⟨_, (true), (by first | rfl | (simp; done) | (simp [*]; done)), H', ⟨by first | omega | exact Nat.le_refl _⟩, ⟨by repeat (first | (with_reducible first | exact HB.out | apply below_alloc | apply pw_below_drewN | apply below_drew1) | exact HB.out)⟩⟩
        · rw [if_neg c10] at H
          have c10b0 : ((l0.length : Int) == 0) = false := beq_eq_false_iff_ne.mpr c10
          have c10b1 : ((l0.length : Int) != 0) = true := bne_iff_ne.mpr c10
          have c10b2 : ¬ (l0 = []) := fun h_ => c10 (by rw [h_]; rfl)
          (first | rw [c10b0] | (simp only [i64_w, i32_w]; rw [c10b0]) | skip)
          replace H := Option.bind_eq_some_iff.mp H
          obtain ⟨t273, A120, H⟩ := H
          replace H : (ontimelaw44_ResponseAbove.j0 k l0 a1 (!t273)) = some r := H
          have A12 := Aside0.mk A120
          clear A120
          have H' := Aside0.mk H
          clear H
          go_wp2_with (first | ((with_reducible refine gate_callee (f := 19) rfl ?_); refine goesL_ (some 18) rfl rfl Try.func19 (by kernel_rfl) rfl #[.slice A0 l0.length c0] rfl (by (try simp only [List.map_toArray, List.map_cons, List.map_nil]); first | done | rfl | (simp only [List.length_drop, List.length_take]; rfl)) ?_; (with_reducible refine (ontimelaw44_great.calls k _ _ l0 false _ ?side1 ?side2 A7.out).mono ?_); (case side1 => repeat (first | exact (Kd.C_below HR0.out HB.out) | (with_reducible refine Kd.C_alloc ?_ _) | (with_reducible refine Kd.C_drewN ?_ _) | (with_reducible refine Kd.C_drew ?_))); (case side2 => exact HC0.out); rintro e w13 ⟨rfl, hb⟩; refine ⟨_, rfl, ?_⟩; have n0_ := Aside0.mk (below_step (by repeat (first | (with_reducible first | exact HB.out | apply below_alloc | apply pw_below_drewN | apply below_drew1) | exact HB.out)) hb); clear HB; have HB := n0_; clear n0_; (try clear hb); (try clear hb2); (try clear hk); (try clear hi)) | (go_at_call 20; (with_reducible refine (ceiling_Valid.calls _ _ l0 t273 _ ?side1 ?side2 A12.out).mono ?_); (case side1 => repeat (first | exact (Kd.C_below HR0.out HB.out) | (with_reducible refine Kd.C_alloc ?_ _) | (with_reducible refine Kd.C_drewN ?_ _) | (with_reducible refine Kd.C_drew ?_))); (case side2 => exact HC0.out); rintro e w14 ⟨rfl, hb⟩; have n0_ := Aside0.mk (below_step (by repeat (first | (with_reducible first | exact HB.out | apply below_alloc | apply pw_below_drewN | apply below_drew1) | exact HB.out)) hb); clear HB; have HB := n0_; clear n0_; (try clear hb); (try clear hb2); (try clear hk); (try clear hi)))
          go_meet
          case rel => exact ⟨_, (!t273), (by first | rfl | (simp; done) | (simp [*]; done)), H', ⟨by first | omega | exact Nat.le_refl _⟩, ⟨by repeat (first | (with_reducible first | exact HB.out | apply below_alloc | apply pw_below_drewN | apply below_drew1) | exact HB.out)⟩⟩
    case rest =>
      clear HC5
      try clear c1
      try clear p2
      try clear c4
      try clear c8
      try clear c10
      try clear c10b0
      try clear c10b1
      try clear c10b2
      obtain ⟨kq, x28_4, rfl, HA, HJ4, HB⟩ := hcut
      cases kq with
      | zero => exact absurd HA.out (by simp [ontimelaw44_ResponseAbove.j0])
      | succ kj4 =>
        have H := HA.out
        clear HA
        simp only [ontimelaw44_ResponseAbove.j0] at H
        by_cases c15 : x28_4 = true
        · subst c15
          have H1 : (some true) = some r := by rw [if_pos rfl] at H; exact H
          clear H
          have H := H1
          clear H1
          obtain rfl := Option.some.inj H
          go_wp2
          go_ret
          exact ⟨by first | rfl | (simp [errW_none, errW_some] <;> rfl) | (simp [*, errW_none, errW_some] <;> rfl), by repeat (first | (with_reducible first | exact HB.out | apply below_alloc | apply pw_below_drewN | apply below_drew1) | exact HB.out)⟩
        · replace c15 := Bool.eq_false_iff.mpr c15
          subst c15
          have H1 : (if (l0.length : Int) = 0 then (none) else (if 0 ≤ (l0.length : Int) then (if ((l0.length : Int) : Int).toNat ≤ 5864062014805 then (ontimelaw44_ResponseAbove.l0 kj4 l0 (Int.tmod (wrap64 (a1)) (l0.length : Int)) (List.replicate ((l0.length : Int) : Int).toNat z49) l0 (l0.length : Int) 0) else (none)) else (none))) = some r := by rw [if_neg (show ¬ (false = true) by decide)] at H; exact H
          clear H
          have H := H1
          clear H1
          by_cases c16 : (l0.length : Int) = 0
          · rw [if_pos c16] at H
            exact absurd H (by simp)
          · rw [if_neg c16] at H
            have c16b0 : ((l0.length : Int) == 0) = false := beq_eq_false_iff_ne.mpr c16
            have c16b1 : ((l0.length : Int) != 0) = true := bne_iff_ne.mpr c16
            have c16b2 : ¬ (l0 = []) := fun h_ => c16 (by rw [h_]; rfl)
            by_cases c17 : 0 ≤ (l0.length : Int)
            · rw [if_pos c17] at H
              have c17b0 := eq_true c17
              have c17b1 : decide (0 ≤ (l0.length : Int)) = true := decide_eq_true c17
              clear c17
              by_cases c18 : ((l0.length : Int) : Int).toNat ≤ 5864062014805
              · rw [if_pos c18] at H
                have c18b0 := eq_true c18
                have c18b1 : decide (((l0.length : Int) : Int).toNat ≤ 5864062014805) = true := decide_eq_true c18
                clear c18
                obtain ⟨y274, hy274⟩ : ∃ y_ : List (S49), y_ = (List.replicate ((l0.length : Int) : Int).toNat z49) := ⟨_, rfl⟩
                replace H : (ontimelaw44_ResponseAbove.l0 kj4 l0 (Int.tmod (wrap64 (a1)) (l0.length : Int)) y274 l0 (l0.length : Int) 0) = some r := by first | (rw [hy274]; with_reducible exact H) | (have H2_ := (Option.bind_some _ _).symm.trans H; rw [hy274]; with_reducible exact H2_) | (have H2_ := (Option.bind_some _ _).symm.trans H; with_reducible exact H2_) | with_reducible exact H | (rw [hy274]; exact H) | exact H
                have Ny274 := Aside0.mk hy274
                clear hy274
                have H' := Aside0.mk H
                clear H
                go_wp2_with (first | ((with_reducible refine gate_dst (N := 36) rfl ?_); (try (refine gate_guard (by rfl) ?_; dsimp only)); refine Kd.S_make k49 _ 49 rfl (N := 36) rfl 22 _ _ rfl (l0.length : Int) rfl rfl Try.underlying22 (.agg #[(.int .i64 0), (.int .i64 0), (.int .i64 0), (.slice none 0 0)]) 48 info49 rfl (by decide) (by omega) z49 (ok := fun _ => True) (okp := fun _ => True) (k49_mkM _ _ _ z49 (Kd.R_nil _ _ _ _ _)) (fun _ hk => hk) trivial (of_decide_eq_true (by first | (with_reducible assumption) | assumption)) (Nat.le_trans (Nat.mul_le_mul_right _ (of_decide_eq_true (by first | (with_reducible assumption) | assumption) : (l0.length : Int).toNat ≤ 5864062014805)) (by omega)) (Below.refl _ _) (Nat.le_refl _) ?_; intro v275 w19 ho20 hb hg_ hnew_; clear hg_ hnew_; (first | rw [← Ny274.out] at ho20 | (simp only [Int.reduceToNat] at ho20; rw [← Ny274.out] at ho20)); have n0_ := Aside0.mk (Kd.S_lower ho20 (below_size (by repeat (first | (with_reducible first | exact HB.out | apply below_alloc | apply pw_below_drewN | apply below_drew1) | exact HB.out)))); have n1_ := Aside0.mk (below_step (by repeat (first | (with_reducible first | exact HB.out | apply below_alloc | apply pw_below_drewN | apply below_drew1) | exact HB.out)) hb); clear HB; have HO276 := n0_; have HB := n1_; clear n0_ n1_; clear hb ho20))
                go_loopg [39] kj4 (fun kq v39 w' => ∃ (x6_2 : List (S49)) (x39_2 : Int), v39 = .int .i64 x39_2 ∧ Aside0 (ontimelaw44_ResponseAbove.l0 kq l0 (Int.tmod (wrap64 (a1)) (l0.length : Int)) x6_2 l0 (l0.length : Int) x39_2 = some r) ∧ Aside0 (kq ≤ kj4) ∧ Aside0 (Kd.S k49 49 w' w.heap.size (fun _ => True) v275 x6_2) ∧ Aside0 (Below w.heap.size w w'))
                case atStart => exact ⟨(y274), (0), (by first | rfl | (simp; done) | (simp [*]; done)), H', ⟨Nat.le_refl _⟩, ⟨by (with_reducible repeat (first | apply Kd.S_alloc | apply Kd.S_drewN | apply Kd.S_drew)); exact HO276.out⟩, ⟨by repeat (first | (with_reducible first | exact HB.out | apply below_alloc | apply pw_below_drewN | apply below_drew1) | exact HB.out)⟩⟩
                case round =>
                  clear H'
                  try clear c1
                  try clear p2
                  try clear c4
                  try clear p6
                  try clear c8
                  try clear c10
                  try clear c10b0
                  try clear c10b1
                  try clear c10b2
                  try clear c15
                  try clear c16
                  try clear c16b0
                  try clear c16b1
                  try clear c16b2
                  try clear c17
                  try clear c17b0
                  try clear c17b1
                  try clear c18
                  try clear c18b0
                  try clear c18b1
                  try clear c19
                  try clear p2
                  obtain ⟨x6_2, x39_2, rfl, HA, HK2, HO_6, HB⟩ := hrel
                  cases gk with
                  | zero => exact absurd HA.out (by simp [ontimelaw44_ResponseAbove.l0])
                  | succ k2 =>
                    have H := HA.out
                    clear HA
                    simp only [ontimelaw44_ResponseAbove.l0] at H
                    by_cases c21 : x39_2 < (l0.length : Int)
                    · rw [if_pos c21] at H
                      have c21b0 : decide (x39_2 < (l0.length : Int)) = true := decide_eq_true c21
                      clear c21
                      by_cases c22 : 0 ≤ x39_2
                      · rw [if_pos c22] at H
                        have c22b0 : decide (0 ≤ x39_2) = true := decide_eq_true c22
                        clear c22
                        by_cases c23 : x39_2 < (l0.length : Int)
                        · rw [if_pos c23] at H
                          have c23b0 : decide (x39_2 < (l0.length : Int)) = true := decide_eq_true c23
                          clear c23
                          by_cases c24 : x39_2 < (x6_2.length : Int)
                          · rw [if_pos c24] at H
                            have c24b0 : decide (x39_2 < (x6_2.length : Int)) = true := decide_eq_true c24
                            clear c24
                            obtain ⟨y279, hy279⟩ : ∃ y_ : List (S49), y_ = (x6_2.set (x39_2 : Int).toNat (⟨(rd_T49 l0 x39_2).f0, (rd_T49 l0 x39_2).f1, (rd_T49 l0 x39_2).f2, ([] : List (S68))⟩ : S49)) := ⟨_, rfl⟩
                            replace H : (ontimelaw44_ResponseAbove.l0 k2 l0 (Int.tmod (wrap64 (a1)) (l0.length : Int)) y279 l0 (l0.length : Int) (wrap64 (x39_2 + 1))) = some r := by first | (rw [hy279]; with_reducible exact H) | (have H2_ := (Option.bind_some _ _).symm.trans H; rw [hy279]; with_reducible exact H2_) | (have H2_ := (Option.bind_some _ _).symm.trans H; with_reducible exact H2_) | with_reducible exact H | (rw [hy279]; exact H) | exact H
                            have Ny279 := Aside0.mk hy279
                            clear hy279
                            have H' := Aside0.mk H
                            clear H
                            have p277 : 0 ≤ (x39_2 : Int) := of_decide_eq_true (by first | (with_reducible assumption) | assumption)
                            have q277 : x39_2 < (l0.length : Int) := of_decide_eq_true (by first | (with_reducible assumption) | assumption)
                            obtain ⟨ad277, A277_3, c277_3, e277, hx277_0, hx277_1, hx277_2, hx277_3, hl277_3, hi277_3⟩ := at_T49 HR0.out x39_2 p277 q277
                            cases e277
                            replace hx277_0 := (HB.out.cell (World.block_lt_of_cell? w _ hx277_0)).trans hx277_0
                            replace hx277_1 := (HB.out.cell (World.block_lt_of_cell? w _ hx277_1)).trans hx277_1
                            replace hx277_2 := (HB.out.cell (World.block_lt_of_cell? w _ hx277_2)).trans hx277_2
                            replace hx277_3 := (HB.out.cell (World.block_lt_of_cell? w _ hx277_3)).trans hx277_3
                            have HR277_3 := Aside0.mk hi277_3
                            have HC277_3 := Aside0.mk hl277_3
                            clear hi277_3 hl277_3
                            replace p277 := eq_true p277
                            replace q277 := eq_true q277
                            go_wp2_with (first | ((with_reducible refine gate_dst (N := 8) rfl ?_); (try (refine gate_guard (by rfl) ?_; dsimp only)); refine box_event ?hg (N := 8) ?hd (cs := #[.int .i64 0, .int .i64 0, .int .i64 0, .slice none 0 0]) (t := 49) ?hr ?_; (case hd => rfl); (case hg => rfl); (case hr => first | (go_simp; done) | (go_simp; rfl)); intro gb278 hg w26 hbox hb; have n0_ := Aside0.mk (Kd.S_below (Kd.S_elderB (by (with_reducible repeat (first | apply Kd.S_alloc | apply Kd.S_drewN | apply Kd.S_drew)); exact HO_6.out) gb278 (Nat.le_of_eq hg.symm)) hb); have n1_ := Aside0.mk (below_step (by repeat (first | (with_reducible first | exact HB.out | apply below_alloc | apply pw_below_drewN | apply below_drew1) | exact HB.out)) hb); have n2_ := Aside0.mk (hbox); have n3_ := Aside0.mk ((by rw [hg]; exact (below_size (by repeat (first | (with_reducible first | exact HB.out | apply below_alloc | apply pw_below_drewN | apply below_drew1) | exact HB.out))) : w.heap.size ≤ gb278)); have n4_ := Aside0.mk ((by rw [hg]; exact (below_size (by repeat (first | (with_reducible first | exact HB.out | apply below_alloc | apply pw_below_drewN | apply below_drew1) | exact HB.out))) : w.heap.size ≤ gb278)); clear HO_6; clear HB; have HO_6 := n0_; have HB := n1_; have BK278 := n2_; have GW278 := n3_; have GE278 := n4_; clear n0_ n1_ n2_ n3_ n4_; clear hb hbox hg; have hcz27_0 : w26.cell? ⟨gb278, 0, none⟩ = some (.int .i64 0) := (blk_cell BK278.out 0).trans rfl; have hcz27_1 : w26.cell? ⟨gb278, 1, none⟩ = some (.int .i64 0) := (blk_cell BK278.out 1).trans rfl; have hcz27_2 : w26.cell? ⟨gb278, 2, none⟩ = some (.int .i64 0) := (blk_cell BK278.out 2).trans rfl; have hcz27_3 : w26.cell? ⟨gb278, 3, none⟩ = some (.slice none 0 0) := (blk_cell BK278.out 3).trans rfl; have hfz27_0 := blk_frozen BK278.out 0; have hfz27_1 := blk_frozen BK278.out 1; have hfz27_2 := blk_frozen BK278.out 2; have hfz27_3 := blk_frozen BK278.out 3) | ((with_reducible refine gate_store (t := 49) (p := 8) rfl ?_); refine store_event (t := 49) (p := 8) (v := ?vo_w28) (w1 := ((((w26.setCell ⟨gb278, 0, none⟩ (.int .i64 ((rd_T49 l0 x39_2).f0))).setCell ⟨gb278, 1, none⟩ (.int .i64 ((rd_T49 l0 x39_2).f1))).setCell ⟨gb278, 2, none⟩ (.int .i64 ((rd_T49 l0 x39_2).f2))).setCell ⟨gb278, 3, none⟩ (.slice A277_3 ((rd_T49 l0 x39_2).f3).length c277_3))) ?hg ?ho ?hn ?hr ?_; (case ho => rfl); (case hg => rfl); (case hn => rfl); (case hr => first | (go_simp; done) | (go_simp; rfl)); intro w28 hw; have n0_ : Aside0 (Kd.S k49 49 w28 w.heap.size (fun k_ => k_ ≠ gb278) v275 x6_2) := ⟨(by rw [hw]; exact (by (with_reducible repeat (first | apply Kd.S_alloc | apply Kd.S_drewN | apply Kd.S_drew)); exact Kd.S_mono (Kd.S_far (p := ⟨gb278, 3, none⟩) (Kd.S_far (p := ⟨gb278, 2, none⟩) (Kd.S_far (p := ⟨gb278, 1, none⟩) (Kd.S_far (p := ⟨gb278, 0, none⟩) (Kd.S_mono HO_6.out (fun k_ hk => (⟨hk, hk.2⟩ : _ ∧ k_ ≠ gb278))) (fun _ hk => hk.2) (.int .i64 ((rd_T49 l0 x39_2).f0))) (fun _ hk => hk.2) (.int .i64 ((rd_T49 l0 x39_2).f1))) (fun _ hk => hk.2) (.int .i64 ((rd_T49 l0 x39_2).f2))) (fun _ hk => hk.2) (.slice A277_3 ((rd_T49 l0 x39_2).f3).length c277_3)) (fun _ hk => hk.1.2)))⟩; have n1_ : Aside0 (w28.heap[gb278]? = some (.cells #[.int .i64 ((rd_T49 l0 x39_2).f0), .int .i64 ((rd_T49 l0 x39_2).f1), .int .i64 ((rd_T49 l0 x39_2).f2), .slice A277_3 ((rd_T49 l0 x39_2).f3).length c277_3] 49 (0, 0))) := ⟨(by rw [hw]; exact (by (with_reducible repeat (first | refine blk_drewN ?_ _ | refine blk_drew ?_ | refine blk_alloc ?_ _)); refine blk_put (cs := #[.int .i64 ((rd_T49 l0 x39_2).f0), .int .i64 ((rd_T49 l0 x39_2).f1), .int .i64 ((rd_T49 l0 x39_2).f2), .slice none 0 0]) ?_ 3 _ rfl; (with_reducible repeat (first | refine blk_drewN ?_ _ | refine blk_drew ?_ | refine blk_alloc ?_ _)); refine blk_put (cs := #[.int .i64 ((rd_T49 l0 x39_2).f0), .int .i64 ((rd_T49 l0 x39_2).f1), .int .i64 0, .slice none 0 0]) ?_ 2 _ rfl; (with_reducible repeat (first | refine blk_drewN ?_ _ | refine blk_drew ?_ | refine blk_alloc ?_ _)); refine blk_put (cs := #[.int .i64 ((rd_T49 l0 x39_2).f0), .int .i64 0, .int .i64 0, .slice none 0 0]) ?_ 1 _ rfl; (with_reducible repeat (first | refine blk_drewN ?_ _ | refine blk_drew ?_ | refine blk_alloc ?_ _)); refine blk_put (cs := #[.int .i64 0, .int .i64 0, .int .i64 0, .slice none 0 0]) ?_ 0 _ rfl; (with_reducible repeat (first | refine blk_drewN ?_ _ | refine blk_drew ?_ | refine blk_alloc ?_ _)); exact BK278.out))⟩; have n2_ : Aside0 (Below w.heap.size w w28) := ⟨(by rw [hw]; exact (by repeat (first | (with_reducible first | exact HB.out | apply below_alloc | apply pw_below_drewN | apply below_drew1 | refine below_set ?_ GE278.out) | exact HB.out)))⟩; clear hw; clear HO_6; clear BK278; clear HB; have HO_6 := n0_; have BK278 := n1_; have HB := n2_; clear n0_ n1_ n2_; have hcz29_0 : w28.cell? ⟨gb278, 0, none⟩ = some (.int .i64 ((rd_T49 l0 x39_2).f0)) := (blk_cell BK278.out 0).trans rfl; have hcz29_1 : w28.cell? ⟨gb278, 1, none⟩ = some (.int .i64 ((rd_T49 l0 x39_2).f1)) := (blk_cell BK278.out 1).trans rfl; have hcz29_2 : w28.cell? ⟨gb278, 2, none⟩ = some (.int .i64 ((rd_T49 l0 x39_2).f2)) := (blk_cell BK278.out 2).trans rfl; have hcz29_3 : w28.cell? ⟨gb278, 3, none⟩ = some (.slice A277_3 ((rd_T49 l0 x39_2).f3).length c277_3) := (blk_cell BK278.out 3).trans rfl; have hfz29_0 := blk_frozen BK278.out 0; have hfz29_1 := blk_frozen BK278.out 1; have hfz29_2 := blk_frozen BK278.out 2; have hfz29_3 := blk_frozen BK278.out 3) | ((with_reducible refine gate_store (t := 47) (p := 44) rfl ?_); refine store_event (t := 47) (p := 44) (v := ?vo_w30) (w1 := (w28.setCell ⟨gb278, 3, none⟩ (.slice none 0 0))) ?hg ?ho ?hn ?hr ?_; (case ho => rfl); (case hg => rfl); (case hn => rfl); (case hr => first | (go_simp; done) | (go_simp; rfl)); intro w30 hw; have n0_ : Aside0 (Kd.S k49 49 w30 w.heap.size (fun k_ => k_ ≠ gb278) v275 x6_2) := ⟨(by rw [hw]; exact (by (with_reducible repeat (first | apply Kd.S_alloc | apply Kd.S_drewN | apply Kd.S_drew)); exact Kd.S_mono (Kd.S_far (p := ⟨gb278, 3, none⟩) (Kd.S_mono HO_6.out (fun k_ hk => (⟨hk, hk⟩ : _ ∧ k_ ≠ gb278))) (fun _ hk => hk.2) (.slice none 0 0)) (fun _ hk => hk.1)))⟩; have n1_ : Aside0 (w30.heap[gb278]? = some (.cells #[.int .i64 ((rd_T49 l0 x39_2).f0), .int .i64 ((rd_T49 l0 x39_2).f1), .int .i64 ((rd_T49 l0 x39_2).f2), .slice none 0 0] 49 (0, 0))) := ⟨(by rw [hw]; exact (by (with_reducible repeat (first | refine blk_drewN ?_ _ | refine blk_drew ?_ | refine blk_alloc ?_ _)); refine blk_put (cs := #[.int .i64 ((rd_T49 l0 x39_2).f0), .int .i64 ((rd_T49 l0 x39_2).f1), .int .i64 ((rd_T49 l0 x39_2).f2), .slice A277_3 ((rd_T49 l0 x39_2).f3).length c277_3]) ?_ 3 _ rfl; (with_reducible repeat (first | refine blk_drewN ?_ _ | refine blk_drew ?_ | refine blk_alloc ?_ _)); exact BK278.out))⟩; have n2_ : Aside0 (Below w.heap.size w w30) := ⟨(by rw [hw]; exact (by repeat (first | (with_reducible first | exact HB.out | apply below_alloc | apply pw_below_drewN | apply below_drew1 | refine below_set ?_ GE278.out) | exact HB.out)))⟩; clear hw; clear HO_6; clear BK278; clear HB; have HO_6 := n0_; have BK278 := n1_; have HB := n2_; clear n0_ n1_ n2_; have hcz31_0 : w30.cell? ⟨gb278, 0, none⟩ = some (.int .i64 ((rd_T49 l0 x39_2).f0)) := (blk_cell BK278.out 0).trans rfl; have hcz31_1 : w30.cell? ⟨gb278, 1, none⟩ = some (.int .i64 ((rd_T49 l0 x39_2).f1)) := (blk_cell BK278.out 1).trans rfl; have hcz31_2 : w30.cell? ⟨gb278, 2, none⟩ = some (.int .i64 ((rd_T49 l0 x39_2).f2)) := (blk_cell BK278.out 2).trans rfl; have hcz31_3 : w30.cell? ⟨gb278, 3, none⟩ = some (.slice none 0 0) := (blk_cell BK278.out 3).trans rfl; have hfz31_0 := blk_frozen BK278.out 0; have hfz31_1 := blk_frozen BK278.out 1; have hfz31_2 := blk_frozen BK278.out 2; have hfz31_3 := blk_frozen BK278.out 3; have p25 : 0 ≤ (x39_2 : Int) := of_decide_eq_true (by first | (with_reducible assumption) | assumption); have q25 : (x39_2 : Int) < ((x6_2.length : Int) : Int) := of_decide_eq_true (by first | (with_reducible assumption) | assumption); obtain ⟨go25, co25, eo25, gb25, gl25, cl25, HG25⟩ := Kd.S_form HO_6.out (by omega); (first | cases eo25 | (injection eo25 with ea_ en_ ec_; (first | subst ea_ | (injection ea_ with ea_; subst ea_)); subst ec_; clear en_)); have GB25 := Aside0.mk gb25; have GG25 := Aside0.mk HG25; clear gb25 gl25 HG25; obtain ⟨_, ce25, hcl25, hM25, hcc25, hfr25, _, _⟩ := Kd.S_elem HO_6.out z49 (x39_2 : Int) p25 q25; obtain ⟨ve25_3, rfl, ge25_3⟩ := k49_openM hM25; have hx25_0 : w30.cell? ⟨go25, (x39_2 : Int).toNat * 4, none⟩ = some (.int .i64 ((rd_T49 x6_2 x39_2).f0)) := hcc25 0 _ rfl; have hx25_1 : w30.cell? ⟨go25, (x39_2 : Int).toNat * 4 + 1, none⟩ = some (.int .i64 ((rd_T49 x6_2 x39_2).f1)) := hcc25 1 _ rfl; have hx25_2 : w30.cell? ⟨go25, (x39_2 : Int).toNat * 4 + 2, none⟩ = some (.int .i64 ((rd_T49 x6_2 x39_2).f2)) := hcc25 2 _ rfl; have hx25_3 : w30.cell? ⟨go25, (x39_2 : Int).toNat * 4 + 3, none⟩ = some (ve25_3) := hcc25 3 _ rfl; have hf25_0 : w30.frozen? ⟨go25, (x39_2 : Int).toNat * 4, none⟩ = false := hfr25 0; have hf25_1 : w30.frozen? ⟨go25, (x39_2 : Int).toNat * 4 + 1, none⟩ = false := hfr25 1; have hf25_2 : w30.frozen? ⟨go25, (x39_2 : Int).toNat * 4 + 2, none⟩ = false := hfr25 2; have hf25_3 : w30.frozen? ⟨go25, (x39_2 : Int).toNat * 4 + 3, none⟩ = false := hfr25 3; clear hcl25 hcc25 hfr25 hM25; replace p25 := eq_true p25; replace q25 := eq_true q25; have HX32 := Aside0.mk (show Kd.S k49 49 w30 w.heap.size (fun k_ => ((fun k_ => k_ ≠ gb278)) k_ ∧ ¬ ((fun _ => False)) k_) (.slice (some ⟨go25, 0, none⟩) x6_2.length co25) x6_2 from (by (with_reducible repeat (first | apply Kd.S_alloc | apply Kd.S_drewN | apply Kd.S_drew)); exact Kd.S_mono HO_6.out (fun k_ hk => ⟨hk, fun e_ => e_⟩))); obtain ⟨oki32, ce32, hcl32, hM32, hcc32, hfr32, hoki32, hH32⟩ := Kd.S_elem HX32.out z49 (x39_2 : Int) (of_decide_eq_true (by first | (with_reducible assumption) | assumption)) (by have h_ : (x39_2 : Int) < ((x6_2.length : Int) : Int) := of_decide_eq_true (by first | (with_reducible assumption) | assumption); first | exact h_ | (have e_ := (Kd.S_reads' HO_6.out).1; omega) | simpa using h_); obtain ⟨ve32_3, rfl, ge32_3⟩ := k49_openM hM32; have HP32 := Kd.S_seg hH32 (of_decide_eq_true (by first | (with_reducible assumption) | assumption)) (by have h_ : (x39_2 : Int) < ((x6_2.length : Int) : Int) := of_decide_eq_true (by first | (with_reducible assumption) | assumption); first | exact h_ | (have e_ := (Kd.S_reads' HO_6.out).1; omega) | simpa using h_) (seg := [.int .i64 ((rd_T49 l0 x39_2).f0), .int .i64 ((rd_T49 l0 x39_2).f1), .int .i64 ((rd_T49 l0 x39_2).f2), .slice none 0 0]) (j := 0) (show 4 ≤ 4 from by decide) (x' := (⟨(rd_T49 l0 x39_2).f0, (rd_T49 l0 x39_2).f1, (rd_T49 l0 x39_2).f2, ([] : List (S68))⟩ : S49)) (k49_mkM _ _ _ (⟨(rd_T49 l0 x39_2).f0, (rd_T49 l0 x39_2).f1, (rd_T49 l0 x39_2).f2, ([] : List (S68))⟩ : S49) (Kd.R_nil _ _ _ _ _)) (fun _ hk => hk) (fun k_ hk_ => hk_.elim); have hx32_0 := hcc32 0 _ rfl; (try simp only [show (k49).sz = 4 from rfl, Nat.mul_one, Nat.add_zero] at hx32_0); have hf32_0 := hfr32 0; (try simp only [show (k49).sz = 4 from rfl, Nat.mul_one, Nat.add_zero] at hf32_0); have hx32_1 := hcc32 1 _ rfl; (try simp only [show (k49).sz = 4 from rfl, Nat.mul_one, Nat.add_zero] at hx32_1); have hf32_1 := hfr32 1; (try simp only [show (k49).sz = 4 from rfl, Nat.mul_one, Nat.add_zero] at hf32_1); have hx32_2 := hcc32 2 _ rfl; (try simp only [show (k49).sz = 4 from rfl, Nat.mul_one, Nat.add_zero] at hx32_2); have hf32_2 := hfr32 2; (try simp only [show (k49).sz = 4 from rfl, Nat.mul_one, Nat.add_zero] at hf32_2); have hx32_3 := hcc32 3 _ rfl; (try simp only [show (k49).sz = 4 from rfl, Nat.mul_one, Nat.add_zero] at hx32_3); have hf32_3 := hfr32 3; (try simp only [show (k49).sz = 4 from rfl, Nat.mul_one, Nat.add_zero] at hf32_3); clear hcl32 hcc32 hfr32 hM32 hoki32 hH32) | ((with_reducible refine gate_store (t := 49) (p := 48) rfl ?_); refine store_event (t := 49) (p := 48) (v := ?vo_w33) (w1 := ((((w30.setCell ⟨go25, (x39_2 : Int).toNat * 4, none⟩ (.int .i64 ((rd_T49 l0 x39_2).f0))).setCell ⟨go25, (x39_2 : Int).toNat * 4 + 1, none⟩ (.int .i64 ((rd_T49 l0 x39_2).f1))).setCell ⟨go25, (x39_2 : Int).toNat * 4 + 2, none⟩ (.int .i64 ((rd_T49 l0 x39_2).f2))).setCell ⟨go25, (x39_2 : Int).toNat * 4 + 3, none⟩ (.slice none 0 0))) ?hg ?ho ?hn ?hr ?_; (case ho => rfl); (case hg => rfl); (case hn => rfl); (case hr => first | (go_simp; done) | (go_simp; rfl)); intro w33 hw; have hg : w30.grownBy w33 (some go25) := (by rw [hw]; exact HP32.2); have hp_ : Kd.S k49 49 w33 w.heap.size (fun k_ => k_ ≠ gb278) (.slice (some ⟨go25, 0, none⟩) x6_2.length co25) y279 := (by rw [hw, Ny279.out]; exact HP32.1); clear HP32; have n0_ := Aside0.mk (hp_); have n1_ := Aside0.mk (blk_grown (g := gb278) (o := .cells #[.int .i64 ((rd_T49 l0 x39_2).f0), .int .i64 ((rd_T49 l0 x39_2).f1), .int .i64 ((rd_T49 l0 x39_2).f2), .slice none 0 0] 49 (0, 0)) (by (with_reducible repeat (first | refine blk_drewN ?_ _ | refine blk_drew ?_ | refine blk_alloc ?_ _)); exact BK278.out) hg (Kd.S_away HO_6.out (fun _ hk => hk))); have n2_ := Aside0.mk ((by rw [hw]; exact below_set (below_set (below_set (below_set (HB.out) GB25.out) GB25.out) GB25.out) GB25.out : Below w.heap.size w w33)); clear HO_6; clear BK278; clear HB; have HO_6 := n0_; have BK278 := n1_; have HB := n2_; clear n0_ n1_ n2_; clear hg hw hp_))
                            go_roundg k2
                            case measure => have := HJ4.out; have := HK2.out; omega
                            case rel => exact ⟨(y279), (wrap64 (x39_2 + 1)), (by first | rfl | (simp; done) | (simp [*]; done)), H', ⟨by have := HJ4.out; have := HK2.out; omega⟩, ⟨by (with_reducible repeat (first | apply Kd.S_alloc | apply Kd.S_drewN | apply Kd.S_drew)); exact Kd.S_mono HO_6.out (fun _ hk => trivial)⟩, ⟨by repeat (first | (with_reducible first | exact HB.out | apply below_alloc | apply pw_below_drewN | apply below_drew1 | refine below_set ?_ GE278.out) | exact HB.out)⟩⟩
                          · rw [if_neg c24] at H
                            exact absurd H (by simp)
                        · rw [if_neg c23] at H
                          exact absurd H (by simp)
                      · rw [if_neg c22] at H
                        exact absurd H (by simp)
                    · rw [if_neg c21] at H
                      have c21b0 : decide (x39_2 < (l0.length : Int)) = false := decide_eq_false c21
                      clear c21
                      replace H := Option.bind_eq_some_iff.mp H
                      obtain ⟨⟨t280, t281⟩, A340, H⟩ := H
                      replace H : (if 0 ≤ (wrap64 ((Int.tmod (wrap64 (a1)) (l0.length : Int)) + 1)) then (if (wrap64 ((Int.tmod (wrap64 (a1)) (l0.length : Int)) + 1)) ≤ (x6_2.length : Int) then ((response_Response.f k2 (x6_2.take ((wrap64 ((Int.tmod (wrap64 (a1)) (l0.length : Int)) + 1)) : Int).toNat) (Int.tmod (wrap64 (a1)) (l0.length : Int))).bind fun bt286 => ((response_Response.f k2 l0 (Int.tmod (wrap64 (a1)) (l0.length : Int))).bind fun bt288 => (if t280 = bt286.1 then (if t281 = bt286.2 then ((response_Blocking.f x6_2 (Int.tmod (wrap64 (a1)) (l0.length : Int))).bind fun t290 => (ontimelaw44_ResponseAbove.j2 k2 l0 (Int.tmod (wrap64 (a1)) (l0.length : Int)) t280 t281 bt288.1 bt288.2 (t290 != 0))) else (ontimelaw44_ResponseAbove.j2 k2 l0 (Int.tmod (wrap64 (a1)) (l0.length : Int)) t280 t281 bt288.1 bt288.2 true)) else (ontimelaw44_ResponseAbove.j2 k2 l0 (Int.tmod (wrap64 (a1)) (l0.length : Int)) t280 t281 bt288.1 bt288.2 true)))) else (none)) else (none)) = some r := H
                      have A34 := Aside0.mk A340
                      clear A340
                      obtain ⟨ji35, hji35⟩ : ∃ j_ : Int, (wrap64 ((Int.tmod (wrap64 (a1)) (l0.length : Int)) + 1)) = j_ := ⟨_, rfl⟩
                      replace H : (if 0 ≤ (ji35) then (if (ji35) ≤ (x6_2.length : Int) then ((response_Response.f k2 (x6_2.take ((ji35) : Int).toNat) (Int.tmod (wrap64 (a1)) (l0.length : Int))).bind fun bt286 => ((response_Response.f k2 l0 (Int.tmod (wrap64 (a1)) (l0.length : Int))).bind fun bt288 => (if t280 = bt286.1 then (if t281 = bt286.2 then ((response_Blocking.f x6_2 (Int.tmod (wrap64 (a1)) (l0.length : Int))).bind fun t290 => (ontimelaw44_ResponseAbove.j2 k2 l0 (Int.tmod (wrap64 (a1)) (l0.length : Int)) t280 t281 bt288.1 bt288.2 (t290 != 0))) else (ontimelaw44_ResponseAbove.j2 k2 l0 (Int.tmod (wrap64 (a1)) (l0.length : Int)) t280 t281 bt288.1 bt288.2 true)) else (ontimelaw44_ResponseAbove.j2 k2 l0 (Int.tmod (wrap64 (a1)) (l0.length : Int)) t280 t281 bt288.1 bt288.2 true)))) else (none)) else (none)) = some r := by first | (rw [hji35] at H; exact H) | (simp only [hji35] at H ⊢; exact H)
                      (try rw [hji35] at A34)
                      have hji35w : (IntKind.i64.wrap ((Int.tmod (wrap64 (a1)) (l0.length : Int)) + 1)) = ji35 := (i64_w _).trans hji35
                      by_cases c36 : 0 ≤ (ji35)
                      · rw [if_pos c36] at H
                        have c36b0 := eq_true c36
                        have c36b1 : decide (0 ≤ (ji35)) = true := decide_eq_true c36
                        clear c36
                        by_cases c37 : (ji35) ≤ (x6_2.length : Int)
                        · rw [if_pos c37] at H
                          have c37b0 := eq_true c37
                          have c37b1 : decide ((ji35) ≤ (x6_2.length : Int)) = true := decide_eq_true c37
                          clear c37
                          obtain ⟨y282, hy282⟩ : ∃ y_ : List (S49), y_ = (x6_2.take ((ji35) : Int).toNat) := ⟨_, rfl⟩
                          replace H : ((response_Response.f k2 y282 (Int.tmod (wrap64 (a1)) (l0.length : Int))).bind fun bt286 => ((response_Response.f k2 l0 (Int.tmod (wrap64 (a1)) (l0.length : Int))).bind fun bt288 => (if t280 = bt286.1 then (if t281 = bt286.2 then ((response_Blocking.f x6_2 (Int.tmod (wrap64 (a1)) (l0.length : Int))).bind fun t290 => (ontimelaw44_ResponseAbove.j2 k2 l0 (Int.tmod (wrap64 (a1)) (l0.length : Int)) t280 t281 bt288.1 bt288.2 (t290 != 0))) else (ontimelaw44_ResponseAbove.j2 k2 l0 (Int.tmod (wrap64 (a1)) (l0.length : Int)) t280 t281 bt288.1 bt288.2 true)) else (ontimelaw44_ResponseAbove.j2 k2 l0 (Int.tmod (wrap64 (a1)) (l0.length : Int)) t280 t281 bt288.1 bt288.2 true)))) = some r := by first | (rw [hy282]; with_reducible exact H) | (have H2_ := (Option.bind_some _ _).symm.trans H; rw [hy282]; with_reducible exact H2_) | (have H2_ := (Option.bind_some _ _).symm.trans H; with_reducible exact H2_) | with_reducible exact H | (rw [hy282]; exact H) | exact H
                          have Ny282 := Aside0.mk hy282
                          clear hy282
                          replace H := Option.bind_eq_some_iff.mp H
                          obtain ⟨⟨t286, t287⟩, A380, H⟩ := H
                          replace H : ((response_Response.f k2 l0 (Int.tmod (wrap64 (a1)) (l0.length : Int))).bind fun bt288 => (if t280 = t286 then (if t281 = t287 then ((response_Blocking.f x6_2 (Int.tmod (wrap64 (a1)) (l0.length : Int))).bind fun t290 => (ontimelaw44_ResponseAbove.j2 k2 l0 (Int.tmod (wrap64 (a1)) (l0.length : Int)) t280 t281 bt288.1 bt288.2 (t290 != 0))) else (ontimelaw44_ResponseAbove.j2 k2 l0 (Int.tmod (wrap64 (a1)) (l0.length : Int)) t280 t281 bt288.1 bt288.2 true)) else (ontimelaw44_ResponseAbove.j2 k2 l0 (Int.tmod (wrap64 (a1)) (l0.length : Int)) t280 t281 bt288.1 bt288.2 true))) = some r := H
                          have A38 := Aside0.mk A380
                          clear A380
                          replace H := Option.bind_eq_some_iff.mp H
                          obtain ⟨⟨t288, t289⟩, A390, H⟩ := H
                          replace H : (if t280 = t286 then (if t281 = t287 then ((response_Blocking.f x6_2 (Int.tmod (wrap64 (a1)) (l0.length : Int))).bind fun t290 => (ontimelaw44_ResponseAbove.j2 k2 l0 (Int.tmod (wrap64 (a1)) (l0.length : Int)) t280 t281 t288 t289 (t290 != 0))) else (ontimelaw44_ResponseAbove.j2 k2 l0 (Int.tmod (wrap64 (a1)) (l0.length : Int)) t280 t281 t288 t289 true)) else (ontimelaw44_ResponseAbove.j2 k2 l0 (Int.tmod (wrap64 (a1)) (l0.length : Int)) t280 t281 t288 t289 true)) = some r := H
                          have A39 := Aside0.mk A390
                          clear A390
                          have HC40 := Aside0.mk H
                          clear H
                          obtain ⟨Ao41, co41, eo41⟩ := Kd.S_slice HO_6.out
                          subst eo41
                          go_upto_region 16 with (first | ((with_reducible refine gate_callee (f := 23) rfl ?_); refine goesL_ (some 53) rfl rfl Try.func23 (by kernel_rfl) rfl #[.slice Ao41 x6_2.length co41, .int .i64 (Int.tmod (wrap64 (a1)) (l0.length : Int))] rfl (by (try simp only [List.map_toArray, List.map_cons, List.map_nil]); first | done | rfl | (simp only [List.length_drop, List.length_take]; rfl)) ?_; (with_reducible refine (response_Response.calls k2 _ _ x6_2 (Int.tmod (wrap64 (a1)) (l0.length : Int)) t280 t281 _ ?side1 ?side2 A34.out).mono ?_); (case side1 => repeat (first | exact (Kd.S_reads' HO_6.out).2.2 | (with_reducible refine Kd.C_alloc ?_ _) | (with_reducible refine Kd.C_drewN ?_ _) | (with_reducible refine Kd.C_drew ?_))); (case side2 => exact (Kd.S_reads' HO_6.out).2.1); rintro e w42 ⟨rfl, hb⟩; refine ⟨_, rfl, ?_⟩; have n0_ := Aside0.mk (Kd.S_below (by (with_reducible repeat (first | apply Kd.S_alloc | apply Kd.S_drewN | apply Kd.S_drew)); exact HO_6.out) hb); have n1_ := Aside0.mk (below_step (by repeat (first | (with_reducible first | exact HB.out | apply below_alloc | apply pw_below_drewN | apply below_drew1) | exact HB.out)) hb); clear HO_6; clear HB; have HO_6 := n0_; have HB := n1_; clear n0_ n1_; (try clear hb); (try clear hb2); (try clear hk); (try clear hi); have q43 : ((ji35) : Int) ≤ ((x6_2.length : Int) : Int) := of_decide_eq_true (by first | (with_reducible assumption) | assumption); obtain ⟨i043, hi043, _, hsz43, _⟩ := info_parts info49; have hroom43 : x6_2.length ≤ co41 := (Kd.S_reads' HO_6.out).2.1; have hC43 : Kd.C k49 _ Ao41 x6_2.length x6_2 := (Kd.S_reads' HO_6.out).2.2; have hcut43 := cut_to (P := Try.prog) 22 49 .i64 Try.underlying22 hi043 Ao41 x6_2.length co41 (ji35) (of_decide_eq_true (by first | (with_reducible assumption) | assumption)) q43 hroom43; have hr43 := Kd.C_take (m := ((ji35) : Int).toNat) hC43 (by omega); have hy43 : y282.length = ((ji35) : Int).toNat := (by rw [Ny282.out, List.length_take]; omega); rw [← Ny282.out] at hr43; rw [← hy43] at hcut43; have HR285 := Aside0.mk hr43; have HC285 := Aside0.mk (show y282.length ≤ co41 from by omega); clear hr43 hC43 hroom43 hi043 hsz43; have KY43 := Aside0.mk hy43; clear hy43; have KL43 := Aside0.mk (show ((ji35) : Int).toNat ≤ x6_2.length from by omega); replace q43 := eq_true q43) | ((with_reducible refine gate_callee (f := 23) rfl ?_); refine goesL_ (some 62) rfl rfl Try.func23 (by kernel_rfl) rfl #[.slice Ao41 y282.length co41, .int .i64 (Int.tmod (wrap64 (a1)) (l0.length : Int))] rfl (by (try simp only [List.map_toArray, List.map_cons, List.map_nil]); first | done | rfl | (simp only [List.length_drop, List.length_take]; rfl)) ?_; (with_reducible refine (response_Response.calls k2 _ _ y282 (Int.tmod (wrap64 (a1)) (l0.length : Int)) t286 t287 _ ?side1 ?side2 A38.out).mono ?_); (case side1 => repeat (first | exact (by repeat (first | (with_reducible exact HR285.out) | (with_reducible refine Kd.C_alloc ?_ _) | (with_reducible refine Kd.C_drewN ?_ _) | (with_reducible refine Kd.C_drew ?_) | exact HR285.out)) | (with_reducible refine Kd.C_alloc ?_ _) | (with_reducible refine Kd.C_drewN ?_ _) | (with_reducible refine Kd.C_drew ?_))); (case side2 => exact HC285.out); rintro e w44 ⟨rfl, hb⟩; refine ⟨_, rfl, ?_⟩; have n0_ := Aside0.mk (Kd.S_below (by (with_reducible repeat (first | apply Kd.S_alloc | apply Kd.S_drewN | apply Kd.S_drew)); exact HO_6.out) hb); have n1_ := Aside0.mk (Kd.C_below (by repeat (first | (with_reducible exact HR285.out) | (with_reducible refine Kd.C_alloc ?_ _) | (with_reducible refine Kd.C_drewN ?_ _) | (with_reducible refine Kd.C_drew ?_) | exact HR285.out)) hb); have n2_ := Aside0.mk (below_step (by repeat (first | (with_reducible first | exact HB.out | apply below_alloc | apply pw_below_drewN | apply below_drew1) | exact HB.out)) hb); clear HO_6; clear HR285; clear HB; have HO_6 := n0_; have HR285 := n1_; have HB := n2_; clear n0_ n1_ n2_; (try clear hb); (try clear hb2); (try clear hk); (try clear hi)) | ((with_reducible refine gate_callee (f := 23) rfl ?_); refine goesL_ (some 68) rfl rfl Try.func23 (by kernel_rfl) rfl #[.slice A0 l0.length c0, .int .i64 (Int.tmod (wrap64 (a1)) (l0.length : Int))] rfl (by (try simp only [List.map_toArray, List.map_cons, List.map_nil]); first | done | rfl | (simp only [List.length_drop, List.length_take]; rfl)) ?_; (with_reducible refine (response_Response.calls k2 _ _ l0 (Int.tmod (wrap64 (a1)) (l0.length : Int)) t288 t289 _ ?side1 ?side2 A39.out).mono ?_); (case side1 => repeat (first | exact (Kd.C_below HR0.out HB.out) | (with_reducible refine Kd.C_alloc ?_ _) | (with_reducible refine Kd.C_drewN ?_ _) | (with_reducible refine Kd.C_drew ?_))); (case side2 => exact HC0.out); rintro e w45 ⟨rfl, hb⟩; refine ⟨_, rfl, ?_⟩; have n0_ := Aside0.mk (Kd.S_below (by (with_reducible repeat (first | apply Kd.S_alloc | apply Kd.S_drewN | apply Kd.S_drew)); exact HO_6.out) hb); have n1_ := Aside0.mk (Kd.C_below (by repeat (first | (with_reducible exact HR285.out) | (with_reducible refine Kd.C_alloc ?_ _) | (with_reducible refine Kd.C_drewN ?_ _) | (with_reducible refine Kd.C_drew ?_) | exact HR285.out)) hb); have n2_ := Aside0.mk (below_step (by repeat (first | (with_reducible first | exact HB.out | apply below_alloc | apply pw_below_drewN | apply below_drew1) | exact HB.out)) hb); clear HO_6; clear HR285; clear HB; have HO_6 := n0_; have HR285 := n1_; have HB := n2_; clear n0_ n1_ n2_; (try clear hb); (try clear hb2); (try clear hk); (try clear hi)))
                          (try simp only [Act.put, List.setIfInBounds_toArray, List.set_cons_zero, List.set_cons_succ])
                          go_cut [84] (fun v84 wc => ∃ (kq : Nat) (x84_39 : Bool), v84 = .bool x84_39 ∧ Aside0 (ontimelaw44_ResponseAbove.j2 kq l0 (Int.tmod (wrap64 (a1)) (l0.length : Int)) t280 t281 t288 t289 x84_39 = some r) ∧ Aside0 (kq ≤ k2) ∧ Aside0 (Kd.C k49 wc Ao41 y282.length y282) ∧ Aside0 (Below w.heap.size w wc))
                          case first =>
                            have H := HC40.out
                            clear HC40
                            by_cases c46 : t280 = t286
                            · rw [if_pos c46] at H
                              have c46b0 : (t280 == t286) = true := beq_iff_eq.mpr c46
                              have c46b1 : (t280 != t286) = false := bne_eq_false_iff_eq.mpr c46
                              clear c46
                              (first | rw [c46b0] | (simp only [i64_w, i32_w]; rw [c46b0]) | skip)
                              by_cases c47 : t281 = t287
                              · rw [if_pos c47] at H
                                have c47b0 : (t281 == t287) = true := beq_iff_eq.mpr c47
                                have c47b1 : (t281 != t287) = false := bne_eq_false_iff_eq.mpr c47
                                clear c47
                                replace H := Option.bind_eq_some_iff.mp H
                                obtain ⟨t290, A480, H⟩ := H
                                replace H : (ontimelaw44_ResponseAbove.j2 k2 l0 (Int.tmod (wrap64 (a1)) (l0.length : Int)) t280 t281 t288 t289 (t290 != 0)) = some r := H
                                have A48 := Aside0.mk A480
                                clear A480
                                have H' := Aside0.mk H
                                clear H
                                go_wp2_with (first | (go_at_call 24; (with_reducible refine (response_Blocking.calls _ _ x6_2 (Int.tmod (wrap64 (a1)) (l0.length : Int)) t290 _ ?side1 ?side2 A48.out).mono ?_); (case side1 => repeat (first | exact (Kd.S_reads' HO_6.out).2.2 | (with_reducible refine Kd.C_alloc ?_ _) | (with_reducible refine Kd.C_drewN ?_ _) | (with_reducible refine Kd.C_drew ?_))); (case side2 => exact (Kd.S_reads' HO_6.out).2.1); rintro e w49 ⟨rfl, hb⟩; have n0_ := Aside0.mk (Kd.S_below (by (with_reducible repeat (first | apply Kd.S_alloc | apply Kd.S_drewN | apply Kd.S_drew)); exact HO_6.out) hb); have n1_ := Aside0.mk (Kd.C_below (by repeat (first | (with_reducible exact HR285.out) | (with_reducible refine Kd.C_alloc ?_ _) | (with_reducible refine Kd.C_drewN ?_ _) | (with_reducible refine Kd.C_drew ?_) | exact HR285.out)) hb); have n2_ := Aside0.mk (below_step (by repeat (first | (with_reducible first | exact HB.out | apply below_alloc | apply pw_below_drewN | apply below_drew1) | exact HB.out)) hb); clear HO_6; clear HR285; clear HB; have HO_6 := n0_; have HR285 := n1_; have HB := n2_; clear n0_ n1_ n2_; (try clear hb); (try clear hb2); (try clear hk); (try clear hi)))
                                go_meet
                                case rel => exact ⟨_, ((t290 != 0)), (by first | rfl | (simp; done) | (simp [*]; done)), H', ⟨by have := HJ4.out; have := HK2.out; first | omega | exact Nat.le_refl _⟩, ⟨by repeat (first | (with_reducible exact HR285.out) | (with_reducible refine Kd.C_alloc ?_ _) | (with_reducible refine Kd.C_drewN ?_ _) | (with_reducible refine Kd.C_drew ?_) | exact HR285.out)⟩, ⟨by repeat (first | (with_reducible first | exact HB.out | apply below_alloc | apply pw_below_drewN | apply below_drew1) | exact HB.out)⟩⟩
                              · rw [if_neg c47] at H
                                have c47b0 : (t281 == t287) = false := beq_eq_false_iff_ne.mpr c47
                                have c47b1 : (t281 != t287) = true := bne_iff_ne.mpr c47
                                have H' := Aside0.mk H
                                clear H
                                go_wp2
                                go_meet
                                case rel => exact ⟨_, (true), (by first | rfl | (simp; done) | (simp [*]; done)), H', ⟨by have := HJ4.out; have := HK2.out; first | omega | exact Nat.le_refl _⟩, ⟨by repeat (first | (with_reducible exact HR285.out) | (with_reducible refine Kd.C_alloc ?_ _) | (with_reducible refine Kd.C_drewN ?_ _) | (with_reducible refine Kd.C_drew ?_) | exact HR285.out)⟩, ⟨by repeat (first | (with_reducible first | exact HB.out | apply below_alloc | apply pw_below_drewN | apply below_drew1) | exact HB.out)⟩⟩
                            · rw [if_neg c46] at H
                              have c46b0 : (t280 == t286) = false := beq_eq_false_iff_ne.mpr c46
                              have c46b1 : (t280 != t286) = true := bne_iff_ne.mpr c46
                              (first | rw [c46b0] | (simp only [i64_w, i32_w]; rw [c46b0]) | skip)
                              have H' := Aside0.mk H
                              clear H
                              go_wp2
                              go_meet
                              case rel => exact ⟨_, (true), (by first | rfl | (simp; done) | (simp [*]; done)), H', ⟨by have := HJ4.out; have := HK2.out; first | omega | exact Nat.le_refl _⟩, ⟨by repeat (first | (with_reducible exact HR285.out) | (with_reducible refine Kd.C_alloc ?_ _) | (with_reducible refine Kd.C_drewN ?_ _) | (with_reducible refine Kd.C_drew ?_) | exact HR285.out)⟩, ⟨by repeat (first | (with_reducible first | exact HB.out | apply below_alloc | apply pw_below_drewN | apply below_drew1) | exact HB.out)⟩⟩
                          case rest =>
                            clear HC40
                            try clear c1
                            try clear c2
                            try clear p2
                            try clear q2
                            try clear hx2
                            try clear hf2
                            try clear c3
                            try clear hx3
                            try clear hf3
                            try clear c4
                            try clear q4
                            try clear p6
                            try clear c8
                            try clear c10
                            try clear c10b0
                            try clear c10b1
                            try clear c10b2
                            try clear c15
                            try clear c16
                            try clear c16b0
                            try clear c16b1
                            try clear c16b2
                            try clear c17
                            try clear c17b0
                            try clear c17b1
                            try clear c18
                            try clear c18b0
                            try clear c18b1
                            try clear c19
                            try clear c21
                            try clear c21b0
                            try clear c22
                            try clear c22b0
                            try clear c23
                            try clear c23b0
                            try clear c24
                            try clear c24b0
                            try clear c25
                            try clear p25
                            try clear q25
                            try clear hx25
                            try clear hf25
                            try clear c27
                            try clear p27
                            try clear q27
                            try clear hx27
                            try clear c32
                            try clear hx32
                            try clear hf32
                            try clear c36
                            try clear c36b0
                            try clear c36b1
                            try clear c37
                            try clear c37b0
                            try clear c37b1
                            try clear q43
                            try clear c46
                            try clear c46b0
                            try clear c46b1
                            try clear c47
                            try clear c47b0
                            try clear c47b1
                            try clear hcz27_0
                            try clear hcz27_1
                            try clear hcz27_2
                            try clear hcz27_3
                            try clear hcz29_0
                            try clear hcz29_1
                            try clear hcz29_2
                            try clear hcz29_3
                            try clear hcz31_0
                            try clear hcz31_1
                            try clear hcz31_2
                            try clear hcz31_3
                            try clear hfz27_0
                            try clear hfz27_1
                            try clear hfz27_2
                            try clear hfz27_3
                            try clear hfz29_0
                            try clear hfz29_1
                            try clear hfz29_2
                            try clear hfz29_3
                            try clear hfz31_0
                            try clear hfz31_1
                            try clear hfz31_2
                            try clear hfz31_3
                            try clear hx25_0
                            try clear hx25_1
                            try clear hx25_2
                            try clear hx25_3
                            try clear hx277_0
                            try clear hx277_1
                            try clear hx277_2
                            try clear hx277_3
                            try clear hx32_0
                            try clear hx32_1
                            try clear hx32_2
                            try clear hx32_3
                            try clear p2
                            try clear p25
                            try clear p277
                            try clear p6
                            try clear q25
                            try clear q277
                            try clear q43
                            obtain ⟨kq, x84_39, rfl, HA, HJ39, HR285, HB⟩ := hcut
                            cases kq with
                            | zero => exact absurd HA.out (by simp [ontimelaw44_ResponseAbove.j2])
                            | succ kj39 =>
                              have H := HA.out
                              clear HA
                              simp only [ontimelaw44_ResponseAbove.j2] at H
                              by_cases c50 : x84_39 = true
                              · subst c50
                                have H1 : (some false) = some r := by rw [if_pos rfl] at H; exact H
                                clear H
                                have H := H1
                                clear H1
                                obtain rfl := Option.some.inj H
                                go_wp2
                                go_ret
                                exact ⟨by first | rfl | (simp [errW_none, errW_some] <;> rfl) | (simp only [← hji35]; first | rfl | (simp [errW_none, errW_some] <;> rfl)) | (simp [*, errW_none, errW_some] <;> rfl), by repeat (first | (with_reducible first | exact HB.out | apply below_alloc | apply pw_below_drewN | apply below_drew1) | exact HB.out)⟩
                              · replace c50 := Bool.eq_false_iff.mpr c50
                                subst c50
                                have H1 : ((response_Blocking.f l0 (Int.tmod (wrap64 (a1)) (l0.length : Int))).bind fun t291 => (if t291 = 0 then (if t288 = t280 then (some (t289 == t281)) else (some false)) else (if t289 = 21 then (some true) else (if t281 = 0 then ((response_Blocking.f l0 (Int.tmod (wrap64 (a1)) (l0.length : Int))).bind fun t292 => (some (decide (t288 ≥ (wrap64 (t280 + t292)))))) else (some false))))) = some r := by rw [if_neg (show ¬ (false = true) by decide)] at H; exact H
                                clear H
                                have H := H1
                                clear H1
                                replace H := Option.bind_eq_some_iff.mp H
                                obtain ⟨t291, A510, H⟩ := H
                                replace H : (if t291 = 0 then (if t288 = t280 then (some (t289 == t281)) else (some false)) else (if t289 = 21 then (some true) else (if t281 = 0 then ((response_Blocking.f l0 (Int.tmod (wrap64 (a1)) (l0.length : Int))).bind fun t292 => (some (decide (t288 ≥ (wrap64 (t280 + t292)))))) else (some false)))) = some r := H
                                have A51 := Aside0.mk A510
                                clear A510
                                by_cases c52 : t291 = 0
                                · rw [if_pos c52] at H
                                  have c52b0 : (t291 == 0) = true := beq_iff_eq.mpr c52
                                  have c52b1 : (t291 != 0) = false := bne_eq_false_iff_eq.mpr c52
                                  clear c52
                                  by_cases c53 : t288 = t280
                                  · rw [if_pos c53] at H
                                    have c53b0 : (t288 == t280) = true := beq_iff_eq.mpr c53
                                    have c53b1 : (t288 != t280) = false := bne_eq_false_iff_eq.mpr c53
                                    clear c53
                                    obtain rfl := Option.some.inj H
                                    go_wp2_with (first | ((with_reducible refine gate_callee (f := 24) rfl ?_); refine goesL_ (some 87) rfl rfl Try.func24 (by kernel_rfl) rfl #[.slice A0 l0.length c0, .int .i64 (Int.tmod (wrap64 (a1)) (l0.length : Int))] rfl (by (try simp only [List.map_toArray, List.map_cons, List.map_nil]); first | done | rfl | (simp only [List.length_drop, List.length_take]; rfl)) ?_; (with_reducible refine (response_Blocking.calls _ _ l0 (Int.tmod (wrap64 (a1)) (l0.length : Int)) t291 _ ?side1 ?side2 A51.out).mono ?_); (case side1 => repeat (first | exact (Kd.C_below HR0.out HB.out) | (with_reducible refine Kd.C_alloc ?_ _) | (with_reducible refine Kd.C_drewN ?_ _) | (with_reducible refine Kd.C_drew ?_))); (case side2 => exact HC0.out); rintro e w54 ⟨rfl, hb⟩; refine ⟨_, rfl, ?_⟩; have n0_ := Aside0.mk (Kd.C_below (by repeat (first | (with_reducible exact HR285.out) | (with_reducible refine Kd.C_alloc ?_ _) | (with_reducible refine Kd.C_drewN ?_ _) | (with_reducible refine Kd.C_drew ?_) | exact HR285.out)) hb); have n1_ := Aside0.mk (below_step (by repeat (first | (with_reducible first | exact HB.out | apply below_alloc | apply pw_below_drewN | apply below_drew1) | exact HB.out)) hb); clear HR285; clear HB; have HR285 := n0_; have HB := n1_; clear n0_ n1_; (try clear hb); (try clear hb2); (try clear hk); (try clear hi)))
                                    go_ret
                                    exact ⟨by first | rfl | (simp [errW_none, errW_some] <;> rfl) | (simp only [← hji35]; first | rfl | (simp [errW_none, errW_some] <;> rfl)) | (simp [*, errW_none, errW_some] <;> rfl), by repeat (first | (with_reducible first | exact HB.out | apply below_alloc | apply pw_below_drewN | apply below_drew1) | exact HB.out)⟩
                                  · rw [if_neg c53] at H
                                    have c53b0 : (t288 == t280) = false := beq_eq_false_iff_ne.mpr c53
                                    have c53b1 : (t288 != t280) = true := bne_iff_ne.mpr c53
                                    obtain rfl := Option.some.inj H
                                    go_wp2_with (first | ((with_reducible refine gate_callee (f := 24) rfl ?_); refine goesL_ (some 87) rfl rfl Try.func24 (by kernel_rfl) rfl #[.slice A0 l0.length c0, .int .i64 (Int.tmod (wrap64 (a1)) (l0.length : Int))] rfl (by (try simp only [List.map_toArray, List.map_cons, List.map_nil]); first | done | rfl | (simp only [List.length_drop, List.length_take]; rfl)) ?_; (with_reducible refine (response_Blocking.calls _ _ l0 (Int.tmod (wrap64 (a1)) (l0.length : Int)) t291 _ ?side1 ?side2 A51.out).mono ?_); (case side1 => repeat (first | exact (Kd.C_below HR0.out HB.out) | (with_reducible refine Kd.C_alloc ?_ _) | (with_reducible refine Kd.C_drewN ?_ _) | (with_reducible refine Kd.C_drew ?_))); (case side2 => exact HC0.out); rintro e w55 ⟨rfl, hb⟩; refine ⟨_, rfl, ?_⟩; have n0_ := Aside0.mk (Kd.C_below (by repeat (first | (with_reducible exact HR285.out) | (with_reducible refine Kd.C_alloc ?_ _) | (with_reducible refine Kd.C_drewN ?_ _) | (with_reducible refine Kd.C_drew ?_) | exact HR285.out)) hb); have n1_ := Aside0.mk (below_step (by repeat (first | (with_reducible first | exact HB.out | apply below_alloc | apply pw_below_drewN | apply below_drew1) | exact HB.out)) hb); clear HR285; clear HB; have HR285 := n0_; have HB := n1_; clear n0_ n1_; (try clear hb); (try clear hb2); (try clear hk); (try clear hi)))
                                    go_ret
                                    exact ⟨by first | rfl | (simp [errW_none, errW_some] <;> rfl) | (simp only [← hji35]; first | rfl | (simp [errW_none, errW_some] <;> rfl)) | (simp [*, errW_none, errW_some] <;> rfl), by repeat (first | (with_reducible first | exact HB.out | apply below_alloc | apply pw_below_drewN | apply below_drew1) | exact HB.out)⟩
                                · rw [if_neg c52] at H
                                  have c52b0 : (t291 == 0) = false := beq_eq_false_iff_ne.mpr c52
                                  have c52b1 : (t291 != 0) = true := bne_iff_ne.mpr c52
                                  by_cases c56 : t289 = 21
                                  · rw [if_pos c56] at H
                                    have c56b0 : (t289 == 21) = true := beq_iff_eq.mpr c56
                                    have c56b1 : (t289 != 21) = false := bne_eq_false_iff_eq.mpr c56
                                    clear c56
                                    obtain rfl := Option.some.inj H
                                    go_wp2_with (first | ((with_reducible refine gate_callee (f := 24) rfl ?_); refine goesL_ (some 87) rfl rfl Try.func24 (by kernel_rfl) rfl #[.slice A0 l0.length c0, .int .i64 (Int.tmod (wrap64 (a1)) (l0.length : Int))] rfl (by (try simp only [List.map_toArray, List.map_cons, List.map_nil]); first | done | rfl | (simp only [List.length_drop, List.length_take]; rfl)) ?_; (with_reducible refine (response_Blocking.calls _ _ l0 (Int.tmod (wrap64 (a1)) (l0.length : Int)) t291 _ ?side1 ?side2 A51.out).mono ?_); (case side1 => repeat (first | exact (Kd.C_below HR0.out HB.out) | (with_reducible refine Kd.C_alloc ?_ _) | (with_reducible refine Kd.C_drewN ?_ _) | (with_reducible refine Kd.C_drew ?_))); (case side2 => exact HC0.out); rintro e w57 ⟨rfl, hb⟩; refine ⟨_, rfl, ?_⟩; have n0_ := Aside0.mk (Kd.C_below (by repeat (first | (with_reducible exact HR285.out) | (with_reducible refine Kd.C_alloc ?_ _) | (with_reducible refine Kd.C_drewN ?_ _) | (with_reducible refine Kd.C_drew ?_) | exact HR285.out)) hb); have n1_ := Aside0.mk (below_step (by repeat (first | (with_reducible first | exact HB.out | apply below_alloc | apply pw_below_drewN | apply below_drew1) | exact HB.out)) hb); clear HR285; clear HB; have HR285 := n0_; have HB := n1_; clear n0_ n1_; (try clear hb); (try clear hb2); (try clear hk); (try clear hi)))
                                    go_ret
                                    exact ⟨by first | rfl | (simp [errW_none, errW_some] <;> rfl) | (simp only [← hji35]; first | rfl | (simp [errW_none, errW_some] <;> rfl)) | (simp [*, errW_none, errW_some] <;> rfl), by repeat (first | (with_reducible first | exact HB.out | apply below_alloc | apply pw_below_drewN | apply below_drew1) | exact HB.out)⟩
                                  · rw [if_neg c56] at H
                                    have c56b0 : (t289 == 21) = false := beq_eq_false_iff_ne.mpr c56
                                    have c56b1 : (t289 != 21) = true := bne_iff_ne.mpr c56
                                    by_cases c58 : t281 = 0
                                    · rw [if_pos c58] at H
                                      have c58b0 : (t281 == 0) = true := beq_iff_eq.mpr c58
                                      have c58b1 : (t281 != 0) = false := bne_eq_false_iff_eq.mpr c58
                                      clear c58
                                      replace H := Option.bind_eq_some_iff.mp H
                                      obtain ⟨t292, A590, H⟩ := H
                                      replace H : (some (decide (t288 ≥ (wrap64 (t280 + t292))))) = some r := H
                                      have A59 := Aside0.mk A590
                                      clear A590
                                      obtain rfl := Option.some.inj H
                                      go_wp2_with (first | ((with_reducible refine gate_callee (f := 24) rfl ?_); refine goesL_ (some 87) rfl rfl Try.func24 (by kernel_rfl) rfl #[.slice A0 l0.length c0, .int .i64 (Int.tmod (wrap64 (a1)) (l0.length : Int))] rfl (by (try simp only [List.map_toArray, List.map_cons, List.map_nil]); first | done | rfl | (simp only [List.length_drop, List.length_take]; rfl)) ?_; (with_reducible refine (response_Blocking.calls _ _ l0 (Int.tmod (wrap64 (a1)) (l0.length : Int)) t291 _ ?side1 ?side2 A51.out).mono ?_); (case side1 => repeat (first | exact (Kd.C_below HR0.out HB.out) | (with_reducible refine Kd.C_alloc ?_ _) | (with_reducible refine Kd.C_drewN ?_ _) | (with_reducible refine Kd.C_drew ?_))); (case side2 => exact HC0.out); rintro e w60 ⟨rfl, hb⟩; refine ⟨_, rfl, ?_⟩; have n0_ := Aside0.mk (Kd.C_below (by repeat (first | (with_reducible exact HR285.out) | (with_reducible refine Kd.C_alloc ?_ _) | (with_reducible refine Kd.C_drewN ?_ _) | (with_reducible refine Kd.C_drew ?_) | exact HR285.out)) hb); have n1_ := Aside0.mk (below_step (by repeat (first | (with_reducible first | exact HB.out | apply below_alloc | apply pw_below_drewN | apply below_drew1) | exact HB.out)) hb); clear HR285; clear HB; have HR285 := n0_; have HB := n1_; clear n0_ n1_; (try clear hb); (try clear hb2); (try clear hk); (try clear hi)) | (go_at_call 24; (with_reducible refine (response_Blocking.calls _ _ l0 (Int.tmod (wrap64 (a1)) (l0.length : Int)) t292 _ ?side1 ?side2 A59.out).mono ?_); (case side1 => repeat (first | exact (Kd.C_below HR0.out HB.out) | (with_reducible refine Kd.C_alloc ?_ _) | (with_reducible refine Kd.C_drewN ?_ _) | (with_reducible refine Kd.C_drew ?_))); (case side2 => exact HC0.out); rintro e w61 ⟨rfl, hb⟩; have n0_ := Aside0.mk (Kd.C_below (by repeat (first | (with_reducible exact HR285.out) | (with_reducible refine Kd.C_alloc ?_ _) | (with_reducible refine Kd.C_drewN ?_ _) | (with_reducible refine Kd.C_drew ?_) | exact HR285.out)) hb); have n1_ := Aside0.mk (below_step (by repeat (first | (with_reducible first | exact HB.out | apply below_alloc | apply pw_below_drewN | apply below_drew1) | exact HB.out)) hb); clear HR285; clear HB; have HR285 := n0_; have HB := n1_; clear n0_ n1_; (try clear hb); (try clear hb2); (try clear hk); (try clear hi)))
                                      go_ret
                                      exact ⟨by first | rfl | (simp [errW_none, errW_some] <;> rfl) | (simp only [← hji35]; first | rfl | (simp [errW_none, errW_some] <;> rfl)) | (simp [*, errW_none, errW_some] <;> rfl), by repeat (first | (with_reducible first | exact HB.out | apply below_alloc | apply pw_below_drewN | apply below_drew1) | exact HB.out)⟩
                                    · rw [if_neg c58] at H
                                      have c58b0 : (t281 == 0) = false := beq_eq_false_iff_ne.mpr c58
                                      have c58b1 : (t281 != 0) = true := bne_iff_ne.mpr c58
                                      obtain rfl := Option.some.inj H
                                      go_wp2_with (first | ((with_reducible refine gate_callee (f := 24) rfl ?_); refine goesL_ (some 87) rfl rfl Try.func24 (by kernel_rfl) rfl #[.slice A0 l0.length c0, .int .i64 (Int.tmod (wrap64 (a1)) (l0.length : Int))] rfl (by (try simp only [List.map_toArray, List.map_cons, List.map_nil]); first | done | rfl | (simp only [List.length_drop, List.length_take]; rfl)) ?_; (with_reducible refine (response_Blocking.calls _ _ l0 (Int.tmod (wrap64 (a1)) (l0.length : Int)) t291 _ ?side1 ?side2 A51.out).mono ?_); (case side1 => repeat (first | exact (Kd.C_below HR0.out HB.out) | (with_reducible refine Kd.C_alloc ?_ _) | (with_reducible refine Kd.C_drewN ?_ _) | (with_reducible refine Kd.C_drew ?_))); (case side2 => exact HC0.out); rintro e w62 ⟨rfl, hb⟩; refine ⟨_, rfl, ?_⟩; have n0_ := Aside0.mk (Kd.C_below (by repeat (first | (with_reducible exact HR285.out) | (with_reducible refine Kd.C_alloc ?_ _) | (with_reducible refine Kd.C_drewN ?_ _) | (with_reducible refine Kd.C_drew ?_) | exact HR285.out)) hb); have n1_ := Aside0.mk (below_step (by repeat (first | (with_reducible first | exact HB.out | apply below_alloc | apply pw_below_drewN | apply below_drew1) | exact HB.out)) hb); clear HR285; clear HB; have HR285 := n0_; have HB := n1_; clear n0_ n1_; (try clear hb); (try clear hb2); (try clear hk); (try clear hi)))
                                      go_ret
                                      exact ⟨by first | rfl | (simp [errW_none, errW_some] <;> rfl) | (simp only [← hji35]; first | rfl | (simp [errW_none, errW_some] <;> rfl)) | (simp [*, errW_none, errW_some] <;> rfl), by repeat (first | (with_reducible first | exact HB.out | apply below_alloc | apply pw_below_drewN | apply below_drew1) | exact HB.out)⟩
                        · rw [if_neg c37] at H
                          exact absurd H (by simp)
                      · rw [if_neg c36] at H
                        exact absurd H (by simp)
              · rw [if_neg c18] at H
                exact absurd H (by simp)
            · rw [if_neg c17] at H
              exact absurd H (by simp)
  · replace c4 := Bool.eq_false_iff.mpr c4
    subst c4
    have H1 : (some false) = some r := by rw [if_neg (show ¬ (false = true) by decide)] at H; exact H
    clear H
    have H := H1
    clear H1
    obtain rfl := Option.some.inj H
    go_enter Try.func8, Try.ntmps8
    go_wp2_with (first | ((with_reducible refine gate_callee (f := 18) rfl ?_); refine goesL_ (some 15) rfl rfl Try.func18 (by kernel_rfl) rfl #[] rfl (by (try simp only [List.map_toArray, List.map_cons, List.map_nil]); first | done | rfl | (simp only [List.length_drop, List.length_take]; rfl)) ?_; (with_reducible refine (ontimelaw44_awake.calls k  false _ A3.out).mono ?_); rintro e w63 ⟨rfl, hb⟩; refine ⟨_, rfl, ?_⟩; have n0_ := Aside0.mk (below_step (by repeat (first | (with_reducible first | exact HB.out | apply below_alloc | apply pw_below_drewN | apply below_drew1) | exact HB.out)) hb); clear HB; have HB := n0_; clear n0_; (try clear hb); (try clear hb2); (try clear hk); (try clear hi)))
    go_ret
    exact ⟨by first | rfl | (simp [errW_none, errW_some] <;> rfl) | (simp [*, errW_none, errW_some] <;> rfl), by repeat (first | (with_reducible first | exact HB.out | apply below_alloc | apply pw_below_drewN | apply below_drew1) | exact HB.out)⟩

end Go.Proofs.Ytbhmaijmdkpmlaa.P
