-- Written by wip/gen.py: the kit's print, with contracts of mine in it.
import Derived.Test.YtbhmaijmdkpmlaaPx0
import Derived.Test.YtbhmaijmdkpmlaaPx4
import Derived.Test.YtbhmaijmdkpmlaaPx5
namespace Go.Proofs.Ytbhmaijmdkpmlaa.P
open Go.RowKit Go.Proofs.YtbhmaijmdkpmlaaW.PrintWords Go.Proofs.YtbhmaijmdkpmlaaW.PrintLast Go.Proofs.YtbhmaijmdkpmlaaW.PrintMore
attribute [local go_sem] max2_int min2_int max_two min_two max_three min_three max_four min_four   -- for this text's walks alone
set_option linter.unusedVariables false
set_option linter.unusedSimpArgs false

/-! ### ceiling_Valid: function 20, by hand -/
-- HAND rounds 0
/-- A task's sections, one behind the other, from an end on. -/
def cv_sec (cost : Int) : Int → List S68 → Bool
  | _, [] => true
  | e, s :: ss => decide (e ≤ s.f1) && (decide (s.f1 < s.f2) && (decide (s.f2 ≤ cost) && (decide (0 ≤ s.f0 ∧ s.f0 ≤ 1000) && cv_sec cost s.f2 ss)))
def cv_task (t : S49) : Bool := decide (1 ≤ t.f0 ∧ t.f0 ≤ 1000 ∧ 1 ≤ t.f1 ∧ t.f1 ≤ 1000 ∧ 1 ≤ t.f2 ∧ t.f2 ≤ t.f1 ∧ t.f3.length ≤ 8) && cv_sec t.f0 0 t.f3
def cv_valid (l : List S49) : Bool := decide (l.length ≤ 20) && l.all cv_task
def ceiling_Valid.f (l0 : List (S49)) : Option (Bool) := some (cv_valid l0)

theorem cv_between (a b c : Int) : ceiling_between.f a b c = some (decide (b ≤ a ∧ a ≤ c)) := by
  unfold ceiling_between.f
  by_cases h : a ≥ b
  · rw [if_pos h]
    congr 1
    exact decide_eq_decide.2 ⟨fun h2 => ⟨h, h2⟩, fun h2 => h2.2⟩
  · rw [if_neg h, decide_eq_false (fun h2 => h h2.1)]
theorem cv_wrap {x : Int} (h0 : -9223372036854775808 ≤ x) (h1 : x ≤ 9223372036854775807) : wrap64 x = x := by unfold wrap64; omega
theorem rd68_at (ss : List S68) (i : Nat) (hi : i < ss.length) : rd_T68 ss (i : Int) = ss[i] := by
  unfold rd_T68
  rw [Int.toNat_natCast, List.getD_eq_getElem?_getD, List.getElem?_eq_getElem hi]
  rfl
theorem rd49_at (ss : List S49) (i : Nat) (hi : i < ss.length) : rd_T49 ss (i : Int) = ss[i] := by
  unfold rd_T49
  rw [Int.toNat_natCast, List.getD_eq_getElem?_getD, List.getElem?_eq_getElem hi]
  rfl
theorem cv_loop (ss : List S68) (cost p dl : Int) (xs : List S68) (hs : ss.length ≤ 8) (d : Nat) : ∀ (k i : Nat) (e : Int), d < k → ss.length - i = d → i ≤ ss.length →
    ceiling_Task_valid.l0 k e ss (ss.length : Int) (i : Int) cost p dl xs = some (cv_sec cost e (ss.drop i)) := by
  induction d with
  | zero =>
    intro k i e hk h1 h2
    obtain ⟨k, rfl⟩ : ∃ m, k = m + 1 := ⟨k - 1, by omega⟩
    simp only [ceiling_Task_valid.l0]
    rw [if_neg (by omega), List.drop_of_length_le (by omega)]
    rfl
  | succ d ih =>
    intro k i e hk h1 h2
    obtain ⟨k, rfl⟩ : ∃ m, k = m + 1 := ⟨k - 1, by omega⟩
    have hi : i < ss.length := by omega
    simp only [ceiling_Task_valid.l0]
    rw [if_pos (by omega), if_pos (by omega), if_pos (by omega), rd68_at ss i hi, List.drop_eq_getElem_cons hi]
    simp only [cv_sec]
    rw [cv_between, Option.bind_some, cv_wrap (x := (i : Int) + 1) (by omega) (by omega), show ((i : Int) + 1) = ((i + 1 : Nat) : Int) by omega, ih k (i + 1) _ (by omega) (by omega) (by omega)]
    by_cases c1 : (ss[i]).f1 < e
    · rw [if_pos c1, decide_eq_false (by omega)]; rfl
    rw [if_neg c1, decide_eq_true (show e ≤ (ss[i]).f1 by omega)]
    by_cases c2 : (ss[i]).f1 ≥ (ss[i]).f2
    · rw [if_pos c2, decide_eq_false (show ¬ (ss[i]).f1 < (ss[i]).f2 by omega)]; rfl
    rw [if_neg c2, decide_eq_true (show (ss[i]).f1 < (ss[i]).f2 by omega)]
    by_cases c3 : (ss[i]).f2 > cost
    · rw [if_pos c3, decide_eq_false (show ¬ (ss[i]).f2 ≤ cost by omega)]; rfl
    rw [if_neg c3, decide_eq_true (show (ss[i]).f2 ≤ cost by omega)]
    by_cases c4 : 0 ≤ (ss[i]).f0 ∧ (ss[i]).f0 ≤ 1000
    · rw [decide_eq_true c4]; rfl
    · rw [decide_eq_false c4]; rfl
theorem cv_task_eval (t : S49) : ceiling_Task_valid.f 11 t.f0 t.f1 t.f2 t.f3 = some (cv_task t) := by
  have skip : ceiling_Task_valid.j0 11 true t.f0 t.f1 t.f2 t.f3 = some false := rfl
  unfold ceiling_Task_valid.f
  rw [cv_between, Option.bind_some, cv_between, Option.bind_some, cv_between, Option.bind_some]
  unfold cv_task
  by_cases c1 : 1 ≤ t.f0 ∧ t.f0 ≤ 1000
  · rw [if_pos (decide_eq_true c1)]
    by_cases c2 : 1 ≤ t.f1 ∧ t.f1 ≤ 1000
    · rw [if_pos (decide_eq_true c2)]
      by_cases c3 : 1 ≤ t.f2 ∧ t.f2 ≤ t.f1
      · rw [if_pos (decide_eq_true c3)]
        by_cases c4 : t.f3.length ≤ 8
        · rw [decide_eq_false (show ¬ ((t.f3.length : Int) > 8) by omega), decide_eq_true (show 1 ≤ t.f0 ∧ t.f0 ≤ 1000 ∧ 1 ≤ t.f1 ∧ t.f1 ≤ 1000 ∧ 1 ≤ t.f2 ∧ t.f2 ≤ t.f1 ∧ t.f3.length ≤ 8 from ⟨c1.1, c1.2, c2.1, c2.2, c3.1, c3.2, c4⟩)]
          simp only [ceiling_Task_valid.j0]
          rw [if_neg (by decide), Bool.true_and]
          exact cv_loop t.f3 t.f0 t.f1 t.f2 t.f3 c4 t.f3.length 10 0 0 (by omega) rfl (Nat.zero_le _)
        · rw [decide_eq_true (show ((t.f3.length : Int) > 8) by omega), decide_eq_false (fun h => c4 h.2.2.2.2.2.2)]
          exact skip
      · rw [if_neg (by rw [decide_eq_false c3]; decide), decide_eq_false (fun h => c3 ⟨h.2.2.2.2.1, h.2.2.2.2.2.1⟩)]
        exact skip
    · rw [if_neg (by rw [decide_eq_false c2]; decide), decide_eq_false (fun h => c2 ⟨h.2.2.1, h.2.2.2.1⟩)]
      exact skip
  · rw [if_neg (by rw [decide_eq_false c1]; decide), decide_eq_false (fun h => c1 ⟨h.1, h.2.1⟩)]
    exact skip

set_option maxHeartbeats 4000000 in
set_option maxRecDepth 100000 in
/-- The predicate of Valid: is a task not valid? -/
theorem cv_closure (t : S49) (A : Option Addr) (c : Nat) (w : World) (hr : Kd.C k68 w A t.f3.length t.f3) (hc : t.f3.length ≤ c) :
    Calls Try.prog 46 #[.agg #[.int .i64 t.f0, .int .i64 t.f1, .int .i64 t.f2, .slice A t.f3.length c]] w fun e w' => e = .returned (.bool (!cv_task t)) ∧ Below w.heap.size w w' := by
  have hu49 := Try.underlying49
  have HR := Aside0.mk hr
  have HC := Aside0.mk hc
  have HE := Aside0.mk (cv_task_eval t)
  have HB0 := Aside0.mk (below_alloc (Below.refl w.heap.size w) (.cells #[.int .i64 t.f0, .int .i64 t.f1, .int .i64 t.f2, .slice A t.f3.length c] 49))
  clear hr hc
  generalize cv_task t = R at *
  go_enter Try.func46, Try.ntmps46
  go_wp2_with fail
  refine (ceiling_Task_valid.calls 11 _ _ _ A c t.f3 R _ (Kd.C_alloc HR.out _) HC.out HE.out).mono ?_
  rintro e w1 ⟨rfl, hb⟩
  have HB1 := Aside0.mk (below_step HB0.out hb)
  clear hb
  go_wp2
  go_ret
  exact ⟨by first | rfl | (simp; done), HB1.out⟩

/-- What the search for a task that is not valid hands back. -/
def IdxEnds (l : List S49) (e : Ending) : Prop := ∃ n : Int, e = .returned (.int .i64 n) ∧ decide (0 ≤ n) = !l.all cv_task

set_option maxHeartbeats 4000000 in
set_option maxRecDepth 100000 in
theorem cv_index (A0 : Option Addr) (c0 : Nat) (l0 : List (S49)) (w : World) (hr0 : Kd.C k49 w A0 l0.length l0) (hc0 : l0.length ≤ c0) :
    Calls Try.prog 61 #[.slice A0 l0.length c0, .func (.func 46) #[] #[]] w fun e w' => IdxEnds l0 e ∧ Below w.heap.size w w' := by
  have hu49 := Try.underlying49
  have hmax := Kd.C_max hr0
  have HR := Aside0.mk hr0
  have HC := Aside0.mk hc0
  have HB0 := Aside0.mk (Below.refl w.heap.size w)
  clear hr0 hc0
  go_enter Try.func61, Try.ntmps61
  go_wp2
  go_loopg [8] l0.length (fun kx s8 wr => ∃ m : Nat, s8 = .int .i64 m ∧ m ≤ l0.length ∧ l0.length - m ≤ kx ∧ Aside0 (Below w.heap.size w wr) ∧ Aside0 (∀ t : Nat, t < m → cv_task (rd_T49 l0 (t : Int)) = true))
  case atStart => exact ⟨0, rfl, Nat.zero_le _, by omega, HB0, ⟨fun t ht => absurd ht (Nat.not_lt_zero _)⟩⟩
  case round =>
    obtain ⟨m, rfl, hm, hg, HB, I⟩ := hrel
    by_cases hlt : m < l0.length
    · obtain ⟨ad, A3, c3, rfl, e0, e1, e2, e3, hl3, hr3⟩ := at_T49 (Kd.C_below HR.out HB.out) (m : Int) (by omega) (by omega)
      rw [Int.toNat_natCast] at e0 e1 e2 e3
      have HT := Aside0.mk (show cv_task (rd_T49 l0 (m : Int)) = true → ∀ t : Nat, t < m + 1 → cv_task (rd_T49 l0 (t : Int)) = true from fun h t ht => by
        by_cases e : t = m
        · rw [e]; exact h
        · exact I.out t (by omega))
      have HM := Aside0.mk (show l0.all cv_task = true → cv_task (rd_T49 l0 (m : Int)) = true from fun h => by
        rw [List.all_eq_true] at h
        rw [rd49_at l0 m hlt]
        exact h _ (List.getElem_mem _))
      have HV := Aside0.mk (cv_closure (rd_T49 l0 (m : Int)) A3 c3 wr hr3 hl3)
      clear hr3 hl3
      generalize rd_T49 l0 (m : Int) = T at *
      rcases hT : cv_task T with _ | _
      · rw [hT] at HV
        have HN := Aside0.mk (show l0.all cv_task = false from by
          cases h : l0.all cv_task
          · rfl
          · have := HM.out h; rw [hT] at this; cases this)
        clear hT HM HT
        go_wp2_with fail
        refine HV.out.mono ?_
        rintro e w1 ⟨rfl, hb⟩
        have HB1 := Aside0.mk (below_step HB.out hb)
        clear hb
        go_wp2
        go_ret
        exact ⟨⟨m, by first | rfl | (simp; done), by rw [HN.out]; exact decide_eq_true (by omega)⟩, HB1.out⟩
      · rw [hT] at HV
        have HI := Aside0.mk (HT.out hT)
        clear hT HM HT
        go_wp2_with fail
        refine HV.out.mono ?_
        rintro e w1 ⟨rfl, hb⟩
        have HB1 := Aside0.mk (below_step HB.out hb)
        clear hb
        go_wp2
        go_roundg (l0.length - (m + 1))
        case measure => omega
        case rel => exact ⟨m + 1, by first | rfl | (simp; done), by omega, Nat.le_refl _, HB1, HI⟩
    · obtain rfl : m = l0.length := by omega
      have HN := Aside0.mk (show l0.all cv_task = true from by
        rw [List.all_eq_true]
        intro t ht
        obtain ⟨i, hi, rfl⟩ := List.getElem_of_mem ht
        have := I.out i hi
        rw [rd49_at l0 i hi] at this
        exact this)
      go_wp2
      go_ret
      exact ⟨⟨-1, by first | rfl | (simp; done), by rw [HN.out]; rfl⟩, HB.out⟩

set_option maxHeartbeats 4000000 in
set_option maxRecDepth 100000 in
theorem cv_contains (A0 : Option Addr) (c0 : Nat) (l0 : List (S49)) (w : World) (hr0 : Kd.C k49 w A0 l0.length l0) (hc0 : l0.length ≤ c0) :
    Calls Try.prog 45 #[.slice A0 l0.length c0, .func (.func 46) #[] #[]] w fun e w' => e = .returned (.bool (!l0.all cv_task)) ∧ Below w.heap.size w w' := by
  have HI := Aside0.mk (cv_index A0 c0 l0 w hr0 hc0)
  clear hr0 hc0
  go_enter Try.func45, Try.ntmps45
  go_wp2_with fail
  refine HI.out.mono ?_
  rintro e w1 ⟨⟨n, rfl, hn⟩, hb⟩
  have HB := Aside0.mk hb
  clear hb
  have HN := Aside0.mk hn
  clear hn
  go_wp2
  go_ret
  exact ⟨by rw [← HN.out]; first | rfl | (simp; done), HB.out⟩

set_option maxHeartbeats 4000000 in
set_option maxRecDepth 100000 in
theorem ceiling_Valid.calls (A0 : Option Addr) (c0 : Nat) (l0 : List (S49)) (r : Bool) (w : World) (hr0 : Kd.C k49 w A0 l0.length l0) (hc0 : l0.length ≤ c0) (h : ceiling_Valid.f l0 = some r) :
    Calls Try.prog 20 #[.slice A0 l0.length c0] w fun e w' => e = .returned (.bool r) ∧ Below w.heap.size w w' := by
  obtain rfl := Option.some.inj h
  have hmax := Kd.C_max hr0
  have HI := Aside0.mk (cv_contains A0 c0 l0 w hr0 hc0)
  have HB0 := Aside0.mk (Below.refl w.heap.size w)
  clear hr0 hc0 h
  cases hl : decide (l0.length ≤ 20)
  · have HE := Aside0.mk (show cv_valid l0 = false from by unfold cv_valid; rw [hl]; rfl)
    have q : decide ((l0.length : Int) ≤ 20) = false := by have := of_decide_eq_false hl; exact decide_eq_false (by omega)
    generalize cv_valid l0 = V at *
    clear hl
    go_enter Try.func20, Try.ntmps20
    go_wp2
    go_ret
    exact ⟨by rw [HE.out]; first | rfl | (simp; done), HB0.out⟩
  · have HE := Aside0.mk (show cv_valid l0 = l0.all cv_task from by unfold cv_valid; rw [hl]; rfl)
    have q : decide ((l0.length : Int) ≤ 20) = true := by have := of_decide_eq_true hl; exact decide_eq_true (by omega)
    have q2 := of_decide_eq_true hl
    generalize cv_valid l0 = V at *
    clear hl
    go_enter Try.func20, Try.ntmps20
    go_wp2_with fail
    refine HI.out.mono ?_
    rintro e w1 ⟨rfl, hb⟩
    have HB := Aside0.mk hb
    clear hb
    go_wp2
    go_ret
    exact ⟨by rw [HE.out]; first | rfl | (simp; done), HB.out⟩

end Go.Proofs.Ytbhmaijmdkpmlaa.P
