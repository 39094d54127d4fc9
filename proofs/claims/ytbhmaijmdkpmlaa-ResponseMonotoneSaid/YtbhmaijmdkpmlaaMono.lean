/- More work never makes a response time smaller. -/
import Derived.Test.YtbhmaijmdkpmlaaAwake44
namespace Go.Proofs.Ytbhmaijmdkpmlaa.Plain
open Go.RowKit Go.Proofs.Ytbhmaijmdkpmlaa.P Go.Proofs.YtbhmaijmdkpmlaaW.PrintWords
set_option linter.unusedVariables false

/-- Where a rising step falls, it stands still below. -/
theorem still_below (f : Int → Int) (c : Int) (hm : ∀ v w, v ≤ w → f v ≤ f w) (hc : c ≤ f c) : ∀ (d : Nat) (x : Int), (x - c).toNat ≤ d → c ≤ x → f x ≤ x → ∃ w, c ≤ w ∧ w ≤ x ∧ f w = w := by
  intro d
  induction d with
  | zero =>
    intro x h1 h2 h3
    obtain rfl : x = c := by omega
    exact ⟨x, Int.le_refl _, Int.le_refl _, by omega⟩
  | succ d ih =>
    intro x h1 h2 h3
    by_cases e : f x = x
    · exact ⟨x, h2, Int.le_refl _, e⟩
    · have := hm c x h2
      obtain ⟨w, a, b, g⟩ := ih (f x) (by omega) (by omega) (hm _ _ h3)
      exact ⟨w, a, by omega, g⟩
theorem mono_main (l l' : List S49) (i r n : Int) (hv : cv_valid l = true) (h0 : 0 ≤ i) (h1 : i < l.length) (ho : rs_own l i ≤ rs_own l' i) (hs : ∀ w, 0 ≤ w → rs_sum w (l.take i.toNat) ≤ rs_sum w (l'.take i.toNat)) (hD : (rd_T49 l' i).f2 ≤ (rd_T49 l i).f2)
    (R : RespIs l i r 0) (N : RespIs l' i n 0) : r ≤ n := by
  have hp := own_range l i hv h0 h1
  rcases N with ⟨_, b2, b3, b4, b5⟩ | ⟨e, _⟩
  · have hx : rs_next l i n ≤ n := by
      have := hs n (by omega)
      unfold rs_next at b4 ⊢
      omega
    obtain ⟨w, w1, w2, w3⟩ := still_below (rs_next l i) (rs_own l i) (fun v w h => next_mono l i hv h) (by
      have := sum_nonneg (w := rs_own l i) (by omega) (l.take i.toNat) (fun t ht => (good_all l hv).2 t (List.mem_of_mem_take ht))
      unfold rs_next; omega) _ n (Nat.le_refl _) (by omega) hx
    rcases R with ⟨_, a2, a3, a4, a5⟩ | ⟨e, _⟩
    · rcases Int.lt_or_le w r with c | c
      · exact absurd w3 (a5 w w1 c)
      · omega
    · exact absurd e (by decide)
  · exact absurd e (by decide)

theorem cl_at_secs (l l' : List S49) (h : l'.map (·.f3) = l.map (·.f3)) (o : Int) : cl_at l' o = cl_at l o := by
  have e : ∀ m : List S49, m.any (cl_has o) = (m.map (·.f3)).any (fun ss => ss.any fun s => s.f0 == o) := fun m => by rw [List.any_map]; rfl
  have e2 : ∀ m : List S49, m.findIdx (cl_has o) = (m.map (·.f3)).findIdx (fun ss => ss.any fun s => s.f0 == o) := fun m => by rw [List.findIdx_map]; rfl
  unfold cl_at
  rw [e l, e l', e2 l, e2 l', h]
theorem cb_tasks_secs (l l' : List S49) (h : l'.map (·.f3) = l.map (·.f3)) (i : Int) : ∀ (ts ts' : List S49) (m : Int), ts'.map (·.f3) = ts.map (·.f3) → cb_tasks l' i ts' m = cb_tasks l i ts m
  | [], [], _, _ => rfl
  | [], _ :: _, _, e => by cases e
  | _ :: _, [], _, e => by cases e
  | t :: ts, t' :: ts', m, e => by
    rw [List.map_cons, List.map_cons] at e
    injection e with e1 e2
    have a : cb_secs l' i t'.f3 m = cb_secs l i t.f3 m := by
      unfold cb_secs
      rw [e1]
      simp only [cl_at_secs l l' h]
    show cb_tasks l' i ts' (cb_secs l' i t'.f3 m) = cb_tasks l i ts (cb_secs l i t.f3 m)
    rw [a]
    exact cb_tasks_secs l l' h i ts ts' _ e2
theorem block_secs (l l' : List S49) (h : l'.map (·.f3) = l.map (·.f3)) (hv : cv_valid l = true) (hv' : cv_valid l' = true) (i : Int) : cb_block l' i = cb_block l i := by
  have hl : l'.length = l.length := by have := congrArg List.length h; simpa using this
  unfold cb_block
  rw [hv, hv', hl]
  split
  · exact cb_tasks_secs l l' h i _ _ 0 (by rw [List.map_drop, List.map_drop, h])
  · rfl
theorem sum_set (w : Int) : ∀ (l : List S49) (j n : Nat) (t : S49), (∀ hj : j < l.length, rs_term w l[j] ≤ rs_term w t) → rs_sum w (l.take n) ≤ rs_sum w ((l.set j t).take n)
  | [], _, _, _, _ => by simp
  | u :: l, 0, 0, t, h => by simp
  | u :: l, 0, n + 1, t, h => by
    have := h (by simp)
    simp only [List.set_cons_zero, List.take_succ_cons, rs_sum]
    simp only [List.getElem_cons_zero] at this
    omega
  | u :: l, j + 1, 0, t, h => by simp
  | u :: l, j + 1, n + 1, t, h => by
    have := sum_set w l j n t (fun hj => h (by simp; omega))
    simp only [List.set_cons_succ, List.take_succ_cons, rs_sum]
    omega
theorem q_anti {w p p' : Int} (hp : 1 ≤ p') (h : p' ≤ p) (hw : 0 ≤ w) : rs_q w p ≤ rs_q w p' := by
  rcases Int.lt_or_eq_of_le hw with hw | rfl
  · have e : ∀ x : Int, 1 ≤ x → rs_q w x = (w - 1) / x + 1 := by
      intro x hx
      unfold rs_q
      rw [show w + x - 1 = (w - 1) + 1 * x by omega, Int.add_mul_ediv_right _ _ (by omega)]
    rw [e p (by omega), e p' hp]
    have hq : 0 ≤ (w - 1) / p := Int.ediv_nonneg (by omega) (by omega)
    have h1 : (w - 1) / p * p ≤ w - 1 := Int.ediv_mul_le _ (by omega)
    have h2 : (w - 1) / p * p' ≤ (w - 1) / p * p := Int.mul_le_mul_of_nonneg_left h hq
    have := Int.le_ediv_of_mul_le (show 0 < p' by omega) (Int.le_trans h2 h1)
    omega
  · rw [q_zero (by omega), q_zero hp]; exact Int.le_refl _

/-- The list with a greater cost. -/
def mo_a (l : List S49) (j : Nat) (more : Int) : List S49 := l.set j ⟨(if 1000 < (rd_T49 l j).f0 + more then 1000 else (rd_T49 l j).f0 + more), (rd_T49 l j).f1, (rd_T49 l j).f2, (rd_T49 l j).f3⟩
def mo_p (p more : Int) : Int := if 1 < p - more then p - more else 1
/-- The list with a smaller period. -/
def mo_b (l : List S49) (j : Nat) (more : Int) : List S49 := l.set j ⟨(rd_T49 l j).f0, mo_p (rd_T49 l j).f1 more, (if mo_p (rd_T49 l j).f1 more < (rd_T49 l j).f2 then mo_p (rd_T49 l j).f1 more else (rd_T49 l j).f2), (rd_T49 l j).f3⟩
theorem sec_cost (c c' : Int) (h : c ≤ c') : ∀ (ss : List S68) (e : Int), cv_sec c e ss = true → cv_sec c' e ss = true
  | [], _, _ => rfl
  | s :: ss, e, hs => by
    simp only [cv_sec, Bool.and_eq_true, decide_eq_true_eq] at hs ⊢
    exact ⟨hs.1, hs.2.1, by omega, hs.2.2.2.1, sec_cost c c' h ss s.f2 hs.2.2.2.2⟩
theorem set_valid (l : List S49) (j : Nat) (t : S49) (hv : cv_valid l = true) (ht : cv_task t = true) : cv_valid (l.set j t) = true := by
  unfold cv_valid at hv ⊢
  rw [Bool.and_eq_true, decide_eq_true_eq, List.all_eq_true] at hv
  rw [Bool.and_eq_true, decide_eq_true_eq, List.all_eq_true, List.length_set]
  refine ⟨hv.1, fun u hu => ?_⟩
  rcases List.mem_or_eq_of_mem_set hu with h | rfl
  · exact hv.2 u h
  · exact ht
theorem task_of (l : List S49) (j : Nat) (hj : j < l.length) (hv : cv_valid l = true) : cv_task (rd_T49 l j) = true := by
  unfold cv_valid at hv
  rw [Bool.and_eq_true, decide_eq_true_eq, List.all_eq_true] at hv
  rw [rd49_at l j hj]
  exact hv.2 _ (List.getElem_mem hj)
theorem task_parts (t : S49) (h : cv_task t = true) : (1 ≤ t.f0 ∧ t.f0 ≤ 1000 ∧ 1 ≤ t.f1 ∧ t.f1 ≤ 1000 ∧ 1 ≤ t.f2 ∧ t.f2 ≤ t.f1 ∧ t.f3.length ≤ 8) ∧ cv_sec t.f0 0 t.f3 = true := by
  unfold cv_task at h
  rw [Bool.and_eq_true, decide_eq_true_eq] at h
  exact h
theorem task_mk (t : S49) (h : (1 ≤ t.f0 ∧ t.f0 ≤ 1000 ∧ 1 ≤ t.f1 ∧ t.f1 ≤ 1000 ∧ 1 ≤ t.f2 ∧ t.f2 ≤ t.f1 ∧ t.f3.length ≤ 8) ∧ cv_sec t.f0 0 t.f3 = true) : cv_task t = true := by
  unfold cv_task
  rw [Bool.and_eq_true, decide_eq_true_eq]
  exact h
theorem mo_p_range (p more : Int) (h0 : 0 ≤ more) (hp : 1 ≤ p) : 1 ≤ mo_p p more ∧ mo_p p more ≤ p := by unfold mo_p; split <;> omega
theorem mo_a_valid (l : List S49) (j : Nat) (more : Int) (hv : cv_valid l = true) (hj : j < l.length) (h0 : 0 ≤ more) : cv_valid (mo_a l j more) = true := by
  obtain ⟨p, q⟩ := task_parts _ (task_of l j hj hv)
  refine set_valid l j _ hv (task_mk _ ⟨?_, sec_cost _ _ ?_ _ _ q⟩)
  · simp only; split <;> omega
  · simp only; split <;> omega
theorem mo_b_valid (l : List S49) (j : Nat) (more : Int) (hv : cv_valid l = true) (hj : j < l.length) (h0 : 0 ≤ more) : cv_valid (mo_b l j more) = true := by
  obtain ⟨p, q⟩ := task_parts _ (task_of l j hj hv)
  have := mo_p_range (rd_T49 l j).f1 more h0 p.2.2.1
  refine set_valid l j _ hv (task_mk _ ⟨?_, q⟩)
  simp only; split <;> omega
theorem set_secs (l : List S49) (j : Nat) (t : S49) (ht : t.f3 = (rd_T49 l j).f3) : (l.set j t).map (·.f3) = l.map (·.f3) := by
  rw [List.map_set, ht]
  by_cases hj : j < l.length
  · rw [rd49_at l j hj]
    have : (l[j]).f3 = (l.map (·.f3))[j]'(by rw [List.length_map]; exact hj) := by rw [List.getElem_map]
    rw [this, List.set_getElem_self]
  · rw [List.set_eq_of_length_le (by rw [List.length_map]; omega)]
theorem rd_set (l : List S49) (j n : Nat) (t : S49) (hn : n < l.length) : rd_T49 (l.set j t) (n : Int) = if j = n then t else rd_T49 l n := by
  rw [rd49_at _ n (by rw [List.length_set]; exact hn), rd49_at l n hn, List.getElem_set]
theorem mo_a_le (l : List S49) (i j : Nat) (more r n : Int) (hv : cv_valid l = true) (hi : i < l.length) (hj : j < l.length) (h0 : 0 ≤ more) (R : RespIs l i r 0) (N : RespIs (mo_a l j more) i n 0) : r ≤ n := by
  obtain ⟨p, q⟩ := task_parts _ (task_of l j hj hv)
  have hb := block_secs l (mo_a l j more) (set_secs l j _ rfl) hv (mo_a_valid l j more hv hj h0) i
  have hr := rd_set l j i ⟨(if 1000 < (rd_T49 l j).f0 + more then 1000 else (rd_T49 l j).f0 + more), (rd_T49 l j).f1, (rd_T49 l j).f2, (rd_T49 l j).f3⟩ hi
  have hr : rd_T49 (mo_a l j more) i = _ := hr
  refine mono_main l (mo_a l j more) i r n hv (by omega) (by omega) ?_ ?_ ?_ R N
  · unfold rs_own
    rw [hb, hr]
    by_cases e : j = i
    · subst e; rw [if_pos rfl]; simp only; split <;> omega
    · rw [if_neg e]; exact Int.le_refl _
  · intro w hw
    refine sum_set w l j _ _ (fun hj' => ?_)
    rw [← rd49_at l j hj]
    unfold rs_term
    refine Int.mul_le_mul_of_nonneg_right ?_ (q_nonneg p.2.2.1 hw)
    simp only; split <;> omega
  · rw [hr]
    by_cases e : j = i
    · subst e; rw [if_pos rfl]; exact Int.le_refl _
    · rw [if_neg e]; exact Int.le_refl _
theorem mo_b_le (l : List S49) (i j : Nat) (more r n : Int) (hv : cv_valid l = true) (hi : i < l.length) (hj : j < i) (h0 : 0 ≤ more) (R : RespIs l i r 0) (N : RespIs (mo_b l j more) i n 0) : r ≤ n := by
  obtain ⟨p, q⟩ := task_parts _ (task_of l j (by omega) hv)
  have hp := mo_p_range (rd_T49 l j).f1 more h0 p.2.2.1
  have hb := block_secs l (mo_b l j more) (set_secs l j _ rfl) hv (mo_b_valid l j more hv (by omega) h0) i
  have hr := rd_set l j i ⟨(rd_T49 l j).f0, mo_p (rd_T49 l j).f1 more, (if mo_p (rd_T49 l j).f1 more < (rd_T49 l j).f2 then mo_p (rd_T49 l j).f1 more else (rd_T49 l j).f2), (rd_T49 l j).f3⟩ hi
  have hr : rd_T49 (mo_b l j more) i = _ := hr
  rw [if_neg (by omega)] at hr
  refine mono_main l (mo_b l j more) i r n hv (by omega) (by omega) ?_ ?_ ?_ R N
  · unfold rs_own; rw [hb, hr]; exact Int.le_refl _
  · intro w hw
    refine sum_set w l j _ _ (fun hj' => ?_)
    rw [← rd49_at l j (by omega)]
    unfold rs_term
    exact Int.mul_le_mul_of_nonneg_left (q_anti hp.1 hp.2 hw) (by omega)
  · rw [hr]; exact Int.le_refl _
end Go.Proofs.Ytbhmaijmdkpmlaa.Plain
