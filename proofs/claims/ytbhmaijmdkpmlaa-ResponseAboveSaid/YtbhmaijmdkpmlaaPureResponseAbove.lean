/- ResponseAbove, over lists of numbers alone. -/
import Derived.Test.YtbhmaijmdkpmlaaPx41
import Derived.Test.YtbhmaijmdkpmlaaAwake44
namespace Go.Proofs.Ytbhmaijmdkpmlaa.Pure
open Go.RowKit Go.Proofs.Ytbhmaijmdkpmlaa.P Go.Proofs.Ytbhmaijmdkpmlaa.Plain Go.Proofs.YtbhmaijmdkpmlaaW.PrintWords
set_option linter.unusedVariables false

def ab_strip (t : S49) : S49 := ⟨t.f0, t.f1, t.f2, []⟩
theorem strip_valid (t : S49) (h : cv_task t = true) : cv_task (ab_strip t) = true := by
  unfold cv_task at h ⊢
  rw [Bool.and_eq_true, decide_eq_true_eq] at h
  rw [Bool.and_eq_true, decide_eq_true_eq]
  exact ⟨⟨h.1.1, h.1.2.1, h.1.2.2.1, h.1.2.2.2.1, h.1.2.2.2.2.1, h.1.2.2.2.2.2.1, by simp [ab_strip]⟩, rfl⟩
theorem free_valid (l : List S49) (hv : cv_valid l = true) : cv_valid (l.map ab_strip) = true := by
  unfold cv_valid at hv ⊢
  rw [Bool.and_eq_true, decide_eq_true_eq, List.all_eq_true] at hv
  rw [Bool.and_eq_true, decide_eq_true_eq, List.all_eq_true, List.length_map]
  refine ⟨hv.1, fun t ht => ?_⟩
  obtain ⟨u, hu, rfl⟩ := List.mem_map.1 ht
  exact strip_valid u (hv.2 u hu)
theorem take_valid (l : List S49) (n : Nat) (hv : cv_valid l = true) : cv_valid (l.take n) = true := by
  unfold cv_valid at hv ⊢
  rw [Bool.and_eq_true, decide_eq_true_eq, List.all_eq_true] at hv
  rw [Bool.and_eq_true, decide_eq_true_eq, List.all_eq_true, List.length_take]
  exact ⟨by omega, fun t ht => hv.2 t (List.mem_of_mem_take ht)⟩
theorem no_secs (l : List S49) (i : Int) : ∀ (ts : List S49) (m : Int), (∀ t ∈ ts, t.f3 = []) → cb_tasks l i ts m = m
  | [], _, _ => rfl
  | t :: ts, m, h => by
    have e : cb_tasks l i (t :: ts) m = cb_tasks l i ts (cb_secs l i t.f3 m) := rfl
    rw [e, h t (List.mem_cons_self ..), no_secs l i ts _ (fun u hu => h u (List.mem_cons_of_mem _ hu))]
    rfl
theorem free_block (l : List S49) (i : Int) (hv : cv_valid l = true) (h0 : 0 ≤ i) (h1 : i < l.length) (hf : ∀ t ∈ l, t.f3 = []) : cb_block l i = 0 := by
  unfold cb_block
  rw [hv, Bool.true_and, decide_eq_true ⟨h0, h1⟩, if_pos rfl]
  exact no_secs l i _ 0 (fun t ht => hf t (List.mem_of_mem_drop ht))
theorem sum_strip (w : Int) : ∀ ts : List S49, rs_sum w (ts.map ab_strip) = rs_sum w ts
  | [] => rfl
  | t :: ts => by
    simp only [List.map_cons, rs_sum]
    rw [sum_strip w ts]
    rfl
theorem respIs_congr {l l' : List S49} {i r e : Int} (h : RespIs l i r e) (h1 : rs_own l i = rs_own l' i) (h2 : (rd_T49 l i).f2 = (rd_T49 l' i).f2) (h3 : ∀ w, rs_next l i w = rs_next l' i w) : RespIs l' i r e := by
  unfold RespIs at h ⊢
  rw [h1, h2] at h
  simp only [h3] at h
  exact h
theorem rd_map (l : List S49) (n : Nat) (hn : n < l.length) : rd_T49 (l.map ab_strip) (n : Int) = ab_strip (rd_T49 l (n : Int)) := by
  rw [rd49_at _ n (by rw [List.length_map]; exact hn), rd49_at l n hn, List.getElem_map]
theorem rd_take (l : List S49) (n m : Nat) (hn : n < m) (hm : m ≤ l.length) : rd_T49 (l.take m) (n : Int) = rd_T49 l (n : Int) := by
  rw [rd49_at _ n (by rw [List.length_take]; omega), rd49_at l n (by omega), List.getElem_take]
theorem take_take' (l : List S49) (n m : Nat) (h : n ≤ m) : (l.take m).take n = l.take n := by rw [List.take_take, Nat.min_eq_left h]

/-- Where a rising step falls, it stands still below. -/
theorem fix_below (f : Int → Int) (c : Int) (hm : ∀ v w, v ≤ w → f v ≤ f w) (hc : c ≤ f c) : ∀ (d : Nat) (x : Int), (x - c).toNat ≤ d → c ≤ x → f x ≤ x → ∃ w, c ≤ w ∧ w ≤ x ∧ f w = w := by
  intro d
  induction d with
  | zero =>
    intro x h1 h2 h3
    obtain rfl : x = c := by omega
    exact ⟨x, Int.le_refl _, Int.le_refl _, by omega⟩
  | succ d ih =>
    intro x h1 h2 h3
    by_cases e : f x = x
    · exact ⟨x, h2, Int.le_refl _, e⟩
    · have := hm c x h2
      obtain ⟨w, a, b, g⟩ := ih (f x) (by omega) (by omega) (hm _ _ h3)
      exact ⟨w, a, by omega, g⟩

theorem above_end (l : List S49) (n : Nat) (hv : cv_valid l = true) (hn : n < l.length) (r1 e1 r3 e3 : Int) (R1 : RespIs (l.map ab_strip) n r1 e1) (R3 : RespIs l n r3 e3) :
    Ev (fun k => ontimelaw44_ResponseAbove.j2 k l n r1 e1 r3 e3 false) true := by
  have B := block_range l n hv (by omega) (by omega)
  have o1 : rs_own (l.map ab_strip) n = (rd_T49 l n).f0 := by
    unfold rs_own
    rw [rd_map l n hn, free_block _ _ (free_valid l hv) (by omega) (by rw [List.length_map]; omega) (fun t ht => by obtain ⟨u, _, rfl⟩ := List.mem_map.1 ht; rfl)]
    exact Int.add_zero _
  have d1 : (rd_T49 (l.map ab_strip) n).f2 = (rd_T49 l n).f2 := by rw [rd_map l n hn]; rfl
  have s1 : ∀ w, rs_next (l.map ab_strip) n w = (rd_T49 l n).f0 + rs_sum w (l.take n) := by
    intro w
    unfold rs_next
    rw [o1, Int.toNat_natCast, ← List.map_take, sum_strip]
  have s3 : ∀ w, rs_next l n w = (rd_T49 l n).f0 + cb_block l n + rs_sum w (l.take n) := fun w => rfl
  have hg := good_all l hv
  have g := hg.2 _ (rd49_mem l n (by omega) (by omega))
  unfold GoodT at g
  have gt : ∀ t ∈ l.take n, GoodT t := fun t ht => hg.2 t (List.mem_of_mem_take ht)
  by_cases hb : cb_block l n = 0
  · have R : RespIs l n r1 e1 := respIs_congr R1 (by rw [o1]; unfold rs_own; omega) d1 (fun w => by rw [s1, s3]; omega)
    obtain ⟨rfl, rfl⟩ := R.unique R3
    refine Ev.step (f := fun _ => some true) (fun k => ?_) (Ev.now _)
    simp only [ontimelaw44_ResponseAbove.j2]
    unfold response_Blocking.f
    rw [if_neg (by decide), Option.bind_some, if_pos hb]; simp
  · refine Ev.step (f := fun _ => some true) (fun k => ?_) (Ev.now _)
    simp only [ontimelaw44_ResponseAbove.j2]
    unfold response_Blocking.f
    rw [if_neg (by decide), Option.bind_some, if_neg hb]
    rcases R3 with ⟨a1, a2, a3, a4, a5⟩ | ⟨a1, a2, a3⟩
    · rw [if_neg (by omega)]
      rw [s3] at a4
      unfold rs_own at a2
      have hx : (rd_T49 l n).f0 + rs_sum (r3 - cb_block l n) (l.take n) ≤ r3 - cb_block l n := by
        have := sum_mono (show r3 - cb_block l n ≤ r3 by omega) _ gt
        omega
      obtain ⟨w, w1, w2, w3⟩ := fix_below (fun w => (rd_T49 l n).f0 + rs_sum w (l.take n)) (rd_T49 l n).f0 (fun v w h => by have := sum_mono h _ gt; omega) (by have := sum_nonneg (w := (rd_T49 l n).f0) (by omega) _ gt; omega) _ (r3 - cb_block l n) (Nat.le_refl _) (by omega) hx
      unfold RespIs at R1
      rw [o1, d1] at R1
      simp only [s1] at R1
      rcases R1 with ⟨b1, b2, b3, b4, b5⟩ | ⟨b1, b2, b3⟩
      · rw [if_pos b1, Option.bind_some]
        have : ¬ w < r1 := fun c => b5 w w1 c w3
        rw [cv_wrap (by omega) (by omega), decide_eq_true (by omega)]
      · exact absurd w3 (b3 w w1 (by omega))
    · rw [if_pos a1]

theorem free_set (l : List S49) (j : Nat) (hj : j < l.length) : ((l.take j).map ab_strip ++ List.replicate (l.length - j) z49).set j (ab_strip l[j]) = (l.take (j + 1)).map ab_strip ++ List.replicate (l.length - (j + 1)) z49 := by
  have e : ((l.take j).map ab_strip).length = j := by rw [List.length_map, List.length_take]; omega
  rw [List.set_append_right _ _ (by omega), e, Nat.sub_self, show l.length - j = (l.length - (j + 1)) + 1 by omega, List.replicate_succ, List.set_cons_zero, List.take_add_one, List.getElem?_eq_getElem hj, List.map_append, List.append_assoc]
  rfl
theorem above_loop (l : List S49) (n : Nat) (hv : cv_valid l = true) (hn : n < l.length) : ∀ (d j : Nat), l.length - j = d → j ≤ l.length →
    Ev (fun k => ontimelaw44_ResponseAbove.l0 k l n ((l.take j).map ab_strip ++ List.replicate (l.length - j) z49) l (l.length : Int) (j : Int)) true := by
  have hg := good_all l hv
  intro d
  induction d with
  | zero =>
    intro j h1 h2
    obtain rfl : j = l.length := by omega
    have hf : (l.take l.length).map ab_strip ++ List.replicate (l.length - l.length) z49 = l.map ab_strip := by rw [List.take_length, Nat.sub_self, List.replicate_zero, List.append_nil]
    rw [hf]
    have fv := free_valid l hv
    have hml : (l.map ab_strip).length = l.length := List.length_map _
    have tv := take_valid (l.map ab_strip) (n + 1) fv
    have htl : ((l.map ab_strip).take (n + 1)).length = n + 1 := by rw [List.length_take, hml]; omega
    obtain ⟨r1, e1, v1, R1⟩ := resp_ev (l.map ab_strip) n fv (by omega) (by omega)
    obtain ⟨r2, e2, v2, R2⟩ := resp_ev ((l.map ab_strip).take (n + 1)) n tv (by omega) (by omega)
    obtain ⟨r3, e3, v3, R3⟩ := resp_ev l n hv (by omega) (by omega)
    have z1 : cb_block (l.map ab_strip) n = 0 := free_block _ _ fv (by omega) (by omega) (fun t ht => by obtain ⟨u, _, rfl⟩ := List.mem_map.1 ht; rfl)
    have z2 : cb_block ((l.map ab_strip).take (n + 1)) n = 0 := free_block _ _ tv (by omega) (by omega) (fun t ht => by obtain ⟨u, _, rfl⟩ := List.mem_map.1 (List.mem_of_mem_take ht); rfl)
    have rt := rd_take (l.map ab_strip) n (n + 1) (by omega) (by omega)
    have oo : rs_own ((l.map ab_strip).take (n + 1)) n = rs_own (l.map ab_strip) n := by unfold rs_own; rw [z1, z2, rt]
    have R2' : RespIs (l.map ab_strip) n r2 e2 := respIs_congr R2 oo (by rw [rt]) (fun w => by unfold rs_next; rw [oo, Int.toNat_natCast, take_take' _ _ _ (by omega)])
    obtain ⟨rfl, rfl⟩ := R1.unique R2'
    refine Ev.step (fun k => by simp only [ontimelaw44_ResponseAbove.l0]; rw [if_neg (by omega)]) (Ev.bind v1 ?_)
    rw [cv_wrap (x := (n : Int) + 1) (by omega) (by omega)]
    refine Ev.congr (fun k => by rw [if_pos (by omega), if_pos (by omega)]) (Ev.bind (show Ev (fun k => response_Response.f k ((l.map ab_strip).take ((n : Int) + 1).toNat) n) (r1, e1) from v2) (Ev.bind v3 ?_))
    simp only [if_true]
    unfold response_Blocking.f
    rw [z1]
    exact above_end l n hv hn r1 e1 r3 e3 R1 R3
  | succ d ih =>
    intro j h1 h2
    have hj : j < l.length := by omega
    refine Ev.step (fun k => ?_) (ih (j + 1) (by omega) (by omega))
    simp only [ontimelaw44_ResponseAbove.l0]
    rw [if_pos (by omega), if_pos (by omega), if_pos (by omega), if_pos (by rw [List.length_append, List.length_map, List.length_take, List.length_replicate]; omega), cv_wrap (x := (j : Int) + 1) (by omega) (by omega), Int.toNat_natCast, rd49_at l j hj, ← free_set l j hj]
    rfl

theorem ResponseAbove (l0 : List S49) (a1 : Int) (y0 : l0.length * 48 ≤ 140737488351232) (hm0 : l0.length ≤ maxLen) (hg0 : ∀ y ∈ l0, ((Lit.int .i64 y.f0).wf = true ∧ (Lit.int .i64 y.f1).wf = true ∧ (Lit.int .i64 y.f2).wf = true ∧ (y.f3.length ≤ maxLen ∧ ∀ z ∈ y.f3, ((Lit.int .i64 z.f0).wf = true ∧ (Lit.int .i64 z.f1).wf = true ∧ (Lit.int .i64 z.f2).wf = true)))) (w1 : (Lit.int .u8 a1).wf = true) :
    ∃ k, ontimelaw44_ResponseAbove.f k l0 a1 = some true := by
  have skip : Ev (fun k => ontimelaw44_ResponseAbove.j0 k l0 a1 true) true := Ev.step (f := fun _ => some true) (fun k => by simp only [ontimelaw44_ResponseAbove.j0, if_true]) (Ev.now _)
  refine Ev.rounds (?_ : Ev _ true)
  unfold ontimelaw44_ResponseAbove.f
  refine Ev.bind awake44_ev ?_
  refine Ev.congr (fun k => if_pos rfl) ?_
  obtain ⟨b, hb, _⟩ := great_ev l0
  refine Ev.bind hb ?_
  cases b
  · refine Ev.congr (fun k => if_neg (by decide)) ?_
    by_cases h0 : (l0.length : Int) = 0
    · exact Ev.congr (fun k => if_pos h0) skip
    · refine Ev.congr (fun k => (if_neg h0).trans (by unfold ceiling_Valid.f; rw [Option.bind_some])) ?_
      cases hv : cv_valid l0
      · exact skip
      · obtain ⟨b0, b1⟩ := u8_range w1
        obtain ⟨i0, i1⟩ := tmod_range b0 (show 0 < (l0.length : Int) by omega)
        obtain ⟨hl, _⟩ := good_all l0 hv
        obtain ⟨n, hn⟩ := Int.eq_ofNat_of_zero_le i0
        refine Ev.step (fun k => ?_) (above_loop l0 n hv (by omega) _ 0 rfl (by omega))
        simp only [ontimelaw44_ResponseAbove.j0]
        rw [if_neg (by decide), if_neg h0, if_pos (by omega), if_pos (by omega), cv_wrap (x := a1) (by omega) (by omega), hn, Int.toNat_natCast]
        rfl
  · exact Ev.congr (fun k => if_pos rfl) skip
end Go.Proofs.Ytbhmaijmdkpmlaa.Pure
