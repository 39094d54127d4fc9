/- The reference's numbers are the program's. -/
import Derived.Test.YtbhmaijmdkpmlaaPx44
import Derived.Test.YtbhmaijmdkpmlaaPx35
import Derived.Test.YtbhmaijmdkpmlaaAwake44
namespace Go.Proofs.Ytbhmaijmdkpmlaa.Plain
open Go.RowKit Go.Proofs.Ytbhmaijmdkpmlaa.P Go.Proofs.YtbhmaijmdkpmlaaW.PrintWords
set_option linter.unusedVariables false

def pl_sec (s : S68) : S94 := ⟨s.f0, s.f1, s.f2⟩
def pl_task (t : S49) : S93 := ⟨t.f0, t.f1, t.f2, t.f3.map pl_sec⟩
def pl_all (l : List S49) : List S93 := l.map pl_task
theorem pl_length (l : List S49) : (pl_all l).length = l.length := List.length_map _
theorem rd93_pl (l : List S49) (i : Nat) (hi : i < l.length) : rd_T93 (pl_all l) (i : Int) = pl_task l[i] := by
  unfold rd_T93 pl_all
  rw [Int.toNat_natCast, List.getD_eq_getElem?_getD, List.getElem?_map, List.getElem?_eq_getElem hi]
  rfl
theorem rd94_pl (ss : List S68) (i : Nat) (hi : i < ss.length) : rd_T94 (ss.map pl_sec) (i : Int) = pl_sec ss[i] := by
  unfold rd_T94
  rw [Int.toNat_natCast, List.getD_eq_getElem?_getD, List.getElem?_map, List.getElem?_eq_getElem hi]
  rfl
/-- What a small list is. -/
def Small (l : List S49) : Prop := l.length ≤ 100 ∧ ∀ t ∈ l, t.f3.length ≤ 100
theorem small_of_valid (l : List S49) (hv : cv_valid l = true) : Small l := by
  obtain ⟨a, b⟩ := cb_parts l hv
  exact ⟨by omega, fun t ht => by have := (b t ht).1; omega⟩

theorem plain44_inner (l : List S49) (x3 : List S93) (i : Int) (ss : List S68) (a b c : Int) (R : List S93) (hs : ss.length ≤ 100) (hx : x3.length ≤ 100) : ∀ (d j : Nat) (acc : List S94), ss.length - j = d → j ≤ ss.length → acc.length ≤ j →
    Ev (fun k => ontimelaw44_plain.l0 k (x3 ++ [⟨a, b, c, acc ++ (ss.drop j).map pl_sec⟩]) l (l.length : Int) (wrap64 (i + 1))) R →
    Ev (fun k => ontimelaw44_plain.l1 k x3 l (l.length : Int) i ss (ss.length : Int) (j : Int) a b c acc) R := by
  intro d
  induction d with
  | zero =>
    intro j acc h1 h2 h3 h
    rw [List.drop_of_length_le (by omega), List.map_nil, List.append_nil] at h
    refine Ev.step (fun k => ?_) h
    simp only [ontimelaw44_plain.l1]
    rw [if_neg (by omega), if_pos (by omega)]
  | succ d ih =>
    intro j acc h1 h2 h3 h
    have hj : j < ss.length := by omega
    refine Ev.step (fun k => ?_) (ih (j + 1) (acc ++ [pl_sec ss[j]]) (by omega) (by omega) (by rw [List.length_append, List.length_singleton]; omega) ?_)
    · simp only [ontimelaw44_plain.l1]
      rw [if_pos (by omega), if_pos (by omega), if_pos (by omega), if_pos (by omega), cv_wrap (x := (j : Int) + 1) (by omega) (by omega), rd68_at ss j hj]
      rfl
    · rw [List.drop_eq_getElem_cons hj, List.map_cons] at h
      rw [List.append_assoc]
      exact h
theorem plain44_loop (l : List S49) (hs : Small l) : ∀ (d i : Nat), l.length - i = d → i ≤ l.length → Ev (fun k => ontimelaw44_plain.l0 k (pl_all (l.take i)) l (l.length : Int) (i : Int)) (pl_all l) := by
  intro d
  have hL := hs.1
  induction d with
  | zero =>
    intro i h1 h2
    refine Ev.step (f := fun _ => some (pl_all l)) (fun k => ?_) (Ev.now _)
    simp only [ontimelaw44_plain.l0]
    rw [if_neg (by omega), List.take_of_length_le (by omega)]
  | succ d ih =>
    intro i h1 h2
    have hi : i < l.length := by omega
    have hss := hs.2 _ (List.getElem_mem hi)
    refine Ev.step (fun k => by simp only [ontimelaw44_plain.l0]; rw [if_pos (by omega), if_pos (by omega), if_pos (by omega), rd49_at l i hi]) ?_
    refine plain44_inner l _ i l[i].f3 _ _ _ _ hss (by rw [pl_length, List.length_take]; omega) _ 0 [] rfl (Nat.zero_le _) (Nat.zero_le _) ?_
    have e : pl_all (l.take i) ++ [⟨l[i].f0, l[i].f1, l[i].f2, [] ++ (l[i].f3.drop 0).map pl_sec⟩] = pl_all (l.take (i + 1)) := by
      rw [List.take_add_one, List.getElem?_eq_getElem hi]
      unfold pl_all
      rw [List.map_append]
      rfl
    rw [e, cv_wrap (x := (i : Int) + 1) (by omega) (by omega)]
    exact ih (i + 1) (by omega) (by omega)
theorem plain44_ev (l : List S49) (hs : Small l) : Ev (fun k => ontimelaw44_plain.f k l) (pl_all l) := plain44_loop l hs _ 0 rfl (Nat.zero_le _)

theorem refceil_inner (l : List S49) (o : Int) (i : Nat) (hi : i < l.length) (hL : l.length ≤ 100) (hss : l[i].f3.length ≤ 100) (R : Int) : ∀ (d j : Nat), l[i].f3.length - j = d → j ≤ l[i].f3.length →
    (if (l[i].f3.drop j).any (fun s => s.f0 == o) then R = (i : Int) else Ev (fun k => ontimeref43_Ceiling.l0 k (pl_all l) o ((i + 1 : Nat) : Int)) R) →
    Ev (fun k => ontimeref43_Ceiling.l1 k (pl_all l) o (i : Int) (j : Int)) R := by
  intro d
  have hp := pl_length l
  have hlen : ((pl_task l[i]).f3).length = l[i].f3.length := List.length_map _
  induction d with
  | zero =>
    intro j h1 h2 h
    rw [List.drop_of_length_le (by omega), List.any_nil, if_neg (by decide)] at h
    refine Ev.step (fun k => ?_) h
    simp only [ontimeref43_Ceiling.l1]
    rw [if_pos (by omega), if_pos (by omega), rd93_pl l i hi, if_neg (by omega), cv_wrap (by omega) (by omega)]
    rfl
  | succ d ih =>
    intro j h1 h2 h
    have hj : j < l[i].f3.length := by omega
    have hs : ∀ k, ontimeref43_Ceiling.l1 (k + 1) (pl_all l) o (i : Int) (j : Int) = if l[i].f3[j].f0 = o then some (i : Int) else ontimeref43_Ceiling.l1 k (pl_all l) o (i : Int) ((j + 1 : Nat) : Int) := by
      intro k
      simp only [ontimeref43_Ceiling.l1]
      rw [if_pos (by omega), if_pos (by omega), rd93_pl l i hi, if_pos (by omega), if_pos (by omega), cv_wrap (x := (j : Int) + 1) (by omega) (by omega)]
      rw [show (pl_task l[i]).f3 = l[i].f3.map pl_sec from rfl, rd94_pl _ j hj]
      rfl
    rw [List.drop_eq_getElem_cons hj, List.any_cons] at h
    by_cases c : l[i].f3[j].f0 = o
    · rw [beq_iff_eq.2 c, Bool.true_or, if_pos rfl] at h
      rw [h]
      exact Ev.step (fun k => (hs k).trans (if_pos c)) (Ev.now _)
    · rw [beq_eq_false_iff_ne.2 c, Bool.false_or] at h
      exact Ev.step (fun k => (hs k).trans (if_neg c)) (ih (j + 1) (by omega) (by omega) h)
theorem refceil_loop (l : List S49) (o : Int) (hs : Small l) : ∀ (d i : Nat), l.length - i = d → i ≤ l.length → Ev (fun k => ontimeref43_Ceiling.l0 k (pl_all l) o (i : Int)) ((i + (l.drop i).findIdx (cl_has o) : Nat) : Int) := by
  intro d
  have hp := pl_length l
  have hL := hs.1
  induction d with
  | zero =>
    intro i h1 h2
    obtain rfl : i = l.length := by omega
    refine Ev.step (f := fun _ => some (l.length : Int)) (fun k => ?_) ?_
    · simp only [ontimeref43_Ceiling.l0]; rw [if_neg (by omega), hp]
    · rw [List.drop_length, List.findIdx_nil, Nat.add_zero]; exact Ev.now _
  | succ d ih =>
    intro i h1 h2
    have hi : i < l.length := by omega
    refine Ev.step (fun k => by simp only [ontimeref43_Ceiling.l0]; rw [if_pos (by omega)]) ?_
    refine refceil_inner l o i hi hL (hs.2 _ (List.getElem_mem hi)) _ _ 0 rfl (Nat.zero_le _) ?_
    rw [List.drop_zero, List.drop_eq_getElem_cons hi, List.findIdx_cons]
    show if cl_has o l[i] = true then _ else _
    by_cases c : cl_has o l[i] = true
    · rw [if_pos c, c, cond_true, Nat.add_zero]
    · rw [if_neg c, Bool.eq_false_iff.2 c, cond_false]
      have := ih (i + 1) (by omega) (by omega)
      rw [show i + ((l.drop (i + 1)).findIdx (cl_has o) + 1) = i + 1 + (l.drop (i + 1)).findIdx (cl_has o) by omega]
      exact this
theorem refceil_ev (l : List S49) (o : Int) (hs : Small l) : Ev (fun k => ontimeref43_Ceiling.f k (pl_all l) o) (l.findIdx (cl_has o) : Int) := by
  have := refceil_loop l o hs _ 0 rfl (Nat.zero_le _)
  rw [List.drop_zero, Nat.zero_add] at this
  exact this
theorem cl_at_sec (l : List S49) (t : S49) (ht : t ∈ l) (s : S68) (hs : s ∈ t.f3) : cl_at l s.f0 = (l.findIdx (cl_has s.f0) : Int) := by
  unfold cl_at
  rw [if_pos]
  rw [List.any_eq_true]
  refine ⟨t, ht, ?_⟩
  unfold cl_has
  rw [List.any_eq_true]
  exact ⟨s, hs, beq_self_eq_true _⟩

theorem refblock_inner (l : List S49) (a : Int) (hv : cv_valid l = true) (i : Nat) (hi : i < l.length) (R : Int) : ∀ (d j : Nat) (m : Int), l[i].f3.length - j = d → j ≤ l[i].f3.length →
    Ev (fun k => ontimeref44_Blocking.l0 k (pl_all l) a (cb_secs l a (l[i].f3.drop j) m) ((i + 1 : Nat) : Int)) R → Ev (fun k => ontimeref44_Blocking.l1 k (pl_all l) a m (i : Int) (j : Int)) R := by
  intro d
  have hp := pl_length l
  have hlen : ((pl_task l[i]).f3).length = l[i].f3.length := List.length_map _
  obtain ⟨hL, hp2⟩ := cb_parts l hv
  obtain ⟨hss, hsec⟩ := hp2 _ (List.getElem_mem hi)
  induction d with
  | zero =>
    intro j m h1 h2 h
    rw [List.drop_of_length_le (by omega)] at h
    refine Ev.step (fun k => ?_) h
    simp only [ontimeref44_Blocking.l1]
    rw [if_pos (by omega), if_pos (by omega), rd93_pl l i hi, if_neg (by omega), cv_wrap (by omega) (by omega)]
    rfl
  | succ d ih =>
    intro j m h1 h2 h
    have hj : j < l[i].f3.length := by omega
    obtain ⟨q0, q1, q2, q3, q4⟩ := hsec _ (List.getElem_mem hj)
    rw [List.drop_eq_getElem_cons hj] at h
    have hS : ∀ k, ontimeref44_Blocking.l1 (k + 1) (pl_all l) a m (i : Int) (j : Int) = (ontimeref43_Ceiling.f k (pl_all l) l[i].f3[j].f0).bind fun t207 => (if t207 ≤ a then (if l[i].f3[j].f2 - l[i].f3[j].f1 - 1 > m then ontimeref44_Blocking.l1 k (pl_all l) a (l[i].f3[j].f2 - l[i].f3[j].f1 - 1) (i : Int) ((j + 1 : Nat) : Int) else ontimeref44_Blocking.l1 k (pl_all l) a m (i : Int) ((j + 1 : Nat) : Int)) else ontimeref44_Blocking.l1 k (pl_all l) a m (i : Int) ((j + 1 : Nat) : Int)) := by
      intro k
      simp only [ontimeref44_Blocking.l1]
      rw [if_pos (by omega), if_pos (by omega), rd93_pl l i hi, if_pos (by omega), if_pos (by omega), cv_wrap (x := (j : Int) + 1) (by omega) (by omega)]
      rw [show (pl_task l[i]).f3 = l[i].f3.map pl_sec from rfl, rd94_pl _ j hj]
      rw [show (pl_sec l[i].f3[j]).f0 = l[i].f3[j].f0 from rfl, show (pl_sec l[i].f3[j]).f1 = l[i].f3[j].f1 from rfl, show (pl_sec l[i].f3[j]).f2 = l[i].f3[j].f2 from rfl]
      rw [cv_wrap (x := l[i].f3[j].f2 - l[i].f3[j].f1) (by omega) (by omega), cv_wrap (x := l[i].f3[j].f2 - l[i].f3[j].f1 - 1) (by omega) (by omega)]
      rfl
    refine Ev.step hS (Ev.bind (refceil_ev l l[i].f3[j].f0 (small_of_valid l hv)) ?_)
    rw [← cl_at_sec l _ (List.getElem_mem hi) _ (List.getElem_mem hj)]
    have e : cb_secs l a (l[i].f3[j] :: l[i].f3.drop (j + 1)) m = cb_secs l a (l[i].f3.drop (j + 1)) (if cl_at l l[i].f3[j].f0 ≤ a then (if m < l[i].f3[j].f2 - l[i].f3[j].f1 - 1 then l[i].f3[j].f2 - l[i].f3[j].f1 - 1 else m) else m) := rfl
    rw [e] at h
    by_cases c1 : cl_at l l[i].f3[j].f0 ≤ a
    · rw [if_pos c1] at h
      by_cases c2 : m < l[i].f3[j].f2 - l[i].f3[j].f1 - 1
      · rw [if_pos c2] at h
        exact Ev.congr (fun k => (if_pos c1).trans (if_pos c2)) (ih (j + 1) _ (by omega) (by omega) h)
      · rw [if_neg c2] at h
        exact Ev.congr (fun k => (if_pos c1).trans (if_neg c2)) (ih (j + 1) _ (by omega) (by omega) h)
    · rw [if_neg c1] at h
      exact Ev.congr (fun k => if_neg c1) (ih (j + 1) _ (by omega) (by omega) h)
theorem refblock_loop (l : List S49) (a : Int) (hv : cv_valid l = true) : ∀ (d i : Nat) (m : Int), l.length - i = d → Ev (fun k => ontimeref44_Blocking.l0 k (pl_all l) a m (i : Int)) (cb_tasks l a (l.drop i) m) := by
  intro d
  have hp := pl_length l
  induction d with
  | zero =>
    intro i m h1
    rw [List.drop_of_length_le (by omega)]
    refine Ev.step (f := fun _ => some m) (fun k => ?_) (Ev.now _)
    simp only [ontimeref44_Blocking.l0]; rw [if_neg (by omega)]
  | succ d ih =>
    intro i m h1
    have hi : i < l.length := by omega
    refine Ev.step (fun k => by simp only [ontimeref44_Blocking.l0]; rw [if_pos (by omega)]) ?_
    refine refblock_inner l a hv i hi _ _ 0 m rfl (Nat.zero_le _) ?_
    rw [List.drop_eq_getElem_cons hi]
    exact ih (i + 1) _ (by omega)
theorem refblock_ev (l : List S49) (i : Int) (hv : cv_valid l = true) (h0 : 0 ≤ i) (h1 : i < l.length) : Ev (fun k => ontimeref44_Blocking.f k (pl_all l) i) (cb_block l i) := by
  have hl := (good_all l hv).1
  unfold cb_block
  rw [hv, Bool.true_and, decide_eq_true ⟨h0, h1⟩, if_pos rfl]
  refine Ev.congr (fun k => ?_) (refblock_loop l i hv _ (i + 1).toNat 0 rfl)
  unfold ontimeref44_Blocking.f
  rw [cv_wrap (by omega) (by omega), Int.toNat_of_nonneg (by omega)]

theorem refinter_loop (l : List S49) (hv : cv_valid l = true) (n : Nat) (hn : n ≤ l.length) (w : Int) (w0 : 0 ≤ w) (w1 : w ≤ 100000) : ∀ (d i : Nat) (acc : Int), n - i = d → i ≤ n → 0 ≤ acc → acc ≤ i * 101000000 →
    Ev (fun k => ontimeref44_Interference.l0 k (pl_all l) (n : Int) w acc (i : Int)) (acc + rs_sum w ((l.take n).drop i)) := by
  have hp := pl_length l
  obtain ⟨hl, g⟩ := good_all l hv
  have ht : (l.take n).length = n := by rw [List.length_take]; omega
  intro d
  induction d with
  | zero =>
    intro i acc h1 h2 h3 h4
    refine Ev.step (f := fun _ => some acc) (fun k => ?_) ?_
    · simp only [ontimeref44_Interference.l0]; rw [if_neg (by omega)]
    · rw [List.drop_of_length_le (by omega)]; simp only [rs_sum, Int.add_zero]; exact Ev.now _
  | succ d ih =>
    intro i acc h1 h2 h3 h4
    have hi : i < l.length := by omega
    have gi := g _ (List.getElem_mem hi)
    have b1 := term_le gi w0 w1
    have b2 := term_nonneg gi w0
    refine Ev.step (f := fun k => ontimeref44_Interference.l0 k (pl_all l) (n : Int) w (acc + rs_term w l[i]) ((i + 1 : Nat) : Int)) (fun k => ?_) ?_
    · simp only [ontimeref44_Interference.l0]
      rw [if_pos (by omega), if_pos (by omega), if_pos (by omega), rd93_pl l i hi]
      obtain ⟨g1, g2, g3, g4, _, _⟩ := gi
      have q1 := q_le g3 w0
      have q2 := q_nonneg g3 w0
      rw [show (pl_task l[i]).f1 = l[i].f1 from rfl, show (pl_task l[i]).f0 = l[i].f0 from rfl]
      rw [if_neg (by omega), cv_wrap (x := w + l[i].f1) (by omega) (by omega), cv_wrap (x := w + l[i].f1 - 1) (by omega) (by omega), Int.tdiv_eq_ediv_of_nonneg (by omega)]
      rw [show (w + l[i].f1 - 1) / l[i].f1 = rs_q w l[i].f1 from rfl, cv_wrap (x := rs_q w l[i].f1) (by omega) (by omega), Int.mul_comm, show l[i].f0 * rs_q w l[i].f1 = rs_term w l[i] from rfl]
      rw [cv_wrap (x := rs_term w l[i]) (by omega) (by omega), cv_wrap (x := acc + rs_term w l[i]) (by omega) (by omega), cv_wrap (x := (i : Int) + 1) (by omega) (by omega)]
      rfl
    · have := ih (i + 1) (acc + rs_term w l[i]) (by omega) (by omega) (by omega) (by omega)
      rw [List.drop_eq_getElem_cons (by omega), List.getElem_take]
      simp only [rs_sum]
      rw [← Int.add_assoc]
      exact this
theorem refinter_ev (l : List S49) (hv : cv_valid l = true) (i w : Int) (h0 : 0 ≤ i) (h1 : i < l.length) (w0 : 0 ≤ w) (w1 : w ≤ 100000) : Ev (fun k => ontimeref44_Interference.f k (pl_all l) i w) (rs_sum w (l.take i.toNat)) := by
  have := refinter_loop l hv i.toNat (by omega) w w0 w1 _ 0 0 rfl (by omega) (by omega) (by omega)
  rw [List.drop_zero, Int.zero_add, Int.toNat_of_nonneg h0] at this
  exact this

theorem refresp_loop (l : List S49) (i : Int) (hv : cv_valid l = true) (h0 : 0 ≤ i) (h1 : i < l.length) : ∀ (d : Nat) (x : Int), ((rd_T49 l i).f2 + 1 - x).toNat ≤ d → rs_own l i ≤ x → (∀ w, rs_own l i ≤ w → w < x → rs_next l i w ≠ w) →
    ∃ r b, Ev (fun k => ontimeref44_Response.l0 k (pl_all l) i (rs_own l i) x) (r, b) ∧ RespIs l i r (if b then 0 else 21) := by
  intro d
  have hp := pl_length l
  have ho := own_range l i hv h0 h1
  have g := (good_all l hv).2 _ (rd49_mem l i h0 h1)
  have hlen := (good_all l hv).1
  have hf2 : (rd_T93 (pl_all l) i).f2 = (rd_T49 l i).f2 := by
    obtain ⟨n, rfl⟩ := Int.eq_ofNat_of_zero_le h0
    rw [rd93_pl l n (by omega), rd49_at l n (by omega)]
    rfl
  have late : ∀ x, ¬ x ≤ (rd_T49 l i).f2 → (∀ w, rs_own l i ≤ w → w < x → rs_next l i w ≠ w) → ∃ r b, Ev (fun k => ontimeref44_Response.l0 k (pl_all l) i (rs_own l i) x) (r, b) ∧ RespIs l i r (if b then 0 else 21) := by
    intro x hx hn
    refine ⟨0, false, Ev.step (f := fun _ => some (0, false)) (fun k => ?_) (Ev.now _), .inr ⟨rfl, rfl, fun w a b => hn w a (by omega)⟩⟩
    simp only [ontimeref44_Response.l0]
    rw [if_pos h0, if_pos (by omega), hf2, if_neg hx]
  induction d with
  | zero => exact fun x hd _ hn => late x (by omega) hn
  | succ d ih =>
    intro x hd hx hn
    by_cases hf : x ≤ (rd_T49 l i).f2
    · have hx2 : x ≤ 1000 := by unfold GoodT at g; omega
      have gt : ∀ t ∈ l.take i.toNat, GoodT t := fun t ht => (good_all l hv).2 t (List.mem_of_mem_take ht)
      have b1 := sum_nonneg (w := x) (by omega) _ gt
      have b2 := sum_le (w := x) (by omega) (by omega) _ gt
      rw [List.length_take] at b2
      have hI := refinter_ev l hv i x h0 h1 (by omega) (by omega)
      have hs : ∀ k, ontimeref44_Response.l0 (k + 1) (pl_all l) i (rs_own l i) x = (ontimeref44_Interference.f k (pl_all l) i x).bind fun t => (if (wrap64 (rs_own l i + t)) = x then (some (x, true)) else (ontimeref44_Response.l0 k (pl_all l) i (rs_own l i) (x + 1))) := by
        intro k
        simp only [ontimeref44_Response.l0]
        rw [if_pos h0, if_pos (by omega), hf2, if_pos hf, cv_wrap (x := x + 1) (by omega) (by omega)]
      have hw : wrap64 (rs_own l i + rs_sum x (l.take i.toNat)) = rs_next l i x := cv_wrap (by omega) (by omega)
      by_cases he : rs_next l i x = x
      · refine ⟨x, true, Ev.step hs (Ev.bind hI ?_), .inl ⟨rfl, hx, hf, he, hn⟩⟩
        rw [hw]
        simp only [he, if_true]
        exact Ev.now _
      · obtain ⟨r, e, h3, h4⟩ := ih (x + 1) (by omega) (by omega) (fun w a b => by
          by_cases c : w = x
          · rw [c]; exact he
          · exact hn w a (by omega))
        refine ⟨r, e, Ev.step hs (Ev.bind hI ?_), h4⟩
        rw [hw]
        simp only [he, if_false]
        exact h3
    · exact late x hf hn
theorem refresp_ev (l : List S49) (i : Int) (hv : cv_valid l = true) (h0 : 0 ≤ i) (h1 : i < l.length) : ∃ r b, Ev (fun k => ontimeref44_Response.f k (pl_all l) i) (r, b) ∧ RespIs l i r (if b then 0 else 21) := by
  have ho := own_range l i hv h0 h1
  have hp := pl_length l
  obtain ⟨r, b, h, h2⟩ := refresp_loop l i hv h0 h1 _ (rs_own l i) (Nat.le_refl _) (Int.le_refl _) (fun w a b => by omega)
  refine ⟨r, b, ?_, h2⟩
  unfold ontimeref44_Response.f
  refine Ev.congr (fun k => by rw [if_pos h0, if_pos (by omega)]) (Ev.bind (refblock_ev l i hv h0 h1) ?_)
  have hf0 : (rd_T93 (pl_all l) i).f0 = (rd_T49 l i).f0 := by
    obtain ⟨n, rfl⟩ := Int.eq_ofNat_of_zero_le h0
    rw [rd93_pl l n (by omega), rd49_at l n (by omega)]
    rfl
  rw [hf0, show wrap64 ((rd_T49 l i).f0 + cb_block l i) = rs_own l i from cv_wrap (x := rs_own l i) (by omega) (by omega)]
  exact h
end Go.Proofs.Ytbhmaijmdkpmlaa.Plain
