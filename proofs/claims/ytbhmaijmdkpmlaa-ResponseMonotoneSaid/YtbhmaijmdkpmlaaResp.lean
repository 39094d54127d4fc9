/- The program's response times in plain words: sums of rounded-up windows; the least number that solves the equation. -/
import Derived.Test.YtbhmaijmdkpmlaaPx14
import Derived.Test.YtbhmaijmdkpmlaaPx12
namespace Go.Proofs.Ytbhmaijmdkpmlaa.Plain
open Go.RowKit Go.Proofs.Ytbhmaijmdkpmlaa.P Go.Proofs.YtbhmaijmdkpmlaaW.PrintWords
set_option linter.unusedVariables false

/-- What a valid task is, as far as times go. -/
def GoodT (t : S49) : Prop := 1 ≤ t.f0 ∧ t.f0 ≤ 1000 ∧ 1 ≤ t.f1 ∧ t.f1 ≤ 1000 ∧ 1 ≤ t.f2 ∧ t.f2 ≤ t.f1
theorem good_all (l : List S49) (hv : cv_valid l = true) : l.length ≤ 20 ∧ ∀ t ∈ l, GoodT t := by
  unfold cv_valid at hv
  rw [Bool.and_eq_true, decide_eq_true_eq, List.all_eq_true] at hv
  refine ⟨hv.1, fun t ht => ?_⟩
  have ht := hv.2 _ ht
  unfold cv_task at ht
  rw [Bool.and_eq_true, decide_eq_true_eq] at ht
  exact ⟨ht.1.1, ht.1.2.1, ht.1.2.2.1, ht.1.2.2.2.1, ht.1.2.2.2.2.1, ht.1.2.2.2.2.2.1⟩

/-- How many releases a window sees. -/
def rs_q (w p : Int) : Int := (w + p - 1) / p
def rs_term (w : Int) (t : S49) : Int := t.f0 * rs_q w t.f1
def rs_sum (w : Int) : List S49 → Int
  | [] => 0
  | t :: ts => rs_term w t + rs_sum w ts
theorem q_mono {v w p : Int} (hp : 1 ≤ p) (h : v ≤ w) : rs_q v p ≤ rs_q w p := Int.ediv_le_ediv (by omega) (by omega)
theorem q_zero {p : Int} (hp : 1 ≤ p) : rs_q 0 p = 0 := by unfold rs_q; exact Int.ediv_eq_zero_of_lt (by omega) (by omega)
theorem q_nonneg {w p : Int} (hp : 1 ≤ p) (h : 0 ≤ w) : 0 ≤ rs_q w p := Int.ediv_nonneg (by omega) (by omega)
theorem q_le {w p : Int} (hp : 1 ≤ p) (h : 0 ≤ w) : rs_q w p ≤ w + p := by
  unfold rs_q
  exact Int.le_trans (Int.ediv_le_self _ (by omega)) (by omega)
theorem q_add {v w p : Int} (hp : 1 ≤ p) : rs_q (v + w) p ≤ rs_q v p + rs_q w p := by
  unfold rs_q
  have a := Int.emod_add_mul_ediv (v + p - 1) p
  have b := Int.emod_add_mul_ediv (w + p - 1) p
  have c := Int.emod_lt_of_pos (v + p - 1) (show 0 < p by omega)
  have d := Int.emod_lt_of_pos (w + p - 1) (show 0 < p by omega)
  refine Int.lt_add_one_iff.1 (Int.ediv_lt_of_lt_mul (by omega) ?_)
  have e : (((v + p - 1) / p + (w + p - 1) / p + 1) * p) = p * ((v + p - 1) / p) + p * ((w + p - 1) / p) + p := by
    rw [Int.add_mul, Int.add_mul, Int.mul_comm p, Int.mul_comm p, Int.one_mul]
  rw [e]
  omega
theorem term_mono {v w : Int} {t : S49} (g : GoodT t) (h : v ≤ w) : rs_term v t ≤ rs_term w t := Int.mul_le_mul_of_nonneg_left (q_mono g.2.2.1 h) (by have := g.1; omega)
theorem term_nonneg {w : Int} {t : S49} (g : GoodT t) (h : 0 ≤ w) : 0 ≤ rs_term w t := Int.mul_nonneg (by have := g.1; omega) (q_nonneg g.2.2.1 h)
theorem term_le {w : Int} {t : S49} (g : GoodT t) (h : 0 ≤ w) (h2 : w ≤ 100000) : rs_term w t ≤ 101000000 := by
  have a := q_le g.2.2.1 h
  have b := q_nonneg g.2.2.1 h
  obtain ⟨g1, g2, g3, g4, _, _⟩ := g
  unfold rs_term
  calc t.f0 * rs_q w t.f1 ≤ 1000 * rs_q w t.f1 := Int.mul_le_mul_of_nonneg_right g2 b
    _ ≤ 1000 * 101000 := Int.mul_le_mul_of_nonneg_left (by omega) (by omega)
    _ = 101000000 := rfl
theorem term_add {v w : Int} {t : S49} (g : GoodT t) : rs_term (v + w) t ≤ rs_term v t + rs_term w t := by
  unfold rs_term
  rw [← Int.mul_add]
  exact Int.mul_le_mul_of_nonneg_left (q_add g.2.2.1) (by have := g.1; omega)
theorem sum_mono {v w : Int} (h : v ≤ w) : ∀ ts : List S49, (∀ t ∈ ts, GoodT t) → rs_sum v ts ≤ rs_sum w ts
  | [], _ => Int.le_refl _
  | t :: ts, g => Int.add_le_add (term_mono (g t (List.mem_cons_self ..)) h) (sum_mono h ts (fun u hu => g u (List.mem_cons_of_mem _ hu)))
theorem sum_nonneg {w : Int} (h : 0 ≤ w) : ∀ ts : List S49, (∀ t ∈ ts, GoodT t) → 0 ≤ rs_sum w ts
  | [], _ => Int.le_refl _
  | t :: ts, g => Int.add_nonneg (term_nonneg (g t (List.mem_cons_self ..)) h) (sum_nonneg h ts (fun u hu => g u (List.mem_cons_of_mem _ hu)))
theorem sum_le {w : Int} (h : 0 ≤ w) (h2 : w ≤ 100000) : ∀ ts : List S49, (∀ t ∈ ts, GoodT t) → rs_sum w ts ≤ ts.length * 101000000
  | [], _ => by simp [rs_sum]
  | t :: ts, g => by
    have a := term_le (g t (List.mem_cons_self ..)) h h2
    have b := sum_le h h2 ts (fun u hu => g u (List.mem_cons_of_mem _ hu))
    simp only [rs_sum, List.length_cons]
    omega
theorem sum_zero : ∀ ts : List S49, (∀ t ∈ ts, GoodT t) → rs_sum 0 ts = 0
  | [], _ => rfl
  | t :: ts, g => by
    have b := sum_zero ts (fun u hu => g u (List.mem_cons_of_mem _ hu))
    simp only [rs_sum, rs_term]
    rw [q_zero (g t (List.mem_cons_self ..)).2.2.1, b]; simp
theorem sum_add {v w : Int} : ∀ ts : List S49, (∀ t ∈ ts, GoodT t) → rs_sum (v + w) ts ≤ rs_sum v ts + rs_sum w ts
  | [], _ => by simp [rs_sum]
  | t :: ts, g => by
    have a := term_add (v := v) (w := w) (g t (List.mem_cons_self ..))
    have b := sum_add (v := v) (w := w) ts (fun u hu => g u (List.mem_cons_of_mem _ hu))
    simp only [rs_sum]
    omega

theorem inter_loop (w : Int) (ts : List S49) (w0 : 0 ≤ w) (w1 : w ≤ 100000) (hl : ts.length ≤ 20) (g : ∀ t ∈ ts, GoodT t) : ∀ (d i : Nat) (acc : Int), ts.length - i = d → i ≤ ts.length → 0 ≤ acc → acc ≤ i * 101000000 →
    Ev (fun k => response_Interference.l0 k w acc ts (ts.length : Int) (i : Int)) (acc + rs_sum w (ts.drop i)) := by
  intro d
  induction d with
  | zero =>
    intro i acc h1 h2 h3 h4
    refine Ev.step (f := fun _ => some acc) (fun k => ?_) ?_
    · simp only [response_Interference.l0]; rw [if_neg (by omega)]
    · rw [List.drop_of_length_le (by omega)]; simp only [rs_sum, Int.add_zero]; exact Ev.now _
  | succ d ih =>
    intro i acc h1 h2 h3 h4
    have hi : i < ts.length := by omega
    have gi := g _ (List.getElem_mem hi)
    have b1 := term_le gi w0 w1
    have b2 := term_nonneg gi w0
    refine Ev.step (f := fun k => response_Interference.l0 k w (acc + rs_term w ts[i]) ts (ts.length : Int) ((i + 1 : Nat) : Int)) (fun k => ?_) ?_
    · simp only [response_Interference.l0]
      rw [if_pos (by omega), if_pos (by omega), if_pos (by omega), rd49_at ts i hi]
      obtain ⟨g1, g2, g3, g4, _, _⟩ := gi
      have q1 := q_le g3 w0
      have q2 := q_nonneg g3 w0
      rw [if_neg (by omega), cv_wrap (x := w + ts[i].f1) (by omega) (by omega), cv_wrap (x := w + ts[i].f1 - 1) (by omega) (by omega), Int.tdiv_eq_ediv_of_nonneg (by omega)]
      rw [show (w + ts[i].f1 - 1) / ts[i].f1 = rs_q w ts[i].f1 from rfl, cv_wrap (x := rs_q w ts[i].f1) (by omega) (by omega), show ts[i].f0 * rs_q w ts[i].f1 = rs_term w ts[i] from rfl]
      rw [cv_wrap (x := rs_term w ts[i]) (by omega) (by omega), cv_wrap (x := acc + rs_term w ts[i]) (by omega) (by omega), cv_wrap (x := (i : Int) + 1) (by omega) (by omega)]
      rfl
    · have := ih (i + 1) (acc + rs_term w ts[i]) (by omega) (by omega) (by omega) (by omega)
      rw [List.drop_eq_getElem_cons hi]
      simp only [rs_sum]
      rw [← Int.add_assoc]
      exact this

/-- What Interference tells. -/
def rs_inter (l : List S49) (i w : Int) : Int := if cv_valid l && decide (0 ≤ i ∧ i < l.length) && decide (0 ≤ w ∧ w ≤ 100000) then rs_sum w (l.take i.toNat) else -1
theorem inter_ev (l : List S49) (i w : Int) : Ev (fun k => response_Interference.f k l i w) (rs_inter l i w) := by
  have skip : Ev (fun k => response_Interference.j0 k l i w true) (-1) := Ev.step (f := fun _ => some (-1)) (fun k => by simp only [response_Interference.j0, if_true]) (Ev.now _)
  unfold rs_inter
  cases hk : (cv_valid l && decide (0 ≤ i ∧ i < l.length))
  · refine Ev.congr (fun k => ?_) skip
    unfold response_Interference.f
    rw [cb_known, hk, Option.bind_some, if_neg (by decide)]
  · rw [Bool.true_and]
    obtain ⟨hv, hi⟩ := (by simpa only [Bool.and_eq_true, decide_eq_true_eq] using hk : cv_valid l = true ∧ 0 ≤ i ∧ i < l.length)
    by_cases h1 : w < 0
    · rw [decide_eq_false (by omega)]
      refine Ev.congr (fun k => ?_) skip
      unfold response_Interference.f
      rw [cb_known, hk, Option.bind_some, if_pos rfl, if_pos h1]
    by_cases h2 : w > 100000
    · rw [decide_eq_false (by omega)]
      refine Ev.congr (fun k => ?_) skip
      unfold response_Interference.f
      rw [cb_known, hk, Option.bind_some, if_pos rfl, if_neg h1, decide_eq_true h2]
    rw [decide_eq_true (by omega), if_pos rfl]
    obtain ⟨hl, g⟩ := good_all l hv
    have := inter_loop w (l.take i.toNat) (by omega) (by omega) (by rw [List.length_take]; omega) (fun t ht => g t (List.mem_of_mem_take ht)) (l.take i.toNat).length 0 0 (by omega) (by omega) (by omega) (by omega)
    rw [List.drop_zero, Int.zero_add] at this
    refine Ev.congr (f := fun k => response_Interference.j0 k l i w false) (fun k => ?_) (Ev.step (fun k => ?_) this)
    · unfold response_Interference.f
      rw [cb_known, hk, Option.bind_some, if_pos rfl, if_neg h1, decide_eq_false h2]
    · simp only [response_Interference.j0]
      rw [if_neg (by decide), if_pos (by omega), if_pos (by omega), Option.bind_some]
      rfl

theorem secs_range (l : List S49) (task : Int) : ∀ (ss : List S68) (m : Int), 0 ≤ m → m ≤ 1000 → (∀ s ∈ ss, 0 ≤ s.f1 ∧ s.f1 < s.f2 ∧ s.f2 ≤ 1000) → 0 ≤ cb_secs l task ss m ∧ cb_secs l task ss m ≤ 1000
  | [], m, h0, h1, _ => ⟨h0, h1⟩
  | s :: ss, m, h0, h1, h => by
    have hs := h s (List.mem_cons_self ..)
    have e : cb_secs l task (s :: ss) m = cb_secs l task ss (if cl_at l s.f0 ≤ task then (if m < s.f2 - s.f1 - 1 then s.f2 - s.f1 - 1 else m) else m) := rfl
    rw [e]
    have hm : ∀ y : Int, y = (if cl_at l s.f0 ≤ task then (if m < s.f2 - s.f1 - 1 then s.f2 - s.f1 - 1 else m) else m) → 0 ≤ y ∧ y ≤ 1000 := by
      intro y hy
      by_cases c1 : cl_at l s.f0 ≤ task
      · rw [if_pos c1] at hy
        by_cases c2 : m < s.f2 - s.f1 - 1
        · rw [if_pos c2] at hy; omega
        · rw [if_neg c2] at hy; omega
      · rw [if_neg c1] at hy; omega
    exact secs_range l task ss _ (hm _ rfl).1 (hm _ rfl).2 (fun u hu => h u (List.mem_cons_of_mem _ hu))
theorem tasks_range (l : List S49) (task : Int) : ∀ (ts : List S49) (m : Int), 0 ≤ m → m ≤ 1000 → (∀ t ∈ ts, ∀ s ∈ t.f3, 0 ≤ s.f1 ∧ s.f1 < s.f2 ∧ s.f2 ≤ 1000) → 0 ≤ cb_tasks l task ts m ∧ cb_tasks l task ts m ≤ 1000
  | [], m, h0, h1, _ => ⟨h0, h1⟩
  | t :: ts, m, h0, h1, h => by
    have e : cb_tasks l task (t :: ts) m = cb_tasks l task ts (cb_secs l task t.f3 m) := rfl
    obtain ⟨a, b⟩ := secs_range l task t.f3 m h0 h1 (h t (List.mem_cons_self ..))
    rw [e]
    exact tasks_range l task ts _ a b (fun u hu => h u (List.mem_cons_of_mem _ hu))
theorem block_range (l : List S49) (i : Int) (hv : cv_valid l = true) (h0 : 0 ≤ i) (h1 : i < l.length) : 0 ≤ cb_block l i ∧ cb_block l i ≤ 1000 := by
  unfold cb_block
  rw [hv, Bool.true_and, decide_eq_true ⟨h0, h1⟩, if_pos rfl]
  refine tasks_range l i _ 0 (by omega) (by omega) (fun t ht s hs => ?_)
  have := (cb_parts l hv).2 t (List.mem_of_mem_drop ht)
  exact (this.2 s hs).2.2

/-- One step of the iteration. -/
def rs_own (l : List S49) (i : Int) : Int := (rd_T49 l i).f0 + cb_block l i
def rs_next (l : List S49) (i w : Int) : Int := rs_own l i + rs_sum w (l.take i.toNat)
/-- What Response tells. -/
def RespIs (l : List S49) (i r e : Int) : Prop :=
  (e = 0 ∧ rs_own l i ≤ r ∧ r ≤ (rd_T49 l i).f2 ∧ rs_next l i r = r ∧ ∀ w, rs_own l i ≤ w → w < r → rs_next l i w ≠ w) ∨
  (e = 21 ∧ r = 0 ∧ ∀ w, rs_own l i ≤ w → w ≤ (rd_T49 l i).f2 → rs_next l i w ≠ w)
theorem RespIs.unique {l : List S49} {i r e r' e' : Int} (h : RespIs l i r e) (h' : RespIs l i r' e') : r = r' ∧ e = e' := by
  rcases h with ⟨a1, a2, a3, a4, a5⟩ | ⟨a1, a2, a3⟩ <;> rcases h' with ⟨b1, b2, b3, b4, b5⟩ | ⟨b1, b2, b3⟩
  · rcases Int.lt_trichotomy r r' with c | c | c
    · exact absurd a4 (b5 r a2 c)
    · exact ⟨c, by omega⟩
    · exact absurd b4 (a5 r' b2 c)
  · exact absurd a4 (b3 r a2 a3)
  · exact absurd b4 (a3 r' b2 b3)
  · exact ⟨by omega, by omega⟩
theorem rd49_mem (l : List S49) (i : Int) (h0 : 0 ≤ i) (h1 : i < l.length) : rd_T49 l i ∈ l := by
  obtain ⟨n, rfl⟩ := Int.eq_ofNat_of_zero_le h0
  rw [rd49_at l n (by omega)]
  exact List.getElem_mem _
theorem next_mono (l : List S49) (i : Int) (hv : cv_valid l = true) {v w : Int} (h : v ≤ w) : rs_next l i v ≤ rs_next l i w := by
  have := sum_mono h (l.take i.toNat) (fun t ht => (good_all l hv).2 t (List.mem_of_mem_take ht))
  unfold rs_next
  omega
theorem own_range (l : List S49) (i : Int) (hv : cv_valid l = true) (h0 : 0 ≤ i) (h1 : i < l.length) : 1 ≤ rs_own l i ∧ rs_own l i ≤ 2000 := by
  have := block_range l i hv h0 h1
  have g := (good_all l hv).2 _ (rd49_mem l i h0 h1)
  unfold rs_own
  unfold GoodT at g
  omega
theorem resp_loop (l : List S49) (i : Int) (hv : cv_valid l = true) (h0 : 0 ≤ i) (h1 : i < l.length) : ∀ (d : Nat) (x : Int), ((rd_T49 l i).f2 + 1 - x).toNat ≤ d → rs_own l i ≤ x → x ≤ rs_next l i x → (∀ w, rs_own l i ≤ w → w < x → rs_next l i w ≠ w) →
    ∃ r e, Ev (fun k => response_Response.l0 k l i (rs_own l i) x) (r, e) ∧ RespIs l i r e := by
  intro d
  have ho := own_range l i hv h0 h1
  have g := (good_all l hv).2 _ (rd49_mem l i h0 h1)
  have hlen := (good_all l hv).1
  have late : ∀ x, ¬ x ≤ (rd_T49 l i).f2 → (∀ w, rs_own l i ≤ w → w < x → rs_next l i w ≠ w) → ∃ r e, Ev (fun k => response_Response.l0 k l i (rs_own l i) x) (r, e) ∧ RespIs l i r e := by
    intro x hx hn
    refine ⟨0, 21, Ev.step (f := fun _ => some (0, 21)) (fun k => ?_) (Ev.now _), .inr ⟨rfl, rfl, fun w a b => hn w a (by omega)⟩⟩
    simp only [response_Response.l0]
    rw [if_pos h0, if_pos h1, if_neg hx]
  induction d with
  | zero => exact fun x hd _ _ hn => late x (by omega) hn
  | succ d ih =>
    intro x hd hx hle hn
    by_cases hf : x ≤ (rd_T49 l i).f2
    · have hx2 : x ≤ 1000 := by unfold GoodT at g; omega
      have gt : ∀ t ∈ l.take i.toNat, GoodT t := fun t ht => (good_all l hv).2 t (List.mem_of_mem_take ht)
      have b1 := sum_nonneg (w := x) (by omega) _ gt
      have b2 := sum_le (w := x) (by omega) (by omega) _ gt
      rw [List.length_take] at b2
      have hI : Ev (fun k => response_Interference.f k l i x) (rs_sum x (l.take i.toNat)) := by
        have := inter_ev l i x
        unfold rs_inter at this
        rw [hv, Bool.true_and, decide_eq_true ⟨h0, h1⟩, Bool.true_and, decide_eq_true (by omega), if_pos rfl] at this
        exact this
      have hs : ∀ k, response_Response.l0 (k + 1) l i (rs_own l i) x = (response_Interference.f k l i x).bind fun t121 => (if (wrap64 (rs_own l i + t121)) = x then (some (x, 0)) else (response_Response.l0 k l i (rs_own l i) (wrap64 (rs_own l i + t121)))) := by
        intro k
        simp only [response_Response.l0]
        rw [if_pos h0, if_pos h1, if_pos hf]
      have hw : wrap64 (rs_own l i + rs_sum x (l.take i.toNat)) = rs_next l i x := cv_wrap (by omega) (by omega)
      by_cases he : rs_next l i x = x
      · refine ⟨x, 0, Ev.step hs (Ev.bind hI ?_), .inl ⟨rfl, hx, hf, he, hn⟩⟩
        rw [hw]
        simp only [he, if_true]
        exact Ev.now _
      · obtain ⟨r, e, h3, h4⟩ := ih (rs_next l i x) (by omega) (by omega) (next_mono l i hv hle) (fun w a b => by
          by_cases c : w < x
          · exact hn w a c
          · have := next_mono l i hv (show x ≤ w by omega)
            omega)
        refine ⟨r, e, Ev.step hs (Ev.bind hI ?_), h4⟩
        rw [hw]
        simp only [he, if_false]
        exact h3
    · exact late x hf hn
theorem resp_ev (l : List S49) (i : Int) (hv : cv_valid l = true) (h0 : 0 ≤ i) (h1 : i < l.length) : ∃ r e, Ev (fun k => response_Response.f k l i) (r, e) ∧ RespIs l i r e := by
  have ho := own_range l i hv h0 h1
  have hb := block_range l i hv h0 h1
  have hn := sum_nonneg (w := rs_own l i) (by omega) (l.take i.toNat) (fun t ht => (good_all l hv).2 t (List.mem_of_mem_take ht))
  obtain ⟨r, e, h, h2⟩ := resp_loop l i hv h0 h1 _ (rs_own l i) (Nat.le_refl _) (Int.le_refl _) (by unfold rs_next; omega) (fun w a b => by omega)
  refine ⟨r, e, Ev.congr (fun k => ?_) h, h2⟩
  unfold response_Response.f ceiling_Valid.f response_Blocking.f
  rw [cb_known, hv, Option.bind_some, if_pos rfl, Bool.true_and, decide_eq_true ⟨h0, h1⟩, Option.bind_some, if_pos rfl, if_pos h0, if_pos h1, Option.bind_some]
  rw [show wrap64 ((rd_T49 l i).f0 + cb_block l i) = rs_own l i from cv_wrap (x := rs_own l i) (by omega) (by omega)]
theorem resp_bad (l : List S49) (i : Int) (k : Nat) (hv : cv_valid l = false) : response_Response.f k l i = some (0, 1) := by
  unfold response_Response.f ceiling_Valid.f
  rw [hv, Option.bind_some, if_neg (by decide)]
theorem resp_out (l : List S49) (i : Int) (k : Nat) (hv : cv_valid l = true) (h : ¬ (0 ≤ i ∧ i < l.length)) : response_Response.f k l i = some (0, 2) := by
  unfold response_Response.f ceiling_Valid.f
  rw [cb_known, hv, Option.bind_some, if_pos rfl, Bool.true_and, decide_eq_false h, Option.bind_some, if_neg (by decide)]
end Go.Proofs.Ytbhmaijmdkpmlaa.Plain
