/- ResponseTimes, over lists of numbers alone. -/
import Derived.Test.YtbhmaijmdkpmlaaPx45
import Derived.Test.YtbhmaijmdkpmlaaRef44
namespace Go.Proofs.Ytbhmaijmdkpmlaa.Pure
open Go.RowKit Go.Proofs.Ytbhmaijmdkpmlaa.P Go.Proofs.Ytbhmaijmdkpmlaa.Plain Go.Proofs.YtbhmaijmdkpmlaaW.PrintWords
set_option linter.unusedVariables false

/-- All response times up to a task, and whether one was late. -/
inductive Upto (l : List S49) : Nat → List Int → Bool → Prop
  | zero : Upto l 0 [] false
  | ok {n : Nat} {xs : List Int} {r : Int} {b : Bool} : Upto l n xs b → RespIs l n r 0 → Upto l (n + 1) (xs ++ [r]) b
  | late {n : Nat} {xs : List Int} {b : Bool} : Upto l n xs b → RespIs l n 0 21 → Upto l (n + 1) (xs ++ [0]) true
theorem Upto.length {l : List S49} {n : Nat} {xs : List Int} {b : Bool} (h : Upto l n xs b) : xs.length = n := by
  induction h with
  | zero => rfl
  | ok _ _ ih => rw [List.length_append, ih]; rfl
  | late _ _ ih => rw [List.length_append, ih]; rfl
theorem Upto.unique {l : List S49} {n : Nat} {xs ys : List Int} {b c : Bool} (h : Upto l n xs b) (g : Upto l n ys c) : xs = ys ∧ b = c := by
  induction h generalizing ys c with
  | zero => cases g; exact ⟨rfl, rfl⟩
  | ok h1 h2 ih =>
    cases g with
    | ok g1 g2 =>
      obtain ⟨rfl, rfl⟩ := ih g1
      exact ⟨by rw [(h2.unique g2).1], rfl⟩
    | late g1 g2 => exact absurd (h2.unique g2).2 (by decide)
  | late h1 h2 ih =>
    cases g with
    | ok g1 g2 => exact absurd (h2.unique g2).2 (by decide)
    | late g1 g2 =>
      obtain ⟨rfl, rfl⟩ := ih g1
      exact ⟨rfl, rfl⟩
theorem upto_late {l : List S49} {n m : Nat} {xs : List Int} {b : Bool} (h : Upto l n xs b) (hm : m < n) (hl : RespIs l m 0 21) : b = true := by
  induction h with
  | zero => omega
  | ok h1 h2 ih =>
    rename_i n xs r b
    by_cases e : m = n
    · subst e; exact absurd (h2.unique hl).2 (by decide)
    · exact ih (by omega)
  | late h1 h2 ih => rfl
theorem resp_two {l : List S49} {i r e : Int} (h : RespIs l i r e) : (e = 0 ∧ RespIs l i r 0) ∨ (e = 21 ∧ r = 0 ∧ RespIs l i 0 21) := by
  have h' := h
  rcases h with ⟨a, _⟩ | ⟨a, b, _⟩
  · rw [a] at h'; exact .inl ⟨a, h'⟩
  · rw [a, b] at h'; exact .inr ⟨a, b, h'⟩
/-- All: the times of all tasks, or nothing and the error. -/
theorem all_loop (l : List S49) (hv : cv_valid l = true) : ∀ (d i : Nat) (xs : List Int), l.length - i = d → i ≤ l.length → Upto l i xs false →
    (∃ ys, Ev (fun k => response_All.l0 k l xs (l.length : Int) (i : Int)) (ys, 0) ∧ Upto l l.length ys false) ∨ (∃ m, m < l.length ∧ RespIs l m 0 21 ∧ Ev (fun k => response_All.l0 k l xs (l.length : Int) (i : Int)) ([], 21)) := by
  intro d
  have hL := (good_all l hv).1
  induction d with
  | zero =>
    intro i xs h1 h2 hU
    obtain rfl : i = l.length := by omega
    refine .inl ⟨xs, Ev.step (f := fun _ => some (xs, 0)) (fun k => ?_) (Ev.now _), hU⟩
    simp only [response_All.l0]; rw [if_neg (by omega)]
  | succ d ih =>
    intro i xs h1 h2 hU
    have hlen := hU.length
    obtain ⟨r, e, hr, hR⟩ := resp_ev l i hv (by omega) (by omega)
    have hs : ∀ k, response_All.l0 (k + 1) l xs (l.length : Int) (i : Int) = (response_Response.f k l i).bind fun bt => (if bt.2 = 0 then response_All.l0 k l (xs ++ [bt.1]) (l.length : Int) ((i + 1 : Nat) : Int) else some ([], bt.2)) := by
      intro k
      simp only [response_All.l0]
      rw [if_pos (by omega), cv_wrap (x := (i : Int) + 1) (by omega) (by omega)]
      congr 1
      funext bt
      by_cases c : bt.2 = 0
      · rw [if_pos c, if_pos c, if_pos (by omega)]; rfl
      · rw [if_neg c, if_neg c]
    rcases resp_two hR with ⟨rfl, h3⟩ | ⟨rfl, rfl, h3⟩
    · rcases ih (i + 1) (xs ++ [r]) (by omega) (by omega) (.ok hU h3) with ⟨ys, a, b⟩ | ⟨m, a, b, c⟩
      · exact .inl ⟨ys, Ev.step hs (Ev.bind hr (Ev.congr (fun k => if_pos rfl) a)), b⟩
      · exact .inr ⟨m, a, b, Ev.step hs (Ev.bind hr (Ev.congr (fun k => if_pos rfl) c))⟩
    · exact .inr ⟨i, by omega, h3, Ev.step hs (Ev.bind hr (Ev.congr (fun k => if_neg (by decide)) (Ev.now _)))⟩
theorem all_ev (l : List S49) (hv : cv_valid l = true) : (∃ ys, Ev (fun k => response_All.f k l) (ys, 0) ∧ Upto l l.length ys false) ∨ (∃ m, m < l.length ∧ RespIs l m 0 21 ∧ Ev (fun k => response_All.f k l) ([], 21)) := by
  have e : ∀ k, response_All.f k l = response_All.l0 k l [] (l.length : Int) ((0 : Nat) : Int) := by
    intro k
    unfold response_All.f ceiling_Valid.f
    rw [hv, Option.bind_some, if_pos rfl]
    rfl
  rcases all_loop l hv _ 0 [] rfl (Nat.zero_le _) .zero with ⟨ys, a, b⟩ | ⟨m, a, b, c⟩
  · exact .inl ⟨ys, Ev.congr e a, b⟩
  · exact .inr ⟨m, a, b, Ev.congr e c⟩
theorem sched_ev {l : List S49} {ys : List Int} {e : Int} (h : Ev (fun k => response_All.f k l) (ys, e)) : Ev (fun k => response_Schedulable.f k l) (e == 0) := Ev.bind h (Ev.now _)

theorem times_j4 (l : List S49) (i r e : Int) (hv : cv_valid l = true) (hR : Ev (fun k => response_Response.f k l i) (r, e)) :
    Ev (fun k => ontimelaw44_ResponseTimes.j4 k l i r e (decide (i < 0 ∨ i ≥ l.length))) true := by
  by_cases h : 0 ≤ i ∧ i < l.length
  · rw [decide_eq_false (by omega)]
    obtain ⟨r', e', h1, h2⟩ := resp_ev l i hv h.1 h.2
    have : (r, e) = (r', e') := by
      obtain ⟨K, a⟩ := hR
      obtain ⟨K', b⟩ := h1
      have := (a (max K K') (by omega)).symm.trans (b (max K K') (by omega))
      exact Option.some.inj this
    obtain ⟨rfl, rfl⟩ := Prod.mk.inj this
    obtain ⟨r2, b, h3, h4⟩ := refresp_ev l i hv h.1 h.2
    obtain ⟨rfl, h5⟩ := h2.unique h4
    refine Ev.step (fun k => by simp only [ontimelaw44_ResponseTimes.j4]; rw [if_neg (by decide)]) (Ev.bind (plain44_ev l (small_of_valid l hv)) (Ev.bind h3 ?_))
    cases b
    · have h5 : e = 21 := h5
      subst h5
      rcases h2 with ⟨a, _⟩ | ⟨_, a, _⟩
      · exact absurd a (by decide)
      · subst a; exact Ev.now _
    · have h5 : e = 0 := h5
      subst h5
      exact Ev.congr (fun k => by simp) (Ev.now _)
  · rw [decide_eq_true (by omega)]
    have e1 : (r, e) = (0, 2) := by
      obtain ⟨K, a⟩ := hR
      have := a K (Nat.le_refl _)
      simp only at this
      rw [resp_out l i K hv h] at this
      exact (Option.some.inj this).symm
    obtain ⟨rfl, rfl⟩ := Prod.mk.inj e1
    refine Ev.step (f := fun _ => some true) (fun k => ?_) (Ev.now _)
    simp only [ontimelaw44_ResponseTimes.j4]
    rfl
theorem times_l1 (l : List S49) (i r e : Int) (hv : cv_valid l = true) (hR : Ev (fun k => response_Response.f k l i) (r, e)) (xs ys : List Int) (hxy : xs = [] ∨ xs = ys) (hl : xs.length ≤ 100) : ∀ (d j : Nat), xs.length - j = d → j ≤ xs.length →
    Ev (fun k => ontimelaw44_ResponseTimes.l1 k l i r e xs ys (xs.length : Int) (j : Int)) true := by
  intro d
  induction d with
  | zero =>
    intro j h1 h2
    refine Ev.step (fun k => ?_) (times_j4 l i r e hv hR)
    simp only [ontimelaw44_ResponseTimes.l1]
    rw [if_neg (by omega)]
    by_cases c : i < 0
    · rw [if_pos c, decide_eq_true (Or.inl c)]
    · rw [if_neg c]
      congr 1
      exact decide_eq_decide.2 ⟨fun h => .inr h, fun h => h.resolve_left c⟩
  | succ d ih =>
    intro j h1 h2
    have : xs = ys := by
      rcases hxy with rfl | h
      · simp at h1
      · exact h
    subst this
    refine Ev.step (fun k => ?_) (ih (j + 1) (by omega) (by omega))
    simp only [ontimelaw44_ResponseTimes.l1]
    rw [if_pos (by omega), if_pos (by omega), if_pos (by omega), if_pos (by omega), if_pos trivial, cv_wrap (x := (j : Int) + 1) (by omega) (by omega)]
    rfl
theorem times_j2 (l : List S49) (i r e : Int) (hv : cv_valid l = true) (hR : Ev (fun k => response_Response.f k l i) (r, e)) (xs ys : List Int) (hxy : xs = [] ∨ xs = ys) (hl : xs.length ≤ 100) :
    Ev (fun k => ontimelaw44_ResponseTimes.j2 k l i r e xs ys false) true := by
  refine Ev.step (fun k => ?_) (times_l1 l i r e hv hR xs ys hxy hl _ 0 rfl (Nat.zero_le _))
  simp only [ontimelaw44_ResponseTimes.j2]
  rw [if_neg (by decide)]
  rfl
/-- What has come of All fits what has come of the reference. -/
def Fits (l : List S49) (all : List Int) (f : Int) (ys : List Int) (b : Bool) : Prop := (b = false ∧ f = 0 ∧ all = ys ∧ ys.length = l.length) ∨ (b = true ∧ f = 21 ∧ all = [])
theorem times_end (l : List S49) (i r e : Int) (hv : cv_valid l = true) (hR : Ev (fun k => response_Response.f k l i) (r, e)) (all ys : List Int) (f : Int) (b : Bool) (hF : Fits l all f ys b) (hA : Ev (fun k => response_All.f k l) (all, f)) :
    Ev (fun k => ontimelaw44_ResponseTimes.l0 k l i r e all f ys b (l.length : Int) (l.length : Int)) true := by
  have hL := (good_all l hv).1
  rcases hF with ⟨rfl, rfl, rfl, hl⟩ | ⟨rfl, rfl, rfl⟩
  · refine Ev.step (f := fun k => (response_Schedulable.f k l).bind fun t340 => (ontimelaw44_ResponseTimes.j1 k l i r e all all false (t340 == false))) (fun k => ?_) (Ev.bind (sched_ev hA) ?_)
    · simp only [ontimelaw44_ResponseTimes.l0]
      rw [if_neg (by omega)]
      rfl
    · refine Ev.step (fun k => ?_) (times_j2 l i r e hv hR all all (.inr rfl) (by omega))
      simp only [ontimelaw44_ResponseTimes.j1]
      rw [hl, bne_self_eq_false]
      rfl
  · refine Ev.step (f := fun k => (response_Schedulable.f k l).bind fun t340 => (ontimelaw44_ResponseTimes.j1 k l i r e [] ys true (t340 == true))) (fun k => ?_) (Ev.bind (sched_ev hA) ?_)
    · simp only [ontimelaw44_ResponseTimes.l0]
      rw [if_neg (by omega)]
      rfl
    · refine Ev.step (fun k => ?_) (times_j2 l i r e hv hR [] ys (.inl rfl) (by simp))
      simp only [ontimelaw44_ResponseTimes.j1]
      rfl
theorem times_loop (l : List S49) (i r e : Int) (hv : cv_valid l = true) (hR : Ev (fun k => response_Response.f k l i) (r, e)) (all : List Int) (f : Int) (hA : Ev (fun k => response_All.f k l) (all, f))
    (hF : ∀ ys b, Upto l l.length ys b → Fits l all f ys b) : ∀ (d j : Nat) (xs : List Int) (b : Bool), l.length - j = d → j ≤ l.length → Upto l j xs b →
    Ev (fun k => ontimelaw44_ResponseTimes.l0 k l i r e all f (xs ++ List.replicate (l.length - j) 0) b (l.length : Int) (j : Int)) true := by
  intro d
  have hL := (good_all l hv).1
  induction d with
  | zero =>
    intro j xs b h1 h2 hU
    obtain rfl : j = l.length := by omega
    rw [Nat.sub_self, List.replicate_zero, List.append_nil]
    exact times_end l i r e hv hR all xs f b (hF xs b hU) hA
  | succ d ih =>
    intro j xs b h1 h2 hU
    have hlen := hU.length
    obtain ⟨r', b', h3, h4⟩ := refresp_ev l j hv (by omega) (by omega)
    have hset : ∀ v : Int, (xs ++ List.replicate (l.length - j) 0).set j v = (xs ++ [v]) ++ List.replicate (l.length - (j + 1)) 0 := by
      intro v
      rw [List.set_append_right _ _ (by omega), hlen, Nat.sub_self, show l.length - j = (l.length - (j + 1)) + 1 by omega, List.replicate_succ, List.set_cons_zero, List.append_assoc]
      rfl
    have hs : ∀ k, ontimelaw44_ResponseTimes.l0 (k + 1) l i r e all f (xs ++ List.replicate (l.length - j) 0) b (l.length : Int) (j : Int) = (ontimelaw44_plain.f k l).bind fun t => ((ontimeref44_Response.f k t j).bind fun bt =>
        ontimelaw44_ResponseTimes.l0 k l i r e all f ((xs ++ [bt.1]) ++ List.replicate (l.length - (j + 1)) 0) (b || !bt.2) (l.length : Int) ((j + 1 : Nat) : Int)) := by
      intro k
      simp only [ontimelaw44_ResponseTimes.l0]
      rw [if_pos (by omega), cv_wrap (x := (j : Int) + 1) (by omega) (by omega)]
      congr 1
      funext t
      congr 1
      funext bt
      rw [if_pos (by omega), if_pos (by rw [List.length_append, List.length_replicate]; omega), Option.bind_some, Int.toNat_natCast, hset]
      cases b <;> rfl
    refine Ev.step hs (Ev.bind (plain44_ev l (small_of_valid l hv)) (Ev.bind h3 ?_))
    refine ih (j + 1) _ _ (by omega) (by omega) ?_
    cases b'
    · have h4 : RespIs l j r' 21 := h4
      rcases resp_two h4 with ⟨a, _⟩ | ⟨_, rfl, h5⟩
      · exact absurd a (by decide)
      · cases b <;> exact .late hU h5
    · have h4 : RespIs l j r' 0 := h4
      cases b <;> exact .ok hU h4
theorem times_in (l : List S49) (i : Int) (hv : cv_valid l = true) : ∃ r e, Ev (fun k => response_Response.f k l i) (r, e) := by
  by_cases h : 0 ≤ i ∧ i < l.length
  · obtain ⟨r, e, h1, _⟩ := resp_ev l i hv h.1 h.2
    exact ⟨r, e, h1⟩
  · exact ⟨0, 2, 0, fun k _ => resp_out l i k hv h⟩

theorem ResponseTimes (l0 : List S49) (a1 : Int) (y0 : l0.length * 48 ≤ 140737488351232) (hm0 : l0.length ≤ maxLen) (hg0 : ∀ y ∈ l0, ((Lit.int .i64 y.f0).wf = true ∧ (Lit.int .i64 y.f1).wf = true ∧ (Lit.int .i64 y.f2).wf = true ∧ (y.f3.length ≤ maxLen ∧ ∀ z ∈ y.f3, ((Lit.int .i64 z.f0).wf = true ∧ (Lit.int .i64 z.f1).wf = true ∧ (Lit.int .i64 z.f2).wf = true)))) (w1 : (Lit.int .i64 a1).wf = true) :
    ∃ k, ontimelaw44_ResponseTimes.f k l0 a1 = some true := by
  refine Ev.rounds (?_ : Ev _ true)
  unfold ontimelaw44_ResponseTimes.f
  refine Ev.bind awake44_ev ?_
  refine Ev.congr (fun k => if_pos rfl) ?_
  obtain ⟨b, hb, _⟩ := great_ev l0
  refine Ev.bind hb ?_
  cases b
  · refine Ev.congr (fun k => if_neg (by decide)) ?_
    cases hv : cv_valid l0
    · have hA : Ev (fun k => response_All.f k l0) ([], 1) := Ev.congr (fun k => by unfold response_All.f ceiling_Valid.f; rw [hv, Option.bind_some, if_neg (by decide)]) (Ev.now _)
      refine Ev.bind (a := (0, 1)) (Ev.congr (fun k => resp_bad l0 a1 k hv) (Ev.now _)) (Ev.bind hA ?_)
      refine Ev.congr (fun k => ?_) (Ev.bind (f := fun _ t => some (!t)) (sched_ev hA) (Ev.now _))
      unfold ceiling_Valid.f
      rw [hv, Option.bind_some, if_neg (by decide)]
      rfl
    · obtain ⟨r, e, hR⟩ := times_in l0 a1 hv
      have hL := (good_all l0 hv).1
      have main : ∀ (all : List Int) (f : Int), Ev (fun k => response_All.f k l0) (all, f) → (∀ ys b, Upto l0 l0.length ys b → Fits l0 all f ys b) →
          Ev (fun k => (response_All.f k l0).bind fun bt325 => ((ceiling_Valid.f l0).bind fun t329 => (if t329 = true then (if 0 ≤ (l0.length : Int) then (if ((l0.length : Int) : Int).toNat ≤ 35184372088832 then (ontimelaw44_ResponseTimes.l0 k l0 a1 r e bt325.1 bt325.2 (List.replicate ((l0.length : Int) : Int).toNat 0) false (l0.length : Int) 0) else (none)) else (none)) else (if r = 0 then (if e = 1 then (if (bt325.1.length : Int) = 0 then (if bt325.2 = 1 then ((response_Schedulable.f k l0).bind fun t330 => (some (!t330))) else (some false)) else (some false)) else (some false)) else (some false))))) true := by
        intro all f hA hF
        refine Ev.bind hA (Ev.congr (fun k => ?_) (times_loop l0 a1 r e hv hR all f hA hF _ 0 [] false rfl (Nat.zero_le _) .zero))
        unfold ceiling_Valid.f
        rw [hv, Option.bind_some, if_pos rfl, if_pos (by omega), if_pos (by omega), Int.toNat_natCast]
        rfl
      refine Ev.bind hR ?_
      rcases all_ev l0 hv with ⟨ys, a, u⟩ | ⟨m, m1, m2, a⟩
      · exact main ys 0 a (fun zs b hz => by obtain ⟨rfl, rfl⟩ := u.unique hz; exact .inl ⟨rfl, rfl, rfl, u.length⟩)
      · exact main [] 21 a (fun zs b hz => .inr ⟨upto_late hz m1 m2, rfl, rfl⟩)
  · exact Ev.congr (fun k => if_pos rfl) (Ev.now _)
end Go.Proofs.Ytbhmaijmdkpmlaa.Pure
