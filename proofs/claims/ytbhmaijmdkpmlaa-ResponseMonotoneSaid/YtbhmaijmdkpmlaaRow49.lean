/- A row of tasks in a block of its own, whose sections lie elsewhere: what append copies, what a store changes. -/
import Derived.Test.YtbhmaijmdkpmlaaBack
namespace Go.Proofs.Ytbhmaijmdkpmlaa.P
open Go.RowKit Go.Shelf Go.Proofs.YtbhmaijmdkpmlaaW.PrintWords Go.Proofs.YtbhmaijmdkpmlaaW.PrintLast Go.Proofs.YtbhmaijmdkpmlaaW.PrintMore
set_option linter.unusedVariables false

/-- One cell of a row of tasks. -/
def rawv (l : List S49) (A3 : Nat → Option Addr) (c3 : Nat → Nat) (k : Nat) : Value :=
  if k % 4 = 0 then .int .i64 (rd_T49 l ((k / 4 : Nat) : Int)).f0 else if k % 4 = 1 then .int .i64 (rd_T49 l ((k / 4 : Nat) : Int)).f1 else if k % 4 = 2 then .int .i64 (rd_T49 l ((k / 4 : Nat) : Int)).f2 else .slice (A3 (k / 4)) (rd_T49 l ((k / 4 : Nat) : Int)).f3.length (c3 (k / 4))
def rawl (l : List S49) (A3 : Nat → Option Addr) (c3 : Nat → Nat) : List Value := (List.range (l.length * 4)).map (rawv l A3 c3)
theorem rawl_length (l : List S49) (A3 c3) : (rawl l A3 c3).length = l.length * 4 := by simp [rawl]
theorem rawl_get (l : List S49) (A3 c3) (k : Nat) (hk : k < l.length * 4) : (rawl l A3 c3)[k]? = some (rawv l A3 c3 k) := by
  unfold rawl
  rw [List.getElem?_map, List.getElem?_range hk]
  rfl
theorem rawl_one (l : List S49) (A3 c3) : ∀ u ∈ rawl l A3 c3, u.oneCell' = true := by
  intro u hu
  unfold rawl at hu
  obtain ⟨k, _, rfl⟩ := List.mem_map.1 hu
  unfold rawv
  split
  · rfl
  · split
    · rfl
    · split <;> rfl
theorem rawl_cells {w : World} {ad : Addr} {l : List S49} {A3 : Nat → Option Addr} {c3 : Nat → Nat} (h : TasksAt w (some ad) l A3 c3) : ∀ j u, (rawl l A3 c3)[j]? = some u → w.cell? (ad.add j) = some u := by
  intro j u hj
  have hlt : j < l.length * 4 := by
    have := (List.getElem?_eq_some_iff.1 hj).1
    rw [rawl_length] at this
    exact this
  rw [rawl_get l A3 c3 j hlt] at hj
  obtain rfl := Option.some.inj hj
  obtain ⟨ad', e, h0, h1, h2, h3⟩ := h.cells (j / 4) (by omega)
  obtain rfl := Option.some.inj e
  unfold rawv
  rcases (show j % 4 = 0 ∨ j % 4 = 1 ∨ j % 4 = 2 ∨ j % 4 = 3 by omega) with c | c | c | c
  · rw [if_pos c, show j = j / 4 * 4 by omega, h0, show j / 4 * 4 / 4 = j / 4 by omega]
  · rw [if_neg (by omega), if_pos c, show ad.add j = ad.add (j / 4 * 4 + 1) from congrArg _ (by omega), add_field _ _ 1 (by omega), h1]
  · rw [if_neg (by omega), if_neg (by omega), if_pos c, show ad.add j = ad.add (j / 4 * 4 + 2) from congrArg _ (by omega), add_field _ _ 2 (by omega), h2]
  · rw [if_neg (by omega), if_neg (by omega), if_neg (by omega), show ad.add j = ad.add (j / 4 * 4 + 3) from congrArg _ (by omega), add_field _ _ 3 (by omega), h3]
/-- Block g holds the row m; its sections lie as they lay in the world w0. -/
structure RowAt (w0 w : World) (g : Nat) (m : List S49) (A3 : Nat → Option Addr) (c3 : Nat → Nat) : Prop where
  blk : ∃ cur, w.heap[g]? = some (.cells cur 49 (0, 0)) ∧ ∀ k, k < m.length * 4 → cur[k]? = some (rawv m A3 c3 k)
  secs : ∀ i, i < m.length → (rd_T49 m (i : Int)).f3.length ≤ c3 i ∧ Kd.C k68 w0 (A3 i) (rd_T49 m (i : Int)).f3.length (rd_T49 m (i : Int)).f3
  max : m.length ≤ 9223372036854775807
  old : Below w0.heap.size w0 w
  new : w0.heap.size ≤ g
theorem RowAt.lt {w0 w : World} {g : Nat} {m : List S49} {A3 c3} (h : RowAt w0 w g m A3 c3) : g < w.heap.size := by
  obtain ⟨cur, h1, h2⟩ := h.blk
  exact (Array.getElem?_eq_some_iff.1 h1).1
theorem RowAt.cell {w0 w : World} {g : Nat} {m : List S49} {A3 c3} (h : RowAt w0 w g m A3 c3) (k : Nat) (hk : k < m.length * 4) : w.cell? ⟨g, k, none⟩ = some (rawv m A3 c3 k) := by
  obtain ⟨cur, h1, h2⟩ := h.blk
  simp only [World.cell?]
  rw [h1]
  exact h2 k hk
theorem RowAt.frozen {w0 w : World} {g : Nat} {m : List S49} {A3 c3} (h : RowAt w0 w g m A3 c3) (k : Nat) : w.frozen? ⟨g, k, none⟩ = false := by
  obtain ⟨cur, h1, h2⟩ := h.blk
  simp [World.frozen?, h1]
theorem RowAt.reads {w0 w : World} {g : Nat} {m : List S49} {A3 c3} (h : RowAt w0 w g m A3 c3) : Kd.C k49 w (some ⟨g, 0, none⟩) m.length m := by
  refine ⟨rfl, h.max, fun hp => ⟨⟨g, 0, none⟩, rfl, fun j p hj => ?_⟩⟩
  obtain ⟨hlt, rfl⟩ := List.getElem?_eq_some_iff.1 hj
  obtain ⟨hc, hr0⟩ := h.secs j hlt
  have hr := Kd.C_below hr0 h.old
  have h0 := h.cell (j * 4) (by omega)
  have h1 := h.cell (j * 4 + 1) (by omega)
  have h2 := h.cell (j * 4 + 2) (by omega)
  have h3 := h.cell (j * 4 + 3) (by omega)
  unfold rawv at h0 h1 h2 h3
  rw [if_pos (by omega), show j * 4 / 4 = j by omega] at h0
  rw [if_neg (by omega), if_pos (by omega), show (j * 4 + 1) / 4 = j by omega] at h1
  rw [if_neg (by omega), if_neg (by omega), if_pos (by omega), show (j * 4 + 2) / 4 = j by omega] at h2
  rw [if_neg (by omega), if_neg (by omega), if_neg (by omega), show (j * 4 + 3) / 4 = j by omega] at h3
  rw [rd49_at m j hlt] at h0 h1 h2 h3 hc hr
  refine ⟨_, rfl, k49_mk w m[j] hc hr, fun i u hi => ?_⟩
  have e : ∀ k : Nat, (⟨g, 0, none⟩ : Addr).add k = ⟨g, k, none⟩ := fun k => by
    unfold Addr.add
    by_cases hk : k = 0
    · subst hk; rfl
    · simp [hk]
  rw [e]
  rcases i with _ | _ | _ | _ | i
  · simp only [List.getElem?_cons_zero, Option.some.injEq] at hi; subst hi; exact h0
  · simp only [List.getElem?_cons_succ, List.getElem?_cons_zero, Option.some.injEq] at hi; subst hi; exact h1
  · simp only [List.getElem?_cons_succ, List.getElem?_cons_zero, Option.some.injEq] at hi; subst hi; exact h2
  · simp only [List.getElem?_cons_succ, List.getElem?_cons_zero, Option.some.injEq] at hi; subst hi; exact h3
  · simp at hi
theorem RowAt.grown {w0 w W : World} {g : Nat} {m : List S49} {A3 c3} (h : RowAt w0 w g m A3 c3) (hk : W.heap[g]? = w.heap[g]?) (hb : Below w0.heap.size w0 W) : RowAt w0 W g m A3 c3 := by
  obtain ⟨cur, h1, h2⟩ := h.blk
  exact ⟨⟨cur, hk.trans h1, h2⟩, h.secs, h.max, hb, h.new⟩
theorem RowAt.below {w0 w W : World} {g : Nat} {m : List S49} {A3 c3} (h : RowAt w0 w g m A3 c3) (hb : Below w.heap.size w W) : RowAt w0 W g m A3 c3 := h.grown (hb.block g h.lt) (below_step h.old hb)
theorem RowAt.set {w0 w : World} {g : Nat} {m m' : List S49} {A3 c3} (h : RowAt w0 w g m A3 c3) (k : Nat) (v : Value) (hl : m'.length = m.length) (hv : ∀ k', k' < m.length * 4 → rawv m' A3 c3 k' = if k' = k then v else rawv m A3 c3 k')
    (hs : ∀ i, i < m.length → (rd_T49 m' (i : Int)).f3 = (rd_T49 m (i : Int)).f3) : RowAt w0 (w.setCell ⟨g, k, none⟩ v) g m' A3 c3 := by
  obtain ⟨cur, h1, h2⟩ := h.blk
  refine ⟨⟨cur.setIfInBounds k v, ?_, fun k' hk' => ?_⟩, fun i hi => ?_, by rw [hl]; exact h.max, below_set h.old h.new, h.new⟩
  · obtain ⟨hlt, he⟩ := Array.getElem?_eq_some_iff.1 h1
    simp [World.setCell, Array.getElem?_modify, h1]
  · rw [hl] at hk'
    have hlt := (Array.getElem?_eq_some_iff.1 (h2 k' hk')).1
    rw [hv k' hk', Array.getElem?_setIfInBounds]
    by_cases e : k = k'
    · subst e; rw [if_pos rfl, if_pos hlt, if_pos rfl]
    · rw [if_neg e, if_neg (fun h => e h.symm), h2 k' hk']
  · rw [hl] at hi
    rw [hs i hi]
    exact h.secs i hi
theorem rd_set49 (l : List S49) (j n : Nat) (t : S49) (hn : n < l.length) : rd_T49 (l.set j t) (n : Int) = if j = n then t else rd_T49 l n := by
  rw [rd49_at _ n (by rw [List.length_set]; exact hn), rd49_at l n hn, List.getElem_set]
theorem RowAt.set_f {w0 w : World} {g : Nat} {m : List S49} {A3 c3} (h : RowAt w0 w g m A3 c3) (j q : Nat) (hj : j < m.length) (x : Int) (t : S49)
    (ht : (q = 0 ∧ t = ⟨x, (rd_T49 m j).f1, (rd_T49 m j).f2, (rd_T49 m j).f3⟩) ∨ (q = 1 ∧ t = ⟨(rd_T49 m j).f0, x, (rd_T49 m j).f2, (rd_T49 m j).f3⟩) ∨ (q = 2 ∧ t = ⟨(rd_T49 m j).f0, (rd_T49 m j).f1, x, (rd_T49 m j).f3⟩)) : RowAt w0 (w.setCell ⟨g, j * 4 + q, none⟩ (.int .i64 x)) g (m.set j t) A3 c3 := by
  have hf3 : t.f3 = (rd_T49 m j).f3 := by rcases ht with ⟨_, rfl⟩ | ⟨_, rfl⟩ | ⟨_, rfl⟩ <;> rfl
  refine h.set _ _ (List.length_set ..) (fun k' hk' => ?_) (fun i hi => ?_)
  · unfold rawv
    rw [rd_set49 m j (k' / 4) t (by omega)]
    by_cases e : j = k' / 4
    · rw [if_pos e, ← e]
      rcases ht with ⟨rfl, rfl⟩ | ⟨rfl, rfl⟩ | ⟨rfl, rfl⟩
      · by_cases c : k' % 4 = 0
        · rw [if_pos c, if_pos (by omega)]
        · rw [if_neg c, if_neg (show ¬ k' = j * 4 + 0 by omega), if_neg c]
      · by_cases c : k' % 4 = 1
        · rw [if_neg (by omega), if_pos c, if_pos (by omega)]
        · rw [if_neg c, if_neg (show ¬ k' = j * 4 + 1 by omega), if_neg c]
      · by_cases c : k' % 4 = 2
        · rw [if_neg (by omega), if_neg (by omega), if_pos c, if_pos (by omega)]
        · rw [if_neg c, if_neg (show ¬ k' = j * 4 + 2 by omega), if_neg c]
    · rw [if_neg e, if_neg (show ¬ k' = j * 4 + q by rcases ht with ⟨rfl, _⟩ | ⟨rfl, _⟩ | ⟨rfl, _⟩ <;> omega)]
  · rw [rd_set49 m j i t hi]
    by_cases e : j = i
    · rw [if_pos e, hf3, e]
    · rw [if_neg e]
/-- What append lays into an empty row of one's own. -/
theorem rowAt_appended {w0 w : World} {v : Value} {l : List S49} {A3 c3} {base : Nat} (hbase : w0.heap.size ≤ base) (h : w.ownsRow base 49 4 v l.length (rawl l A3 c3)) (hp : 0 < l.length) (hT : ∀ i, i < l.length → (rd_T49 l (i : Int)).f3.length ≤ c3 i ∧ Kd.C k68 w0 (A3 i) (rd_T49 l (i : Int)).f3.length (rd_T49 l (i : Int)).f3)
    (hmax : l.length ≤ 9223372036854775807) (hb : Below w0.heap.size w0 w) : ∃ g cap, v = .slice (some ⟨g, 0, none⟩) l.length cap ∧ l.length ≤ cap ∧ base ≤ g ∧ RowAt w0 w g l A3 c3 := by
  obtain ⟨hl, ⟨_, h0⟩ | ⟨g, cap, cur, rfl, hg, hh, hc, _, hcs, ht⟩⟩ := h
  · omega
  · refine ⟨g, cap, rfl, hc, hg, ⟨⟨cur, hh, fun k hk => ?_⟩, hT, hmax, hb, Nat.le_trans hbase hg⟩⟩
    have := rawl_get l A3 c3 k hk
    rw [← ht, List.getElem?_take, if_pos hk] at this
    rw [← this, Array.getElem?_toList]
end Go.Proofs.Ytbhmaijmdkpmlaa.P
