/- slices.Backward over a list of tasks: the last task first; for every loop body that keeps what lay ahead of the loop. -/
import Derived.RangeFuncNested
import Derived.RangeFuncBound
import Derived.RangeFuncCalls
import Derived.RangeFuncLeaves
import Derived.RangeFuncBox
import Derived.Shelf.Abstract
import Derived.Shelf.RegionOpen
import Derived.WalkKit
import Derived.OwnWalkIn
import Derived.TacticsInMore
import Derived.LoopNIn
import Derived.LoopIn
import Derived.Maps.OwnIn
import Derived.Test.YtbhmaijmdkpmlaaPx7
namespace Go.Proofs.Ytbhmaijmdkpmlaa.P
open Go.RowKit Go.Shelf Go.Proofs.YtbhmaijmdkpmlaaW.PrintWords Go.Proofs.YtbhmaijmdkpmlaaW.PrintLast Go.Proofs.YtbhmaijmdkpmlaaW.PrintMore
set_option linter.unusedVariables false
set_option linter.unusedSimpArgs false
attribute [local go_sem] Oper.semAt_some

/-- What has come when k rounds are over: n - 1, .., n - k. -/
def bkw (n : Nat) : Nat → List { i : Nat // i < n }
  | 0 => []
  | k + 1 => if h : k < n then bkw n k ++ [⟨n - 1 - k, by omega⟩] else bkw n k
theorem bkw_succ (n k : Nat) (h : k < n) : bkw n (k + 1) = bkw n k ++ [⟨n - 1 - k, by omega⟩] := by simp [bkw, h]
theorem bkw_length (n : Nat) : ∀ k, k ≤ n → (bkw n k).length = k
  | 0, _ => rfl
  | k + 1, h => by rw [bkw_succ n k (by omega), List.length_append, bkw_length n k (by omega)]; rfl

/-- A list of tasks that is read: where each one's sections lie. -/
structure TasksAt (w : World) (A : Option Addr) (l : List S49) (A3 : Nat → Option Addr) (c3 : Nat → Nat) : Prop where
  cells : ∀ i, i < l.length → ∃ ad, A = some ad ∧ w.cell? (ad.add (i * 4)) = some (.int .i64 (rd_T49 l (i : Int)).f0) ∧ w.cell? ⟨(ad.add (i * 4)).block, (ad.add (i * 4)).off + 1, none⟩ = some (.int .i64 (rd_T49 l (i : Int)).f1) ∧
    w.cell? ⟨(ad.add (i * 4)).block, (ad.add (i * 4)).off + 2, none⟩ = some (.int .i64 (rd_T49 l (i : Int)).f2) ∧ w.cell? ⟨(ad.add (i * 4)).block, (ad.add (i * 4)).off + 3, none⟩ = some (.slice (A3 i) (rd_T49 l (i : Int)).f3.length (c3 i))
  secs : ∀ i, i < l.length → (rd_T49 l (i : Int)).f3.length ≤ c3 i ∧ Kd.C k68 w (A3 i) (rd_T49 l (i : Int)).f3.length (rd_T49 l (i : Int)).f3
  max : l.length ≤ 9223372036854775807
theorem tasksAt {w : World} {A : Option Addr} {l : List S49} (h : Kd.C k49 w A l.length l) : ∃ A3 c3, TasksAt w A l A3 c3 := by
  have each : ∀ i : Nat, ∃ (B : Option Addr) (c : Nat), i < l.length → ∃ ad, A = some ad ∧ w.cell? (ad.add (i * 4)) = some (.int .i64 (rd_T49 l (i : Int)).f0) ∧ w.cell? ⟨(ad.add (i * 4)).block, (ad.add (i * 4)).off + 1, none⟩ = some (.int .i64 (rd_T49 l (i : Int)).f1) ∧
      w.cell? ⟨(ad.add (i * 4)).block, (ad.add (i * 4)).off + 2, none⟩ = some (.int .i64 (rd_T49 l (i : Int)).f2) ∧ w.cell? ⟨(ad.add (i * 4)).block, (ad.add (i * 4)).off + 3, none⟩ = some (.slice B (rd_T49 l (i : Int)).f3.length c) ∧
      (rd_T49 l (i : Int)).f3.length ≤ c ∧ Kd.C k68 w B (rd_T49 l (i : Int)).f3.length (rd_T49 l (i : Int)).f3 := by
    intro i
    by_cases hi : i < l.length
    · obtain ⟨ad, B, c, rfl, e0, e1, e2, e3, hl, hr⟩ := at_T49 h (i : Int) (by omega) (by omega)
      rw [Int.toNat_natCast] at e0 e1 e2 e3
      exact ⟨B, c, fun _ => ⟨ad, rfl, e0, e1, e2, e3, hl, hr⟩⟩
    · exact ⟨none, 0, fun h => absurd h hi⟩
  refine ⟨fun i => (each i).choose, fun i => (each i).choose_spec.choose, fun i hi => ?_, fun i hi => ?_, Kd.C_max h⟩
  · obtain ⟨ad, h0, h1, h2, h3, h4, _⟩ := (each i).choose_spec.choose_spec hi
    exact ⟨ad, h0, h1, h2, h3, h4⟩
  · obtain ⟨ad, h0, h1, h2, h3, h4, h5, h6⟩ := (each i).choose_spec.choose_spec hi
    exact ⟨h5, h6⟩
theorem TasksAt.below {w w1 : World} {A : Option Addr} {l : List S49} {A3 : Nat → Option Addr} {c3 : Nat → Nat} (h : TasksAt w A l A3 c3) (hb : Below w.heap.size w w1) : TasksAt w1 A l A3 c3 := by
  refine ⟨fun i hi => ?_, fun i hi => ?_, h.max⟩
  · obtain ⟨ad, h0, h1, h2, h3, h4⟩ := h.cells i hi
    exact ⟨ad, h0, pw_cell_below hb h1, pw_cell_below hb h2, pw_cell_below hb h3, pw_cell_below hb h4⟩
  · obtain ⟨h5, h6⟩ := h.secs i hi
    exact ⟨h5, Kd.C_below h6 hb⟩
/-- What a round keeps: what lay below n₀, and the box of the slice. -/
def KB (n₀ Bs : Nat) (W W' : World) : Prop := Below n₀ W W' ∧ W'.heap[Bs]? = W.heap[Bs]?
theorem KB.refl (n₀ Bs : Nat) (W : World) : KB n₀ Bs W W := ⟨Below.refl _ _, rfl⟩
theorem KB.trans {n₀ Bs : Nat} {A B C : World} (h : KB n₀ Bs A B) (k : KB n₀ Bs B C) : KB n₀ Bs A C := ⟨h.1.trans k.1, k.2.trans h.2⟩
theorem KB.cell {n₀ Bs o : Nat} {W W' : World} (h : KB n₀ Bs W W') : W'.cell? ⟨Bs, o, none⟩ = W.cell? ⟨Bs, o, none⟩ := by
  unfold World.cell?
  simp only [h.2]
/-- What a round is handed. -/
def taskV (l : List S49) (A3 : Nat → Option Addr) (c3 : Nat → Nat) (i : Nat) : Value := .agg #[.int .i64 (rd_T49 l (i : Int)).f0, .int .i64 (rd_T49 l (i : Int)).f1, .int .i64 (rd_T49 l (i : Int)).f2, .slice (A3 i) (rd_T49 l (i : Int)).f3.length (c3 i)]

set_option maxRecDepth 100000 in
set_option maxHeartbeats 4000000 in
theorem back1_in (F : Fence) (n : Nat) (h8 : F.fn 65) (hro : F.round = none) (hn : 1 ≤ n) (y Bs n₀ : Nat) (A : Option Addr) (l : List S49) (cap : Nat) (A3 : Nat → Option Addr) (c3 : Nat → Nat) (J Jx : List { i : Nat // i < l.length } → World → Prop)
    (hY : ∀ pre x W, J pre W → pre.length < l.length → YieldAt F (n - 1) Try.prog y #[.int .i64 (x.1 : Int), taskV l A3 c3 x.1] W fun e W' =>
      (e = .returned (.bool true) ∧ J (pre ++ [x]) W' ∧ KB n₀ Bs W W') ∨ (e = .returned (.bool false) ∧ Jx (pre ++ [x]) W'))
    (W : World) (hBs : W.cell? ⟨Bs, 0, none⟩ = some (.slice A l.length cap)) (w0 : World) (hw0 : w0.heap.size ≤ n₀) (hbW : Below w0.heap.size w0 W) (hT : TasksAt w0 A l A3 c3) (h0 : J [] W) :
    CallsIn F n Try.prog 65 #[.func (.yield y) #[] #[], .pointer (some ⟨Bs, 0, none⟩)] W fun e W' => (∃ v, e = .returned v) ∧
      ((∃ ys, ys = bkw l.length l.length ∧ J ys W') ∨ (∃ pre, True ∧ Jx pre W')) := by
  have hmax := hT.max
  have hu49 := Try.underlying49
  refine callsIn_of_wp Try.func65 rfl h8 ?_ hro
  simp only [Try.ntmps65, List.size_toArray, List.length_cons, List.length_nil, Nat.reduceAdd, Nat.reduceSub, Array.replicate_succ, Array.replicate_zero, List.push_toArray, List.append_toArray, List.nil_append, List.cons_append]
  gi_wp2
  gi_loopw [3] (fun i wr => ∃ m : Nat, m ≤ l.length ∧ i = .int .i64 ((m : Int) - 1) ∧ J (bkw l.length (l.length - m)) wr ∧ KB n₀ Bs W wr)
    (fun i _ => (intOf i + 1).toNat)
  case atStart => exact ⟨l.length, Nat.le_refl _, rfl, by rw [Nat.sub_self]; exact h0, KB.refl _ _ _⟩
  case round =>
    obtain ⟨m, hk, rfl, hJs, hnx⟩ := hrel
    have hBs' : wr.cell? ⟨Bs, 0, none⟩ = some (.slice A l.length cap) := hnx.cell.trans hBs
    cases m with
    | zero =>
      have z0 : ((0 : Nat) : Int) - 1 = -1 := rfl
      rw [z0]
      gi_wp2
      go_end0
      exact ⟨⟨_, rfl⟩, .inl ⟨_, rfl, hJs⟩⟩
    | succ j =>
      have z0 : ((j + 1 : Nat) : Int) - 1 = (j : Int) := by omega
      rw [z0]
      clear z0
      have hj : j < l.length := by omega
      obtain ⟨ad, rfl, e0, e1, e2, e3⟩ := (hT.below (hbW.trans (hnx.1.mono hw0))).cells j hj
      obtain ⟨fn, tmps, assign, body, hy, hR⟩ := hY _ ⟨j, hj⟩ wr hJs (by rw [bkw_length _ _ (by omega)]; omega)
      dsimp only at hy
      unfold taskV at hy
      have hb1 : (j : Int) < (l.length : Int) := by omega
      have hJ' : ∀ W', J (bkw l.length (l.length - (j + 1)) ++ [⟨j, hj⟩]) W' → J (bkw l.length (l.length - j)) W' := fun W' h => by
        rw [show l.length - j = (l.length - (j + 1)) + 1 by omega, bkw_succ _ _ (by omega)]
        have e : (⟨l.length - 1 - (l.length - (j + 1)), by omega⟩ : { i : Nat // i < l.length }) = ⟨j, hj⟩ := Subtype.ext (by show l.length - 1 - (l.length - (j + 1)) = j; omega)
        rw [e]
        exact h
      gi_wp2
      refine hR.mono ?_
      rintro e W3 (⟨rfl, hJ3, hk3⟩ | ⟨rfl, hJx3⟩)
      · gi_wp2
        go_roundw
        case rel => exact ⟨j, by omega, by first | rfl | (simp; done), hJ' _ hJ3, hnx.trans hk3⟩
        case measure => simp [intOf]
      · gi_wp2
        refine bodyPost_ret (results_none rfl _ _ _) rfl ?_
        exact ⟨⟨_, rfl⟩, .inr ⟨_, trivial, hJx3⟩⟩

set_option maxHeartbeats 1000000 in
theorem back_in (F : Fence) (n : Nat) (h5 : F.fn 58) (hro : F.round = none) (A : Option Addr) (m c : Nat) (w : World) :
    CallsIn F n Try.prog 58 #[.slice A m c] w fun e w' => e = .returned (.func (.func 65) #[] #[.pointer (some ⟨w.heap.size, 0, none⟩)]) ∧ w' = w.alloc (.cells #[.slice A m c] 22) := by
  refine callsIn_of_wp Try.func58 rfl h5 ?_ hro
  simp only [Try.ntmps58, List.size_toArray, List.length_cons, List.length_nil, Nat.reduceAdd, Nat.reduceSub, Array.replicate_succ, Array.replicate_zero, List.push_toArray, List.append_toArray, List.nil_append, List.cons_append]
  gi_wp2
  go_ret
  exact ⟨rfl, rfl⟩

theorem back_stops (F : Fence) (n : Nat) (h8 : F.fn 65) (hro : F.round = none) (hn : 1 ≤ n) (Bs n₀ : Nat) (A : Option Addr) (l : List S49) (cap : Nat) (A3 : Nat → Option Addr) (c3 : Nat → Nat) (w : World) (hBs : Bs < w.heap.size) (w0 : World) (hw0 : w0.heap.size ≤ n₀) (hbw : Below w0.heap.size w0 w) (hT : TasksAt w0 A l A3 c3)
    (hc : w.cell? ⟨Bs, 0, none⟩ = some (.slice A l.length cap)) :
    SeqStopsK F n Try.prog 65 #[.pointer (some ⟨Bs, 0, none⟩)] (fun x : { i : Nat // i < l.length } => #[Value.int .i64 (x.1 : Int), taskV l A3 c3 x.1]) (KB n₀ Bs) (fun ys => ys = bkw l.length l.length) (fun _ => True) l.length w := fun y J Jx W hW _ _ hY h0 =>
  back1_in F n h8 hro hn y Bs n₀ A l cap A3 c3 J Jx hY W ((hW.cell (p := ⟨Bs, 0, none⟩) hBs).trans hc) w0 hw0 (hbw.trans (hW.mono hbw.size)) hT h0
end Go.Proofs.Ytbhmaijmdkpmlaa.P
