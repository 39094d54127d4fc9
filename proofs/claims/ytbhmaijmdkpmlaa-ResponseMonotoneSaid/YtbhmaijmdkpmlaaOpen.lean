/- What came in as data, read as the print's kinds: a datum that was trodden gives the value's reading and its bounds. -/
import Derived.Test.YtbhmaijmdkpmlaaWWords
import Derived.ChangeArms
import Derived.ChangeSlices
import Derived.DataElems
import Derived.DataReads
import Derived.SizedLaws
import Derived.Carry
namespace Go.Proofs.Ytbhmaijmdkpmlaa.Open
open Go.RowKit Go.Proofs.YtbhmaijmdkpmlaaW.PrintWords
set_option linter.unusedVariables false
set_option linter.unusedSimpArgs false

/-- Every datum of type t that was trodden reads as the kind d says, within 'good'. -/
structure Opens {α H : Type} (enc : TypeId × Value → H) (P : Program) (W : World) (t : TypeId) (d : Kd α) (good : α → Prop) : Prop where
  out : ∀ fuel cs x, DataW.trod enc P W 0 (fun _ => true) true fuel t cs = some x → ∃ y, d.K W y cs ∧ good y

section
variable {α β γ δ ε H : Type} {enc : TypeId × Value → H} {P : Program} {W : World} {t e : TypeId}

theorem opens_int {k : IntKind} (ht : P.underlying t = some (.int k)) : Opens enc P W t (Kd.int k) (fun n => (Lit.int k n).wf = true) :=
  ⟨fun fuel cs x h => by obtain ⟨n, rfl, _, hw⟩ := DataW.trod_int ht h; exact ⟨n, rfl, hw⟩⟩
theorem opens_bool (ht : P.underlying t = some .bool) : Opens enc P W t Kd.bool (fun _ => True) :=
  ⟨fun fuel cs x h => by obtain ⟨n, rfl, _⟩ := DataW.trod_bool ht h; exact ⟨n, rfl, trivial⟩⟩
theorem opens_string (ht : P.underlying t = some .string) : Opens enc P W t Kd.string (fun s => s.size ≤ maxLen) :=
  ⟨fun fuel cs x h => by obtain ⟨n, rfl, _, hw⟩ := DataW.trod_string ht h; exact ⟨n, rfl, hw⟩⟩

theorem opens_slice {d : Kd α} {good : α → Prop} (ht : P.underlying t = some (.slice e)) (hs : P.cellsOf e = d.sz) (hd : Opens enc P W e d good) :
    Opens enc P W t (Kd.slice e d) (fun xs => xs.length ≤ maxLen ∧ ∀ y ∈ xs, good y) := by
  refine ⟨fun fuel cs x h => ?_⟩
  rcases DataW.trod_slice ht h with ⟨rfl, rfl⟩ | ⟨a, len, cap, elems, rest, n, rfl, rfl, hx, hb, hl, hm, hlen, hel, _⟩
  · exact ⟨[], ⟨none, 0, rfl, Nat.le_refl _, Kd.C_nil d W⟩, by simp, fun y hy => by cases hy⟩
  · have each : ∀ i : Fin len, ∃ y, ∃ c, W.cells? 0 (a.add (i.1 * d.sz)) d.sz = some c ∧ d.K W y c ∧ good y := by
      intro i
      have h1 := hel i.1 i.2
      rw [List.getElem?_eq_getElem (by rw [hlen]; exact i.2), Option.bind_eq_some_iff, hs] at h1
      obtain ⟨c, hc, hy⟩ := h1
      obtain ⟨y, hk, hg⟩ := hd.out n c _ hy
      exact ⟨y, c, hc, hk, hg⟩
    refine ⟨List.ofFn fun i => (each i).choose, ⟨some a, cap, by rw [List.length_ofFn], by rw [List.length_ofFn]; exact hl, ?_⟩, by rw [List.length_ofFn]; omega, fun y hy => ?_⟩
    · refine ⟨rfl, by rw [List.length_ofFn]; unfold maxLen at hm; omega, fun _ => ⟨a, rfl, fun j p hp => ?_⟩⟩
      rw [List.getElem?_ofFn] at hp
      split at hp
      · rename_i hj
        obtain rfl := Option.some.inj hp
        obtain ⟨c, hc, hk, _⟩ := (each ⟨j, hj⟩).choose_spec
        refine ⟨c, d.K_len hk, hk, fun i u hi => ?_⟩
        have hlt : i < d.sz := by rw [← d.K_len hk]; exact (List.getElem?_eq_some_iff.1 hi).1
        have h2 := (World.cells?_some hc).2.2 i hlt
        rw [← Addr.add_add, h2]
        exact hi
      · cases hp
    · rw [List.mem_ofFn] at hy
      obtain ⟨i, rfl⟩ := hy
      obtain ⟨c, _, _, hg⟩ := (each i).choose_spec
      exact hg

/-- A struct's cells, cut at its fields. -/
theorem opens_struct3 {a : Kd α} {b : Kd β} {c : Kd γ} {g0 : α → Prop} {g1 : β → Prop} {g2 : γ → Prop} {f0 f1 f2 : Field} (ht : P.underlying t = some (.struct #[f0, f1, f2]))
    (s0 : P.cellsOf f0.type = a.sz) (s1 : P.cellsOf f1.type = b.sz) (s2 : P.cellsOf f2.type = c.sz) (hC : P.cellsOf t = a.sz + (b.sz + c.sz))
    (o0 : f0.offset = 0) (o1 : f1.offset = a.sz) (o2 : f2.offset = a.sz + b.sz)
    (h0 : Opens enc P W f0.type a g0) (h1 : Opens enc P W f1.type b g1) (h2 : Opens enc P W f2.type c g2) :
    Opens enc P W t (Kd.pair a (Kd.pair b c)) (fun x => g0 x.1 ∧ g1 x.2.1 ∧ g2 x.2.2) := by
  refine ⟨fun fuel cs x h => ?_⟩
  obtain ⟨xs, n, rfl, _, hl, hsz, hf⟩ := DataW.trod_struct ht h
  have e0 := hf 0 f0 rfl
  have e1 := hf 1 f1 rfl
  have e2 := hf 2 f2 rfl
  simp only [List.size_toArray, List.length_cons, List.length_nil] at hsz
  rw [List.getElem?_eq_getElem (by omega), o0, s0] at e0
  rw [List.getElem?_eq_getElem (by omega), o1, s1] at e1
  rw [List.getElem?_eq_getElem (by omega), o2, s2] at e2
  obtain ⟨x0, k0, q0⟩ := h0.out _ _ _ e0
  obtain ⟨x1, k1, q1⟩ := h1.out _ _ _ e1
  obtain ⟨x2, k2, q2⟩ := h2.out _ _ _ e2
  refine ⟨(x0, x1, x2), ⟨_, _, ?_, k0, ⟨_, _, rfl, k1, k2⟩⟩, q0, q1, q2⟩
  rw [List.drop_zero]
  have hl2 : (cs.drop (a.sz + b.sz)).length = c.sz := by rw [List.length_drop, hl, hC]; omega
  rw [List.take_of_length_le (l := cs.drop (a.sz + b.sz)) (by omega)]
  rw [show cs.drop (a.sz + b.sz) = (cs.drop a.sz).drop b.sz by rw [List.drop_drop], List.take_append_drop, List.take_append_drop]

theorem opens_struct4 {a : Kd α} {b : Kd β} {c : Kd γ} {d : Kd δ} {g0 : α → Prop} {g1 : β → Prop} {g2 : γ → Prop} {g3 : δ → Prop} {f0 f1 f2 f3 : Field} (ht : P.underlying t = some (.struct #[f0, f1, f2, f3]))
    (s0 : P.cellsOf f0.type = a.sz) (s1 : P.cellsOf f1.type = b.sz) (s2 : P.cellsOf f2.type = c.sz) (s3 : P.cellsOf f3.type = d.sz) (hC : P.cellsOf t = a.sz + (b.sz + (c.sz + d.sz)))
    (o0 : f0.offset = 0) (o1 : f1.offset = a.sz) (o2 : f2.offset = a.sz + b.sz) (o3 : f3.offset = a.sz + b.sz + c.sz)
    (h0 : Opens enc P W f0.type a g0) (h1 : Opens enc P W f1.type b g1) (h2 : Opens enc P W f2.type c g2) (h3 : Opens enc P W f3.type d g3) :
    Opens enc P W t (Kd.pair a (Kd.pair b (Kd.pair c d))) (fun x => g0 x.1 ∧ g1 x.2.1 ∧ g2 x.2.2.1 ∧ g3 x.2.2.2) := by
  refine ⟨fun fuel cs x h => ?_⟩
  obtain ⟨xs, n, rfl, _, hl, hsz, hf⟩ := DataW.trod_struct ht h
  have e0 := hf 0 f0 rfl
  have e1 := hf 1 f1 rfl
  have e2 := hf 2 f2 rfl
  have e3 := hf 3 f3 rfl
  simp only [List.size_toArray, List.length_cons, List.length_nil] at hsz
  rw [List.getElem?_eq_getElem (by omega), o0, s0] at e0
  rw [List.getElem?_eq_getElem (by omega), o1, s1] at e1
  rw [List.getElem?_eq_getElem (by omega), o2, s2] at e2
  rw [List.getElem?_eq_getElem (by omega), o3, s3] at e3
  obtain ⟨x0, k0, q0⟩ := h0.out _ _ _ e0
  obtain ⟨x1, k1, q1⟩ := h1.out _ _ _ e1
  obtain ⟨x2, k2, q2⟩ := h2.out _ _ _ e2
  obtain ⟨x3, k3, q3⟩ := h3.out _ _ _ e3
  refine ⟨(x0, x1, x2, x3), ⟨_, _, ?_, k0, ⟨_, _, rfl, k1, ⟨_, _, rfl, k2, k3⟩⟩⟩, q0, q1, q2, q3⟩
  rw [List.drop_zero]
  have hl2 : (cs.drop (a.sz + b.sz + c.sz)).length = d.sz := by rw [List.length_drop, hl, hC]; omega
  rw [List.take_of_length_le (l := cs.drop (a.sz + b.sz + c.sz)) (by omega)]
  rw [show cs.drop (a.sz + b.sz + c.sz) = (cs.drop (a.sz + b.sz)).drop c.sz by rw [List.drop_drop], List.take_append_drop, show cs.drop (a.sz + b.sz) = (cs.drop a.sz).drop b.sz by rw [List.drop_drop], List.take_append_drop, List.take_append_drop]

/-- The same under another reading of the tuple. -/
theorem opens_iso {d : Kd α} {good : α → Prop} (f : β → α) (g : α → β) (hfg : ∀ x, f (g x) = x) (h : Opens enc P W t d good) : Opens enc P W t (Kd.iso d f) (fun y => good (f y)) :=
  ⟨fun fuel cs x hx => by
    obtain ⟨y, hk, hg⟩ := h.out fuel cs x hx
    exact ⟨g y, by show d.K W (f (g y)) cs; rw [hfg]; exact hk, by rw [hfg]; exact hg⟩⟩
theorem opens_good {d : Kd α} {good good' : α → Prop} (h : Opens enc P W t d good) (hg : ∀ x, good x → good' x) : Opens enc P W t d good' :=
  ⟨fun fuel cs x hx => by obtain ⟨y, hk, hq⟩ := h.out fuel cs x hx; exact ⟨y, hk, hg _ hq⟩⟩

/-- A slice that came in. -/
theorem open_slice {d : Kd α} {good : α → Prop} {a : Option Addr} {len cap : Nat} {dd : DataW H} {p : List MemPlace} (ht : P.underlying t = some (.slice e)) (hs : P.cellsOf e = d.sz) (hd : Opens enc P W e d good)
    (h : DataW.Trod enc P W 0 (fun _ => true) true t (.slice a len cap) dd p) : ∃ l : List α, len = l.length ∧ l.length ≤ cap ∧ d.C W a l.length l ∧ l.length ≤ maxLen ∧ ∀ y ∈ l, good y := by
  obtain ⟨fuel, hf⟩ := h
  obtain ⟨y, ⟨A, c, he, hl, hC⟩, hm, hg⟩ := (opens_slice ht hs hd).out _ _ _ hf
  simp only [Value.cells, List.cons.injEq, Value.slice.injEq, and_true] at he
  obtain ⟨rfl, rfl, rfl⟩ := he
  exact ⟨y, rfl, hl, hC, hm, hg⟩

/-- Its length, by what the row weighs. -/
theorem sized_any {spare : Nat → Bool} {held : Bool} {base : Nat} {a : Option Addr} {len cap : Nat} {d : DataW H} {ps : List MemPlace} {ts : List TypeId} {ds : List (DataW H)} {j : Nat}
    (hsz : (DataW.weightsEach P ts ds).all (· ≤ reachBytes) = true) (ht : ts[j]? = some t) (hd : ds[j]? = some d) (hu : P.underlying t = some (.slice e)) {B : Nat} (hB : P.bytesOf e = B)
    (h : DataW.Trod enc P W base spare held t (.slice a len cap) d ps) : len * B ≤ 140737488351232 := by
  obtain ⟨fuel, hf⟩ := h
  rcases DataW.trod_slice hu hf with ⟨hcs, _⟩ | ⟨x, l, c, elems, rest, n, _, hcs, hx, _, hl, _, hlen, _⟩
  · simp [Value.cells] at hcs
    obtain ⟨rfl, rfl, rfl⟩ := hcs
    simp
  · simp [Value.cells] at hcs
    obtain ⟨rfl, rfl, rfl⟩ := hcs
    obtain ⟨hx, _⟩ := Prod.mk.inj hx
    subst hx
    have z := sized_slice hsz ht hd hu
    rw [hB] at z
    simp only [List.length_map] at z
    rw [hlen] at z
    exact Nat.le_trans (Nat.mul_le_mul_right _ (Nat.le_add_right _ _)) z
end
end Go.Proofs.Ytbhmaijmdkpmlaa.Open
