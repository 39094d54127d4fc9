-- Written by wip/gen.py: the kit's print, with contracts of mine in it.
import Derived.Test.YtbjhkcfgahbipaaPx0
import Derived.Test.YtbjhkcfgahbipaaPx2
import Derived.Test.YtbjhkcfgahbipaaPx3
import Derived.Test.YtbjhkcfgahbipaaPx4
import Derived.Test.YtbjhkcfgahbipaaPx5
import Derived.Test.YtbjhkcfgahbipaaPx6
import Derived.Test.YtbjhkcfgahbipaaPx7
import Derived.Test.YtbjhkcfgahbipaaPx9
namespace Go.Proofs.Ytbjhkcfgahbipaa.P
open Go.RowKit Go.Proofs.YtbjhkcfgahbipaaW.PrintWords Go.Proofs.YtbjhkcfgahbipaaW.PrintLast Go.Proofs.YtbjhkcfgahbipaaW.PrintMore
attribute [local go_sem] max2_int min2_int max_two min_two max_three min_three max_four min_four   -- for this text's walks alone
set_option linter.unusedVariables false
set_option linter.unusedSimpArgs false

/-! ### pfair_Group: function 17, by hand -/
-- HAND rounds 0
def pf_vld (c p : Int) : Bool := decide (1 ≤ c ∧ c ≤ p ∧ p ≤ 1000)
def pf_dl (c p i : Int) : Int := (i * p + c - 1) / c
def pf_rel (c p i : Int) : Int := (i - 1) * p / c
def pf_ov (c p i : Int) : Bool := decide (i * p % c ≠ 0)
def pf_heavy (c p : Int) : Bool := pf_vld c p && decide (c < p ∧ p ≤ 2 * c)
def pf_end (c p i : Int) : Int := if pf_ov c p i then (if pf_dl c p i - pf_rel c p i = 3 then pf_dl c p i - 1 else -1) else pf_dl c p i
def pf_hit (c p i : Int) (d : Nat) : Bool := (List.range (d + 1)).any fun t => decide (pf_dl c p i ≤ pf_end c p (i + (t : Int)))
def pf_least (q : Nat → Bool) : Nat → Nat → Nat
  | 0, i => i
  | n + 1, i => if q i then i else pf_least q n (i + 1)
def pf_group (c p i : Int) : Int :=
  if pf_heavy c p && decide (1 ≤ i ∧ i ≤ c) then pf_end c p (i + (pf_least (pf_hit c p i) (c - i).toNat 0 : Nat)) else 0
def pfair_Group.f (a0_0 : ByteArray) (a0_1 : Int) (a0_2 : Int) (a1 : Int) : Option (Int) := some (pf_group a0_1 a0_2 a1)

theorem pf_least_eq (q : Nat → Bool) (r : Nat) : ∀ (n i : Nat), i ≤ r → r ≤ i + n → (∀ t, i ≤ t → t < r → q t = false) → (r < i + n → q r = true) → pf_least q n i = r := by
  intro n
  induction n with
  | zero => intro i h1 h2 _ _; simp only [pf_least]; omega
  | succ n ih =>
    intro i h1 h2 h3 h4
    simp only [pf_least]
    by_cases e : i = r
    · subst e
      rw [if_pos (h4 (by omega))]
    · rw [if_neg (by rw [h3 i (Nat.le_refl _) (by omega)]; decide)]
      exact ih (i + 1) (by omega) (by omega) (fun t ht1 ht2 => h3 t (by omega) ht2) (fun h => h4 (by omega))
theorem pf_wrap {x : Int} (h0 : -9223372036854775808 ≤ x) (h1 : x ≤ 9223372036854775807) : wrap64 x = x := by unfold wrap64; omega
theorem pf_prod (a b : Int) (ha0 : 0 ≤ a) (ha : a ≤ 1000) (hb0 : 0 ≤ b) (hb : b ≤ 1000) : 0 ≤ a * b ∧ a * b ≤ 1000000 := by
  constructor
  · exact Int.mul_nonneg ha0 hb0
  · have h1 : a * b ≤ 1000 * b := Int.mul_le_mul_of_nonneg_right ha hb0
    omega
theorem pf_vld_iff (c p : Int) : pf_vld c p = true ↔ 1 ≤ c ∧ c ≤ p ∧ p ≤ 1000 := by unfold pf_vld; exact decide_eq_true_iff
theorem pf_valid_eval (nm : ByteArray) (c p : Int) (k : Nat) : pfair_valid.f (k + 2) nm c p = some (pf_vld c p) := by
  have e : taskset_Valid.f (k + 2) [(⟨nm, c, p⟩ : S23)] = some (pf_vld c p) := by
    unfold taskset_Valid.f
    simp only [taskset_Valid.l0]
    have w1 : wrap64 (0 + 1) = 1 := by unfold wrap64; omega
    simp only [List.length_cons, List.length_nil, rd_T23, List.getD_cons_zero, Int.toNat_zero, w1]
    by_cases h1 : c < 1
    · simp [pf_vld, h1] <;> omega
    by_cases h2 : p < c
    · simp [pf_vld, h1, h2] <;> omega
    by_cases h3 : p > 1000
    · simp [pf_vld, h1, h2, h3] <;> omega
    simp [pf_vld, h1, h2, h3] <;> omega
  unfold pfair_valid.f
  rw [e]; rfl
theorem pf_deadline_eval (nm : ByteArray) (c p i : Int) (hv : pf_vld c p = true) (h1 : 0 ≤ i) (h2 : i ≤ 1000) : pfair_deadline.f nm c p i = some (pf_dl c p i) := by
  obtain ⟨a1, a2, a3⟩ := (pf_vld_iff c p).1 hv
  obtain ⟨b1, b2⟩ := pf_prod i p h1 h2 (by omega) a3
  unfold pfair_deadline.f pf_dl
  rw [if_neg (by omega), pf_wrap (x := i * p) (by omega) (by omega), pf_wrap (x := i * p + c) (by omega) (by omega), pf_wrap (x := i * p + c - 1) (by omega) (by omega), Int.tdiv_eq_ediv_of_nonneg (by omega)]
  have : 0 ≤ (i * p + c - 1) / c := Int.ediv_nonneg (by omega) (by omega)
  have : (i * p + c - 1) / c ≤ i * p + c - 1 := Int.ediv_le_self _ (by omega)
  rw [pf_wrap (by omega) (by omega)]
theorem pf_window_eval (nm : ByteArray) (c p i : Int) (k : Nat) (hv : pf_vld c p = true) (h1 : 1 ≤ i) (h2 : i ≤ c) : pfair_Window.f (k + 2) nm c p i = some (i, pf_rel c p i, pf_dl c p i, 0) := by
  obtain ⟨a1, a2, a3⟩ := (pf_vld_iff c p).1 hv
  obtain ⟨b1, b2⟩ := pf_prod (i - 1) p (by omega) (by omega) (by omega) a3
  unfold pfair_Window.f
  rw [pf_valid_eval, hv, Option.bind_some, if_pos rfl, if_neg (by omega), if_neg (by omega), if_neg (by omega), pf_deadline_eval nm c p i hv (by omega) (by omega), Option.bind_some]
  unfold pf_rel
  rw [pf_wrap (x := i - 1) (by omega) (by omega), pf_wrap (x := (i - 1) * p) (by omega) (by omega), Int.tdiv_eq_ediv_of_nonneg (by omega)]
  have : 0 ≤ (i - 1) * p / c := Int.ediv_nonneg (by omega) (by omega)
  have : (i - 1) * p / c ≤ (i - 1) * p := Int.ediv_le_self _ (by omega)
  rw [pf_wrap (x := (i - 1) * p / c) (by omega) (by omega)]
theorem pf_window_no (nm : ByteArray) (c p i : Int) (k : Nat) (h : (pf_vld c p && decide (1 ≤ i ∧ i ≤ c)) = false) : pfair_Window.f (k + 2) nm c p i = some (0, 0, 0, if pf_vld c p then 2 else 1) := by
  unfold pfair_Window.f
  rw [pf_valid_eval, Option.bind_some]
  cases hv : pf_vld c p
  · rfl
  · rw [hv] at h
    simp only [Bool.true_and, decide_eq_false_iff_not] at h
    rw [if_pos rfl]
    by_cases h1 : i < 1
    · rw [if_pos h1]; rfl
    · rw [if_neg h1, if_pos (by omega)]; rfl
theorem pf_overlaps_eval (nm : ByteArray) (c p i : Int) (k : Nat) : pfair_Overlaps.f (k + 2) nm c p i = some (pf_vld c p && decide (1 ≤ i ∧ i ≤ c) && pf_ov c p i) := by
  unfold pfair_Overlaps.f
  cases hg : (pf_vld c p && decide (1 ≤ i ∧ i ≤ c))
  · rw [pf_window_no nm c p i k hg, Option.bind_some]
    show (if (if pf_vld c p = true then (2 : Int) else 1) = 0 then _ else _) = _
    rw [if_neg (by split <;> omega)]
    rfl
  · simp only [Bool.and_eq_true, decide_eq_true_eq] at hg
    obtain ⟨hv, h1, h2⟩ := hg
    obtain ⟨a1, a2, a3⟩ := (pf_vld_iff c p).1 hv
    obtain ⟨b1, b2⟩ := pf_prod i p (by omega) (by omega) (by omega) a3
    rw [pf_window_eval nm c p i k hv h1 h2, Option.bind_some]
    show (if (0 : Int) = 0 then _ else _) = _
    rw [if_pos rfl, if_neg (by omega), pf_wrap (x := i * p) (by omega) (by omega), Int.tmod_eq_emod_of_nonneg b1]
    congr 1
    unfold pf_ov
    simp only [Bool.true_and]
    by_cases h0 : i * p % c = 0
    · rw [h0]; rfl
    · rw [decide_eq_true h0]; exact bne_iff_ne.2 h0
theorem pf_heavy_eval (nm : ByteArray) (c p : Int) (k : Nat) : pfair_Heavy.f (k + 2) nm c p = some (pf_heavy c p) := by
  unfold pfair_Heavy.f pf_heavy
  rw [pf_valid_eval, Option.bind_some]
  cases hv : pf_vld c p
  · rfl
  · obtain ⟨a1, a2, a3⟩ := (pf_vld_iff c p).1 hv
    rw [if_pos rfl, pf_wrap (x := 2 * c) (by omega) (by omega)]
    by_cases h : c < p
    · rw [if_pos h]; simp [h]
    · rw [if_neg h]; simp [h]
theorem pf_ends_eval (nm : ByteArray) (c p i : Int) (k : Nat) (hv : pf_vld c p = true) (h1 : 1 ≤ i) (h2 : i ≤ c) : pfair_ends.f (k + 2) nm c p i = some (pf_end c p i) := by
  obtain ⟨a1, a2, a3⟩ := (pf_vld_iff c p).1 hv
  obtain ⟨b1, b2⟩ := pf_prod (i - 1) p (by omega) (by omega) (by omega) a3
  obtain ⟨d1, d2⟩ := pf_prod i p (by omega) (by omega) (by omega) a3
  have e1 : 0 ≤ pf_rel c p i := Int.ediv_nonneg (by omega) (by omega)
  have e2 : pf_rel c p i ≤ (i - 1) * p := Int.ediv_le_self _ (by omega)
  have e3 : 0 ≤ pf_dl c p i := Int.ediv_nonneg (by omega) (by omega)
  have e4 : pf_dl c p i ≤ i * p + c - 1 := Int.ediv_le_self _ (by omega)
  unfold pfair_ends.f pf_end
  rw [pf_window_eval nm c p i k hv h1 h2, Option.bind_some, pf_overlaps_eval, Option.bind_some, hv, decide_eq_true (show 1 ≤ i ∧ i ≤ c from ⟨h1, h2⟩)]
  simp only [Bool.true_and]
  rw [pf_wrap (x := pf_dl c p i - pf_rel c p i) (by omega) (by omega), pf_wrap (x := pf_dl c p i - 1) (by omega) (by omega)]
  cases pf_ov c p i
  · rfl
  · simp only [if_true]; split <;> rfl
/-- What a binary search hands back: the least place, or n. -/
def SearchEnds (n : Nat) (p : Nat → Bool) (e : Ending) : Prop := ∃ r : Nat, e = .returned (.int .i64 r) ∧ r ≤ n ∧ (∀ t, t < r → p t = false) ∧ (r < n → p r = true)
set_option maxHeartbeats 4000000 in
set_option maxRecDepth 100000 in
/-- sort.Search over the closure of Group. -/
theorem pf_search (n : Nat) (p : Nat → Bool) (cb : Array Value) (w : World) (hsz : n < 4611686018427387904)
    (hf : ∀ W, Below w.heap.size w W → ∀ i : Nat, i < n → Calls Try.prog 29 (#[.int .i64 i] ++ cb) W fun e w' => e = .returned (.bool (p i)) ∧ Below W.heap.size W w')
    (hmono : ∀ a b, a ≤ b → b < n → p a = true → p b = true) :
    Calls Try.prog 28 #[.int .i64 n, .func (.func 29) #[] cb] w fun e w' => SearchEnds n p e ∧ Below w.heap.size w w' := by
  have HF := Aside0.mk hf
  have M := Aside0.mk hmono
  clear hf hmono
  have HB0 := Aside0.mk (Below.refl w.heap.size w)
  go_enter Try.func28, Try.ntmps28
  go_wp2
  go_loopg [5, 6] n (fun kx s5 s6 wr => ∃ (lo hi : Nat), s5 = .int .i64 lo ∧ s6 = .int .i64 hi ∧ lo ≤ hi ∧ hi ≤ n ∧ hi - lo ≤ kx ∧ Aside0 (Below w.heap.size w wr) ∧
    Aside0 ((∀ t, t < lo → p t = false) ∧ (∀ t, hi ≤ t → t < n → p t = true)))
  case atStart => exact ⟨0, n, rfl, rfl, Nat.zero_le _, Nat.le_refl _, by omega, HB0, ⟨fun t ht => absurd ht (Nat.not_lt_zero _), fun t h1 h2 => by omega⟩⟩
  case round =>
    obtain ⟨lo, hi, rfl, rfl, hlh, hin, hg, HB, I⟩ := hrel
    by_cases hlt : lo < hi
    · have hc := fun W (hW : Below w.heap.size w W) => HF.out W hW ((lo + hi) / 2) (by omega)
      rw [show (((lo + hi) / 2 : Nat) : Int) = ((lo : Int) + (hi : Int)) / 2 by omega] at hc
      cases hp : p ((lo + hi) / 2) <;> rw [hp] at hc
      · have HP := Aside0.mk hp
        clear hp
        have HC := Aside0.mk hc
        clear hc
        go_wp2_with fail
        refine (HC.out _ HB.out).mono ?_
        rintro e w1 ⟨rfl, hb⟩
        have HB1 := Aside0.mk (below_step HB.out hb)
        clear hb
        go_wp2
        go_roundg (hi - ((lo + hi) / 2 + 1))
        case measure => omega
        case rel =>
          have I2 : Aside0 ((∀ t, t < (lo + hi) / 2 + 1 → p t = false) ∧ (∀ t, hi ≤ t → t < n → p t = true)) := ⟨fun t ht => (by
            cases h : p t with
            | false => rfl
            | true => have := M.out t ((lo + hi) / 2) (by omega) (by omega) h; rw [HP.out] at this; cases this), I.out.2⟩
          exact ⟨(lo + hi) / 2 + 1, hi, by rw [show ((lo : Int) + (hi : Int)) / 2 + 1 = (((lo + hi) / 2 + 1 : Nat) : Int) by omega], rfl, by omega, hin, Nat.le_refl _, HB1, I2⟩
      · have HP := Aside0.mk hp
        clear hp
        have HC := Aside0.mk hc
        clear hc
        go_wp2_with fail
        refine (HC.out _ HB.out).mono ?_
        rintro e w1 ⟨rfl, hb⟩
        have HB1 := Aside0.mk (below_step HB.out hb)
        clear hb
        go_wp2
        go_roundg ((lo + hi) / 2 - lo)
        case measure => omega
        case rel =>
          have I2 : Aside0 ((∀ t, t < lo → p t = false) ∧ (∀ t, (lo + hi) / 2 ≤ t → t < n → p t = true)) := ⟨I.out.1, fun t ht htn => M.out ((lo + hi) / 2) t ht htn HP.out⟩
          exact ⟨lo, (lo + hi) / 2, rfl, by rw [show ((lo : Int) + (hi : Int)) / 2 = (((lo + hi) / 2 : Nat) : Int) by omega], by omega, by omega, Nat.le_refl _, HB1, I2⟩
    · obtain rfl : hi = lo := by omega
      go_wp2
      go_ret
      exact ⟨⟨hi, rfl, hin, I.out.1, fun h => I.out.2 hi (Nat.le_refl _) h⟩, HB.out⟩
theorem pf_search_at (x : Int) (n : Nat) (hx : x = (n : Int)) (p : Nat → Bool) (cb : Array Value) (w : World) (hsz : n < 4611686018427387904)
    (hf : ∀ W, Below w.heap.size w W → ∀ i : Nat, i < n → Calls Try.prog 29 (#[.int .i64 i] ++ cb) W fun e w' => e = .returned (.bool (p i)) ∧ Below W.heap.size W w')
    (hmono : ∀ a b, a ≤ b → b < n → p a = true → p b = true) :
    Calls Try.prog 28 #[.int .i64 x, .func (.func 29) #[] cb] w fun e w' => SearchEnds n p e ∧ Below w.heap.size w w' := by
  subst hx
  exact pf_search n p cb w hsz hf hmono
theorem pf_hit_true (c p i : Int) (d m : Nat) (hm : m ≤ d) (h : pf_dl c p i ≤ pf_end c p (i + (m : Int))) : pf_hit c p i d = true := by
  unfold pf_hit
  rw [List.any_eq_true]
  exact ⟨m, List.mem_range.2 (by omega), decide_eq_true h⟩
theorem pf_hit_false (c p i : Int) (d : Nat) (h : ∀ m : Nat, m < d + 1 → pf_end c p (i + (m : Int)) < pf_dl c p i) : pf_hit c p i d = false := by
  unfold pf_hit
  rw [List.any_eq_false]
  intro m hm
  have := h m (List.mem_range.1 hm)
  simp only [decide_eq_true_eq]
  omega
theorem pf_hit_mono (c p i : Int) (a b : Nat) (hab : a ≤ b) (h : pf_hit c p i a = true) : pf_hit c p i b = true := by
  unfold pf_hit at h
  rw [List.any_eq_true] at h
  obtain ⟨m, hm, hd⟩ := h
  exact pf_hit_true c p i b m (by have := List.mem_range.1 hm; omega) (of_decide_eq_true hd)

set_option maxHeartbeats 4000000 in
set_option maxRecDepth 100000 in
/-- The closure of Group: does a subtask from index on, up to the i-th behind it, end a group not before the deadline? -/
theorem pf_closure (nm : ByteArray) (c p idx : Int) (bi bt bw i : Nat) (w : World) (hv : pf_vld c p = true) (h1 : 1 ≤ idx) (h2 : idx + (i : Int) ≤ c)
    (ci : w.cell? ⟨bi, 0, none⟩ = some (.int .i64 idx)) (c0 : w.cell? ⟨bt, 0, none⟩ = some (.string nm)) (c1 : w.cell? ⟨bt, 1, none⟩ = some (.int .i64 c)) (c2 : w.cell? ⟨bt, 2, none⟩ = some (.int .i64 p))
    (cd : w.cell? ⟨bw, 2, none⟩ = some (.int .i64 (pf_dl c p idx))) :
    Calls Try.prog 29 (#[.int .i64 i] ++ #[.pointer (some ⟨bi, 0, none⟩), .pointer (some ⟨bt, 0, none⟩), .pointer (some ⟨bw, 0, none⟩)]) w fun e w' => e = .returned (.bool (pf_hit c p idx i)) ∧ Below w.heap.size w w' := by
  have hu23 := Try.underlying23
  have hu26 := Try.underlying26
  obtain ⟨a1, a2, a3⟩ := (pf_vld_iff c p).1 hv
  have HV := Aside0.mk hv
  have HB0 := Aside0.mk (Below.refl w.heap.size w)
  have HCE := Aside0.mk (And.intro ci (And.intro c0 (And.intro c1 (And.intro c2 cd))))
  generalize hD : pf_dl c p idx = D at *
  generalize hR : pf_hit c p idx i = R at *
  have HD := Aside0.mk hD
  have HR := Aside0.mk hR
  clear hv hD hR
  go_enter Try.func29, Try.ntmps29
  go_wp2
  go_loopg [6] (i + 1) (fun kx s6 wr => ∃ m : Nat, s6 = .int .i64 (idx + (m : Int)) ∧ m ≤ i + 1 ∧ i + 1 - m ≤ kx ∧ Aside0 (Below w.heap.size w wr) ∧ Aside0 (∀ t : Nat, t < m → pf_end c p (idx + (t : Int)) < D))
  case atStart => exact ⟨0, by simp, Nat.zero_le _, by omega, HB0, ⟨fun t ht => absurd ht (Nat.not_lt_zero _)⟩⟩
  case round =>
    obtain ⟨m, rfl, hm, hg, HB, I⟩ := hrel
    clear ci c0 c1 c2 cd
    have ci : wr.cell? ⟨bi, 0, none⟩ = some (.int .i64 idx) := pw_cell_below HB.out HCE.out.1
    have c0 : wr.cell? ⟨bt, 0, none⟩ = some (.string nm) := pw_cell_below HB.out HCE.out.2.1
    have c1 : wr.cell? ⟨bt, 1, none⟩ = some (.int .i64 c) := pw_cell_below HB.out HCE.out.2.2.1
    have c2 : wr.cell? ⟨bt, 2, none⟩ = some (.int .i64 p) := pw_cell_below HB.out HCE.out.2.2.2.1
    have cd : wr.cell? ⟨bw, 2, none⟩ = some (.int .i64 D) := pw_cell_below HB.out HCE.out.2.2.2.2
    by_cases hlt : m ≤ i
    · have q1 : idx + (m : Int) ≤ idx + (i : Int) := by omega
      by_cases hd : D ≤ pf_end c p (idx + (m : Int))
      · obtain rfl : R = true := by rw [← HR.out]; exact pf_hit_true c p idx i m (by omega) (by rw [HD.out]; exact hd)
        generalize hE : pf_end c p (idx + (m : Int)) = E at *
        have HE := Aside0.mk hE
        clear hE
        have HK := Aside0.mk ((pf_ends_eval nm c p (idx + (m : Int)) 0 HV.out (by omega) (by omega)).trans (congrArg some HE.out))
        have hd2 : decide (D ≤ E) = true := decide_eq_true hd
        clear hd
        go_wp2
        go_region_held3 (fun W => W.cell? ⟨bt, 0, none⟩ = some (.string nm) ∧ W.cell? ⟨bt, 1, none⟩ = some (.int .i64 c) ∧ W.cell? ⟨bt, 2, none⟩ = some (.int .i64 p) ∧ W.cell? ⟨bw, 2, none⟩ = some (.int .i64 D))
          (first | go_keep | (exact ⟨pw_cell_below hb c0, pw_cell_below hb c1, pw_cell_below hb c2, pw_cell_below hb cd⟩))
          ((go_at_call 30; refine (pfair_ends.calls 2 nm c p (idx + (m : Int)) E _ HK.out).mono ?_; rintro e w1 ⟨rfl, hb⟩; have HB1 := Aside0.mk (below_step (by repeat (first | exact HB.out | apply pw_below_drewN | apply below_drew1)) hb)))
        all_goals
          go_wp2
          go_ret
          exact ⟨rfl, by repeat (first | exact HB1.out | apply pw_below_drewN | apply below_drew1)⟩
      · have hlt2 : pf_end c p (idx + (m : Int)) < D := by omega
        have I2 : Aside0 (∀ t : Nat, t < m + 1 → pf_end c p (idx + (t : Int)) < D) := ⟨fun t ht => by
          by_cases e : t = m
          · rw [e]; exact hlt2
          · exact I.out t (by omega)⟩
        clear hlt2
        generalize hE : pf_end c p (idx + (m : Int)) = E at *
        have HE := Aside0.mk hE
        clear hE
        have HK := Aside0.mk ((pf_ends_eval nm c p (idx + (m : Int)) 0 HV.out (by omega) (by omega)).trans (congrArg some HE.out))
        have hd2 : decide (D ≤ E) = false := decide_eq_false hd
        clear hd
        go_wp2
        go_region_held3 (fun W => W.cell? ⟨bt, 0, none⟩ = some (.string nm) ∧ W.cell? ⟨bt, 1, none⟩ = some (.int .i64 c) ∧ W.cell? ⟨bt, 2, none⟩ = some (.int .i64 p) ∧ W.cell? ⟨bw, 2, none⟩ = some (.int .i64 D))
          (first | go_keep | (exact ⟨pw_cell_below hb c0, pw_cell_below hb c1, pw_cell_below hb c2, pw_cell_below hb cd⟩))
          ((go_at_call 30; refine (pfair_ends.calls 2 nm c p (idx + (m : Int)) E _ HK.out).mono ?_; rintro e w1 ⟨rfl, hb⟩; have HB1 := Aside0.mk (below_step (by repeat (first | exact HB.out | apply pw_below_drewN | apply below_drew1)) hb)))
        all_goals
          go_wp2
          go_roundg (i + 1 - (m + 1))
          case measure => omega
          case rel => exact ⟨m + 1, by rw [show idx + (m : Int) + 1 = idx + ((m + 1 : Nat) : Int) by omega], by omega, Nat.le_refl _, ⟨by repeat (first | exact HB1.out | apply pw_below_drewN | apply below_drew1)⟩, I2⟩
    · obtain rfl : R = false := by
        rw [← HR.out]
        exact pf_hit_false c p idx i fun t ht => by rw [HD.out]; exact I.out t (by omega)
      have q1 : idx + (i : Int) < idx + (m : Int) := by omega
      go_wp2
      go_ret
      exact ⟨rfl, HB.out⟩
set_option maxHeartbeats 4000000 in
set_option maxRecDepth 100000 in
theorem pf_group_main (nm : ByteArray) (c p i : Int) (w : World) (hh : pf_heavy c p = true) (h1 : 1 ≤ i) (h2 : i ≤ c) :
    Calls Try.prog 17 #[.agg #[.string nm, .int .i64 c, .int .i64 p], .int .i64 i] w fun e w' => e = .returned (.int .i64 (pf_group c p i)) ∧ Below w.heap.size w w' := by
  have hu23 := Try.underlying23
  have hu26 := Try.underlying26
  have HH := Aside0.mk hh
  have hv : pf_vld c p = true := by unfold pf_heavy at hh; rw [Bool.and_eq_true] at hh; exact hh.1
  obtain ⟨a1, a2, a3⟩ := (pf_vld_iff c p).1 hv
  have HV := Aside0.mk hv
  generalize hR : pf_group c p i = R
  have HR := Aside0.mk hR
  clear hh hv hR
  have HW := Aside0.mk (pf_window_eval nm c p i 0 HV.out h1 h2)
  have HY := Aside0.mk ((pf_heavy_eval nm c p 0).trans (congrArg some HH.out))
  have HB0 := Aside0.mk (below_alloc (below_alloc (Below.refl w.heap.size w) (.cells #[.string nm, .int .i64 c, .int .i64 p] 23)) (.cells #[.int .i64 i] 3))
  obtain ⟨W0, hW0⟩ : ∃ W0, W0 = (w.alloc (.cells #[.string nm, .int .i64 c, .int .i64 p] 23)).alloc (.cells #[.int .i64 i] 3) := ⟨_, rfl⟩
  have d0 : W0.cell? ⟨w.heap.size, 0, none⟩ = some (.string nm) := by rw [hW0]; go_simp
  have d1 : W0.cell? ⟨w.heap.size, 1, none⟩ = some (.int .i64 c) := by rw [hW0]; go_simp
  have d2 : W0.cell? ⟨w.heap.size, 2, none⟩ = some (.int .i64 p) := by rw [hW0]; go_simp
  have d3 : W0.cell? ⟨w.heap.size + 1, 0, none⟩ = some (.int .i64 i) := by rw [hW0]; go_simp
  have hz0 : W0.heap.size = w.heap.size + 2 := by rw [hW0]; simp
  rw [← hW0] at HB0
  have HC := Aside0.mk (And.intro hW0 (And.intro d0 (And.intro d1 (And.intro d2 (And.intro d3 hz0)))))
  clear hW0 d0 d1 d2 d3 hz0
  go_enter Try.func17, Try.ntmps17
  go_wp2_with fail
  rw [← HC.out.1]
  refine (pfair_Window.calls 2 nm c p i _ _ _ _ W0 HW.out).mono ?_
  rintro e w1 ⟨rfl, hb⟩
  have c0 := fun o => pw_cell_below (below_alloc hb o) HC.out.2.1
  have c1 := fun o => pw_cell_below (below_alloc hb o) HC.out.2.2.1
  have c2 := fun o => pw_cell_below (below_alloc hb o) HC.out.2.2.2.1
  have HC1 := Aside0.mk (fun o => pw_cell_below (below_alloc hb o) HC.out.2.2.2.2.1)
  have HB1 := Aside0.mk (below_step HB0.out hb)
  clear hb
  go_wp2_with fail
  obtain ⟨W1, hW1⟩ : ∃ W1, W1 = w1.alloc (.cells #[.int .i64 i, .int .i64 (pf_rel c p i), .int .i64 (pf_dl c p i)] 26) := ⟨_, rfl⟩
  have d0 := c0 (.cells #[.int .i64 i, .int .i64 (pf_rel c p i), .int .i64 (pf_dl c p i)] 26)
  have d1 := c1 (.cells #[.int .i64 i, .int .i64 (pf_rel c p i), .int .i64 (pf_dl c p i)] 26)
  have d2 := c2 (.cells #[.int .i64 i, .int .i64 (pf_rel c p i), .int .i64 (pf_dl c p i)] 26)
  have d3 := HC1.out (.cells #[.int .i64 i, .int .i64 (pf_rel c p i), .int .i64 (pf_dl c p i)] 26)
  have d4 : W1.cell? ⟨w1.heap.size, 2, none⟩ = some (.int .i64 (pf_dl c p i)) := by rw [hW1]; clear c0 c1 c2 d0 d1 d2 d3; go_simp
  have HB2 := Aside0.mk (below_alloc HB1.out (.cells #[.int .i64 i, .int .i64 (pf_rel c p i), .int .i64 (pf_dl c p i)] 26))
  rw [← hW1] at d0 d1 d2 d3 HB2
  rw [← hW1]
  clear hW1 c0 c1 c2
  generalize w1.heap.size = bw at *
  refine (pfair_Heavy.calls 2 nm c p true W1 HY.out).mono ?_
  rintro e w2 ⟨rfl, hb⟩
  have c0 := pw_cell_below hb d0
  have c1 := pw_cell_below hb d1
  have c2 := pw_cell_below hb d2
  have c3 := pw_cell_below hb d3
  have c4 := pw_cell_below hb d4
  have HB3 := Aside0.mk (below_step HB2.out hb)
  clear hb d0 d1 d2 d3 d4
  go_wp2
  obtain ⟨n, hn⟩ : ∃ n : Nat, c - i = (n : Int) := ⟨(c - i).toNat, by omega⟩
  have HN := Aside0.mk ((show IntKind.i64.wrap (c - i) = c - i from IntWalk.i64_in _ (by omega)).trans hn)
  have hn1 : i + (n : Int) = c := by omega
  clear hn
  have HN1 := Aside0.mk hn1
  clear hn1
  go_region_held3 (fun W => W.cell? ⟨w.heap.size, 0, none⟩ = some (.string nm) ∧ W.cell? ⟨w.heap.size, 1, none⟩ = some (.int .i64 c) ∧ W.cell? ⟨w.heap.size, 2, none⟩ = some (.int .i64 p) ∧ W.cell? ⟨w.heap.size + 1, 0, none⟩ = some (.int .i64 i) ∧ W.cell? ⟨bw, 2, none⟩ = some (.int .i64 (pf_dl c p i)))
    (first | go_keep | (exact ⟨pw_cell_below hb c0, pw_cell_below hb c1, pw_cell_below hb c2, pw_cell_below hb c3, pw_cell_below hb c4⟩))
    ((go_at_call 28; refine (pf_search_at _ n HN.out (pf_hit c p i) _ _ ?hs ?hf ?hm).mono ?_; (case hs => have := HN1.out; omega); (case hm => exact fun a b hab _ h => pf_hit_mono c p i a b hab h); (case hf => exact fun W hW j hj => pf_closure nm c p i _ _ _ j W HV.out (by omega) (by have := HN1.out; omega) (pw_cell_below hW (by first | assumption | go_simp)) (pw_cell_below hW (by first | assumption | go_simp)) (pw_cell_below hW (by first | assumption | go_simp)) (pw_cell_below hW (by first | assumption | go_simp)) (pw_cell_below hW (by first | assumption | go_simp))); rintro e w3 ⟨⟨r, rfl, hr⟩, hb⟩; have HRR := Aside0.mk hr; have hrw : IntKind.i64.wrap (i + (r : Int)) = i + (r : Int) := IntWalk.i64_in _ (by have := hr.1; have := HN1.out; omega); clear hr; have HB4 := Aside0.mk (below_step (by repeat (first | exact HB3.out | apply pw_below_drewN | apply below_drew1)) hb)))
  clear hrw
  have d0 : w3.cell? ⟨w.heap.size, 0, none⟩ = some (.string nm) := pw_cell_below hb (by first | exact c0 | simpa using c0)
  have d1 : w3.cell? ⟨w.heap.size, 1, none⟩ = some (.int .i64 c) := pw_cell_below hb (by first | exact c1 | simpa using c1)
  have d2 : w3.cell? ⟨w.heap.size, 2, none⟩ = some (.int .i64 p) := pw_cell_below hb (by first | exact c2 | simpa using c2)
  clear hb c0 c1 c2 c3 c4
  have hrn : r ≤ n := HRR.out.1
  have hic : i + (r : Int) ≤ c := by have := HN1.out; omega
  have hRE : pf_end c p (i + (r : Int)) = R := by
    rw [← HR.out]
    unfold pf_group
    rw [HH.out, decide_eq_true (show 1 ≤ i ∧ i ≤ c from ⟨h1, h2⟩)]
    rw [show (c - i).toNat = n by have := HN1.out; omega, pf_least_eq (pf_hit c p i) r n 0 (Nat.zero_le _) (by omega) (fun t _ ht => HRR.out.2.1 t ht) (fun h => HRR.out.2.2 (by omega))]
    rfl
  have HK := Aside0.mk ((pf_ends_eval nm c p (i + (r : Int)) 0 HV.out (by omega) hic).trans (congrArg some hRE))
  clear hRE
  go_wp2_with fail
  refine (pfair_ends.calls 2 nm c p (i + (r : Int)) R _ HK.out).mono ?_
  rintro e w4 ⟨rfl, hb⟩
  have HB5 := Aside0.mk (below_step (by repeat (first | exact HB4.out | apply pw_below_drewN | apply below_drew1)) hb)
  clear hb
  go_wp2
  go_ret
  exact ⟨by first | rfl | (simp; done), HB5.out⟩

set_option maxHeartbeats 4000000 in
set_option maxRecDepth 100000 in
theorem pf_group_range (nm : ByteArray) (c p i n : Int) (w : World) (hn : decide (n = 0) = false) (hf : pfair_Window.f 2 nm c p i = some (0, 0, 0, n)) :
    Calls Try.prog 17 #[.agg #[.string nm, .int .i64 c, .int .i64 p], .int .i64 i] w fun e w' => e = .returned (.int .i64 0) ∧ Below w.heap.size w w' := by
  have hu23 := Try.underlying23
  have hu26 := Try.underlying26
  have n1 : (n == 0) = false := by simpa using hn
  have n2 : (n != 0) = true := by simpa using hn
  have HW := Aside0.mk hf
  clear hf
  have HB0 := Aside0.mk (below_alloc (below_alloc (Below.refl w.heap.size w) (.cells #[.string nm, .int .i64 c, .int .i64 p] 23)) (.cells #[.int .i64 i] 3))
  go_enter Try.func17, Try.ntmps17
  go_wp2_with fail
  refine (pfair_Window.calls 2 nm c p i _ _ _ _ _ HW.out).mono ?_
  rintro e w1 ⟨rfl, hb⟩
  have HB1 := Aside0.mk (below_step HB0.out hb)
  clear hb
  go_wp2
  go_ret
  exact ⟨rfl, below_alloc HB1.out _⟩

set_option maxHeartbeats 4000000 in
set_option maxRecDepth 100000 in
theorem pf_group_light (nm : ByteArray) (c p i : Int) (w : World) (hv : pf_vld c p = true) (hh : pf_heavy c p = false) (h1 : 1 ≤ i) (h2 : i ≤ c) :
    Calls Try.prog 17 #[.agg #[.string nm, .int .i64 c, .int .i64 p], .int .i64 i] w fun e w' => e = .returned (.int .i64 0) ∧ Below w.heap.size w w' := by
  have hu23 := Try.underlying23
  have hu26 := Try.underlying26
  have HW := Aside0.mk (pf_window_eval nm c p i 0 hv h1 h2)
  have HY := Aside0.mk ((pf_heavy_eval nm c p 0).trans (congrArg some hh))
  clear hv hh
  have HB0 := Aside0.mk (below_alloc (below_alloc (Below.refl w.heap.size w) (.cells #[.string nm, .int .i64 c, .int .i64 p] 23)) (.cells #[.int .i64 i] 3))
  obtain ⟨W0, hW0⟩ : ∃ W0, W0 = (w.alloc (.cells #[.string nm, .int .i64 c, .int .i64 p] 23)).alloc (.cells #[.int .i64 i] 3) := ⟨_, rfl⟩
  have d0 : W0.cell? ⟨w.heap.size, 0, none⟩ = some (.string nm) := by rw [hW0]; go_simp
  have d1 : W0.cell? ⟨w.heap.size, 1, none⟩ = some (.int .i64 c) := by rw [hW0]; go_simp
  have d2 : W0.cell? ⟨w.heap.size, 2, none⟩ = some (.int .i64 p) := by rw [hW0]; go_simp
  rw [← hW0] at HB0
  have HC := Aside0.mk (And.intro hW0 (And.intro d0 (And.intro d1 d2)))
  clear hW0 d0 d1 d2
  go_enter Try.func17, Try.ntmps17
  go_wp2_with fail
  rw [← HC.out.1]
  refine (pfair_Window.calls 2 nm c p i _ _ _ _ W0 HW.out).mono ?_
  rintro e w1 ⟨rfl, hb⟩
  have c0 := fun o => pw_cell_below (below_alloc hb o) HC.out.2.1
  have c1 := fun o => pw_cell_below (below_alloc hb o) HC.out.2.2.1
  have c2 := fun o => pw_cell_below (below_alloc hb o) HC.out.2.2.2
  have HB1 := Aside0.mk (below_step HB0.out hb)
  clear hb
  go_wp2_with fail
  refine (pfair_Heavy.calls 2 nm c p false _ HY.out).mono ?_
  rintro e w2 ⟨rfl, hb⟩
  have HB3 := Aside0.mk (below_step (below_alloc HB1.out _) hb)
  clear hb
  go_wp2
  go_ret
  exact ⟨rfl, HB3.out⟩

theorem pfair_Group.calls (a0_0 : ByteArray) (a0_1 : Int) (a0_2 : Int) (a1 : Int) (r : Int) (w : World) (h : pfair_Group.f a0_0 a0_1 a0_2 a1 = some r) :
    Calls Try.prog 17 #[.agg #[.string a0_0, .int .i64 a0_1, .int .i64 a0_2], .int .i64 a1] w fun e w' => e = .returned (.int .i64 r) ∧ Below w.heap.size w w' := by
  obtain rfl := Option.some.inj h
  cases hg : (pf_vld a0_1 a0_2 && decide (1 ≤ a1 ∧ a1 ≤ a0_1))
  · have e : pf_group a0_1 a0_2 a1 = 0 := by
      unfold pf_group pf_heavy
      rw [if_neg (fun h2 => by
        simp only [Bool.and_eq_true] at h2
        rw [h2.1.1, h2.2] at hg
        exact absurd hg (by decide))]
    rw [e]
    exact pf_group_range a0_0 a0_1 a0_2 a1 _ w (by split <;> rfl) (pf_window_no a0_0 a0_1 a0_2 a1 0 hg)
  · simp only [Bool.and_eq_true, decide_eq_true_eq] at hg
    obtain ⟨hv, h1, h2⟩ := hg
    cases hh : pf_heavy a0_1 a0_2
    · have e : pf_group a0_1 a0_2 a1 = 0 := by
        unfold pf_group
        rw [hh]
        rfl
      rw [e]
      exact pf_group_light a0_0 a0_1 a0_2 a1 w hv hh h1 h2
    · exact pf_group_main a0_0 a0_1 a0_2 a1 w hh h1 h2

end Go.Proofs.Ytbjhkcfgahbipaa.P
