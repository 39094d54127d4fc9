/- ceiling.Ceilings over a valid list: the map that it hands back reads, at each object, as the least index of a task with a section of it. -/
import Derived.Test.YtbhmaijmdkpmlaaBack
namespace Go.Proofs.Ytbhmaijmdkpmlaa.P
open Go.RowKit Go.Shelf Go.Proofs.YtbhmaijmdkpmlaaW.PrintWords Go.Proofs.YtbhmaijmdkpmlaaW.PrintLast Go.Proofs.YtbhmaijmdkpmlaaW.PrintMore
set_option linter.unusedVariables false
set_option linter.unusedSimpArgs false
attribute [local go_sem] Oper.semAt_some

/-- One task's sections, put into the map. -/
def cSecD {H : Type} (i : Int) (ss : List S68) (D : DataW H) : DataW H := ss.foldl (fun D s => D.put (.int .i64 s.f0) (.lit (.int .i64 i))) D
theorem cSecD_snoc {H : Type} (i : Int) (ss : List S68) (s : S68) (D : DataW H) : cSecD i (ss ++ [s]) D = (cSecD i ss D).put (.int .i64 s.f0) (.lit (.int .i64 i)) := by simp [cSecD]
def cAllD {H : Type} (l : List S49) (pre : List { i : Nat // i < l.length }) : DataW H := pre.foldl (fun D x => cSecD (x.1 : Int) (rd_T49 l (x.1 : Int)).f3 D) (.map [])
theorem cAllD_snoc {H : Type} (l : List S49) (pre : List { i : Nat // i < l.length }) (x : { i : Nat // i < l.length }) : cAllD (H := H) l (pre ++ [x]) = cSecD (x.1 : Int) (rd_T49 l (x.1 : Int)).f3 (cAllD l pre) := by simp [cAllD]

/-- Does a task have a section with an object? -/
def cl_has (o : Int) (t : S49) : Bool := t.f3.any fun s => s.f0 == o
/-- What the map of ceilings tells at an object: the least index of a task with a section of it; 0 where there is none. -/
def cl_at (l : List S49) (o : Int) : Int := if l.any (cl_has o) then (l.findIdx (cl_has o) : Nat) else 0
theorem cv_sec_objects (cost : Int) : ∀ (ss : List S68) (e : Int), cv_sec cost e ss = true → ∀ s ∈ ss, 0 ≤ s.f0 ∧ s.f0 ≤ 1000
  | [], _, _, s, hs => by cases hs
  | a :: ss, e, h, s, hs => by
    simp only [cv_sec, Bool.and_eq_true, decide_eq_true_eq] at h
    rcases List.mem_cons.1 hs with rfl | hs
    · exact h.2.2.2.1
    · exact cv_sec_objects cost ss a.f2 h.2.2.2.2 s hs
/-- What Ceilings needs of a valid list. -/
theorem cv_parts (l : List S49) (hv : cv_valid l = true) : l.length ≤ 20 ∧ ∀ i, i < l.length → (rd_T49 l (i : Int)).f3.length ≤ 8 ∧ ∀ s ∈ (rd_T49 l (i : Int)).f3, 0 ≤ s.f0 ∧ s.f0 ≤ 1000 := by
  unfold cv_valid at hv
  rw [Bool.and_eq_true, decide_eq_true_eq, List.all_eq_true] at hv
  refine ⟨hv.1, fun i hi => ?_⟩
  have ht := hv.2 _ (List.getElem_mem hi)
  rw [rd49_at l i hi]
  unfold cv_task at ht
  rw [Bool.and_eq_true, decide_eq_true_eq] at ht
  exact ⟨ht.1.2.2.2.2.2.2, cv_sec_objects _ _ _ ht.2⟩

theorem blk_kept {X Y : World} {row : Option Nat} {B : Nat} {cs : Array Value} {t : TypeId} {fr : Nat × Nat} (h : X.heap[B]? = some (.cells cs t fr)) (hg : X.grownBy Y row) (hr : ∀ r, row = some r → ∃ o : Obj, X.heap[r]? = some o ∧ o.isCells = false) : Y.heap[B]? = some (.cells cs t fr) := by
  refine (hg.block B (Array.getElem?_eq_some_iff.1 h).1 (fun e => ?_)).trans h
  obtain ⟨o, ho, hc⟩ := hr _ e.symm
  rw [h] at ho
  obtain rfl := Option.some.inj ho
  simp [Obj.isCells] at hc

theorem ownsMap_below {H : Type} {W W' : World} {P : Program} {k : TypeId} {R : Value → Option (DataW H × List MemPlace)} {b n m : Nat} {D : DataW H} (h : W.ownsMap P k R b n D) (hb : Below m W W') (hm : b < m) : W'.ownsMap P k R b n D := by
  obtain ⟨es, clock, h1, h2⟩ := h
  exact ⟨es, clock, (hb.block b hm).trans h1, h2⟩
theorem boxed_below {W W' : World} {B m : Nat} {t : TypeId} {v : Value} (h : Boxed W B t v) (hb : Below m W W') (hm : B < m) : Boxed W' B t v := (hb.block B hm).trans h
theorem wf_i64' (x : Int) (h0 : 0 ≤ x) (h1 : x ≤ 1000) : (Lit.int .i64 x).wf = true := by
  have e1 : IntKind.i64.min = -9223372036854775808 := by decide
  have e2 : IntKind.i64.max = 9223372036854775807 := by decide
  simp only [Lit.wf, e1, e2, Bool.and_eq_true, decide_eq_true_eq]; omega
def vnum : Value → Int
  | .int _ c => c
  | _ => 0
set_option maxRecDepth 100000 in
set_option maxHeartbeats 4000000 in
theorem ceil_in {H : Type} (n : Nat) (hn : 6 ≤ n) (A0 : Option Addr) (c0 : Nat) (l0 : List S49) (w : World) (hr0 : Kd.C k49 w A0 l0.length l0) (hc0 : l0.length ≤ c0) (hv : cv_valid l0 = true) :
    CallsIn Fence.wide n Try.prog 36 #[.slice A0 l0.length c0] w fun e W' => e = .returned (.map (some w.heap.size)) ∧ W'.ownsMap Try.prog 3 (plainElem (H := H) Try.prog 3) w.heap.size 160 (cAllD l0 (bkw l0.length l0.length)) ∧ Below w.heap.size w W' := by
  have h1 : 1 ≤ n := by omega
  have hmm := @run_makeMap Try.prog
  obtain ⟨hlen, hsec⟩ := cv_parts l0 hv
  have HSEC := Aside0.mk hsec
  have HV := Aside0.mk (show ceiling_Valid.f l0 = some true by unfold ceiling_Valid.f; rw [hv])
  have HR := Aside0.mk hr0
  clear hsec hv hr0
  refine callsIn_of_wp_marks Try.func36 rfl trivial ?_ rfl
  simp only [Try.ntmps36, List.size_toArray, List.length_cons, List.length_nil, Nat.reduceAdd, Nat.reduceSub, Array.replicate_succ, Array.replicate_zero, List.push_toArray, List.append_toArray, List.nil_append, List.cons_append]
  have hB0 : Below w.heap.size w ((w.alloc (.map #[] 0)).alloc (.cells #[.map (some w.heap.size)] 65)) := ((Below.refl _ w).alloc (Nat.le_refl _) _).alloc (by simp) _
  have hm0 := (World.ownsMap_made w Try.prog 3 (plainElem (H := H) Try.prog 3)).alloc (.cells #[.map (some w.heap.size)] 65)
  have bO := Boxed.new (w.alloc (.map #[] 0)) 65 (.map (some w.heap.size))
  rw [World.size_alloc] at bO
  have HCV := Aside0.mk (ceiling_Valid.calls A0 c0 l0 true ((w.alloc (.map #[] 0)).alloc (.cells #[.map (some w.heap.size)] 65)) (Kd.C_below HR.out hB0) hc0 HV.out)
  gi_wp2_with fail
  refine ⟨trivial, ?_⟩
  refine (callsIn_wide.2 HCV.out).mono ?_
  rintro e w1 ⟨rfl, hb⟩
  have hz : w.heap.size + 1 < w1.heap.size := by have := hb.size; simp at this; omega
  have hm1 := ownsMap_below hm0 hb (by simp; omega)
  have bO1 := boxed_below bO hb (by simp)
  have hB1 : Below w.heap.size w w1 := below_step hB0 hb
  clear hb hm0 bO hB0 HCV
  gi_wp2_with (refine ⟨trivial, ?_⟩; gi_at_call 58; refine (back_in Fence.wide (n - 1) trivial rfl _ _ _ _).mono ?_; rintro e w' ⟨rfl, rfl⟩)
  have hsW0 : (w1.alloc (.cells #[.slice A0 l0.length c0] 22)).heap.size = w1.heap.size + 1 := by simp
  have hm2 := hm1.alloc (.cells #[.slice A0 l0.length c0] 22)
  have bO2 := bO1.alloc (.cells #[.slice A0 l0.length c0] 22)
  have bS2 := Boxed.new w1 22 (.slice A0 l0.length c0)
  have hB2 : Below w.heap.size w (w1.alloc (.cells #[.slice A0 l0.length c0] 22)) := hB1.alloc hB1.size _
  obtain ⟨W0, hW0⟩ : ∃ W0, w1.alloc (.cells #[.slice A0 l0.length c0] 22) = W0 := ⟨_, rfl⟩
  rw [hW0] at hsW0 hm2 bO2 bS2 hB2 ⊢
  clear hW0 hm1 bO1 hB1
  obtain ⟨A3, c3, hT⟩ := tasksAt HR.out
  refine wpIn_rangeFunc_ownH rfl h1 (gf := 65) (lb := #[.pointer (some ⟨w1.heap.size, 0, none⟩)]) rfl trivial (enters_of Try.func65 (by kernel_rfl) rfl)
    (back_stops Fence.wide (n - 1) trivial rfl (by omega) w1.heap.size w.heap.size A0 l0 c0 A3 c3 W0 (by omega) w (Nat.le_refl _) hB2 hT bS2.cell)
    (fun h k => KB.trans h k) (fun W l o o' hl ho _ _ => ⟨(Below.refl _ W).grown (grownBy_putObj' W l o') (by have := (Array.getElem?_eq_some_iff.1 ho).1; omega) (fun k e => by cases e; omega), (grownBy_putObj' W l o').block _ (by have := (Array.getElem?_eq_some_iff.1 ho).1; omega) (fun e => by cases e; omega)⟩)
    (Below.refl _ _) (fun _ => rfl)
    (fun pre W => ((Boxed W (w.heap.size + 1) 65 (.map (some w.heap.size)) ∧ Boxed W w1.heap.size 22 (.slice A0 l0.length c0)) ∧ W.ownsMap Try.prog 3 (plainElem (H := H) Try.prog 3) w.heap.size (8 * pre.length) (cAllD l0 pre)) ∧ Below w.heap.size w W)
    (fun _ _ _ => False)
    (OwnFrom.and (fun s A B row hs hg hr => ⟨⟨boxed_own (w.heap.size + 1) 65 (fun (_ : Unit) => Value.map (some w.heap.size)) () A B row hs.1.1 hg (fun r e => (hr r e).2), boxed_own w1.heap.size 22 (fun (_ : Unit) => Value.slice A0 l0.length c0) () A B row hs.1.2 hg (fun r e => (hr r e).2)⟩, hs.2.kept hg (fun e => by have := (hr _ e.symm).1; omega)⟩) (ownFrom_below (Nat.le_refl _) (by omega)))
    (fun _ _ _ _ _ hs _ _ => hs)
    ⟨⟨⟨bO2, bS2⟩, hm2⟩, hB2⟩
    (fun x a' W => ∃ Bx, w.heap.size + 1 < Bx ∧ W.heap[Bx]? = some (.cells #[.int .i64 (rd_T49 l0 (x.1 : Int)).f0, .int .i64 (rd_T49 l0 (x.1 : Int)).f1, .int .i64 (rd_T49 l0 (x.1 : Int)).f2, .slice (A3 x.1) (rd_T49 l0 (x.1 : Int)).f3.length (c3 x.1)] 49 (0, 0)) ∧
      a' = { tmps := #[.slice A0 l0.length c0, undef, .map none, .pointer (some ⟨w.heap.size + 1, 0, none⟩), .int .i64 (x.1 : Int), .pointer (some ⟨Bx, 0, none⟩), undef, undef, .map (some w.heap.size), .slice A0 l0.length c0, .bool true, .bool false, undef, .slice A0 l0.length c0, .func (.func 65) #[] #[.pointer (some ⟨w1.heap.size, 0, none⟩)], .int .i64 (x.1 : Int), taskV l0 A3 c3 x.1, undef, undef, undef, undef, undef, undef, undef, undef, undef, undef, undef, undef, undef], defers := [] })
    (fun x a' _ X Y row hs hg hr => by obtain ⟨Bx, h1, h2, h3⟩ := hs; exact ⟨Bx, h1, blk_kept h2 hg (fun r e => (hr r e).2), h3⟩)
    ?assign ?body ?done ?stop
  case assign =>
    rintro l pre x W K ⟨⟨⟨bO3, bS3⟩, hm3⟩, hB3⟩ hK
    unfold taskV
    gi_wp2
    have hlt := bO3.lt
    have hlt2 := bS3.lt
    refine hK _ _ ((KeepsOthers.alloc _ _).from _) ⟨(Below.refl _ W).alloc hB3.size _, (World.grownBy_alloc W _ none).block _ hlt2 (by simp)⟩ ⟨⟨⟨bO3.alloc _, bS3.alloc _⟩, hm3.alloc _⟩, hB3.alloc hB3.size _⟩ ⟨W.heap.size, hlt, World.alloc_heap_new _ _, rfl⟩
  case body =>
    rintro l pre x a' W _ _ ⟨⟨⟨bO3, bS3⟩, hm3⟩, hB3⟩ ⟨Bx, hBx, hblk, rfl⟩ hpre
    have hx := x.2
    obtain ⟨hl8, hobj⟩ := HSEC.out x.1 hx
    have HO := Aside0.mk hobj
    have hO0 := bO3.cell
    have hx0 : W.cell? ⟨Bx, 3, none⟩ = some (.slice (A3 x.1) (rd_T49 l0 (x.1 : Int)).f3.length (c3 x.1)) := by simp [World.cell?, hblk]
    obtain ⟨hcc, hsr⟩ := hT.secs x.1 hx
    have HS := Aside0.mk hsr
    clear hobj hsr
    have hB3' := hB3
    have hm3' := hm3
    gi_wp2
    gi_loopw [7, 20] (fun (v7 v20 : Value) (wr : World) => ∃ m : Nat, v20 = .int .i64 (m : Int) ∧ m ≤ (rd_T49 l0 (x.1 : Int)).f3.length ∧ (Boxed wr (w.heap.size + 1) 65 (.map (some w.heap.size)) ∧ wr.heap[w1.heap.size]? = W.heap[w1.heap.size]?) ∧
      wr.ownsMap Try.prog 3 (plainElem (H := H) Try.prog 3) w.heap.size (8 * pre.length + m) (cSecD (x.1 : Int) ((rd_T49 l0 (x.1 : Int)).f3.take m) (cAllD l0 pre)) ∧ Below w.heap.size W wr ∧ KeepsFrom W0.heap.size W wr)
      (fun (v7 v20 : Value) (wr : World) => (rd_T49 l0 (x.1 : Int)).f3.length - (vnum v20).toNat)
    case atStart =>
      exact ⟨0, rfl, Nat.zero_le _, ⟨bO3, rfl⟩, by simpa [cSecD] using hm3, Below.refl _ _, KeepsFrom.refl _ _⟩
    case round =>
      obtain ⟨m, rfl, hml, ⟨bO4, hk4⟩, hm4, hB4, hK4⟩ := hrel
      have hO4 := bO4.cell
      have hO4l := bO4.lt
      by_cases hm : m < (rd_T49 l0 (x.1 : Int)).f3.length
      · obtain ⟨ad, hA, e0, e1, e2⟩ := at_T68 HS.out (m : Int) (by omega) (by omega)
        rw [Int.toNat_natCast] at e0 e1 e2
        have hB4' := hB3'.trans hB4
        have e0 := pw_cell_below hB4' e0
        have e1 := pw_cell_below hB4' e1
        have e2 := pw_cell_below hB4' e2
        have hlt2 : w1.heap.size < wr.heap.size := Nat.lt_of_lt_of_le bS3.lt hB4.size
        rw [rd68_at _ m hm] at e0 e1 e2
        obtain ⟨hs0, hs1⟩ := HO.out _ (List.getElem_mem hm)
        have htk : (rd_T49 l0 (x.1 : Int)).f3.take (m + 1) = (rd_T49 l0 (x.1 : Int)).f3.take m ++ [(rd_T49 l0 (x.1 : Int)).f3[m]'hm] := by
          rw [List.take_add_one, List.getElem?_eq_getElem hm]; rfl
        have HTK := Aside0.mk htk
        clear htk
        generalize (rd_T49 l0 (x.1 : Int)).f3[m]'hm = sc at e0 e1 e2 hs0 hs1 HTK
        have hkey := Maps.keyOf_int_mk Try.underlying3 (wf_i64' sc.f0 (by omega) (by omega))
        have hcap : 8 * pre.length + m < maxLen := by simp only [maxLen]; omega
        have hwx := wf_i64' (x.1 : Int) (by omega) (by omega)
        have hd : decide ((m : Int) < ((rd_T49 l0 (x.1 : Int)).f3.length : Int)) = true := by simp; omega
        gi_wp2_with (gi_at_mapUpdate; go_loud (refine wpListIn_mapUpdate_own _ rfl _ _ _ 65 rfl 3 3 (Maps.int_keyed Try.underlying3) Try.underlying65 _ w.heap.size _ _ rfl (hm4.alloc _) hcap _ _ _ rfl rfl hkey _ [] (plainElem_int Try.underlying3 hwx) ?_; intro w2 hown2 hgrow2))
        obtain ⟨es, ck, hh, _⟩ := hm4.alloc (.cells #[.int .i64 sc.f0, .int .i64 sc.f1, .int .i64 sc.f2] 68)
        have hrow : ∀ r, some w.heap.size = some r → ∃ o : Obj, (wr.alloc (.cells #[.int .i64 sc.f0, .int .i64 sc.f1, .int .i64 sc.f2] 68)).heap[r]? = some o ∧ o.isCells = false := fun r e => by cases e; exact ⟨_, hh, rfl⟩
        have r1 := boxed_own (w.heap.size + 1) 65 (fun (_ : Unit) => Value.map (some w.heap.size)) () _ _ _ (bO4.alloc _) hgrow2 hrow
        have r2 : w2.heap[w1.heap.size]? = W.heap[w1.heap.size]? := ((hgrow2.block _ (by simp; omega) (fun e => by have := Option.some.inj e; omega)).trans ((World.grownBy_alloc wr _ none).block _ hlt2 (by simp))).trans hk4
        have r3 : Below w.heap.size W w2 := (hB4.alloc (by omega) _).grown hgrow2 (by simp; omega) (fun k e => by cases e; exact Nat.le_refl _)
        have r4 : KeepsFrom W0.heap.size W w2 := (hK4.trans ((KeepsOthers.alloc _ _).from _)).trans (KeepsFrom.of_grownBy hgrow2 (fun j e => by cases e; omega))
        simp only [hA]
        go_roundw
        case rel => exact ⟨m + 1, rfl, hm, ⟨r1, r2⟩, by rw [HTK.out, cSecD_snoc]; exact hown2, r3, r4⟩
        case measure => simp [vnum]; omega
      · obtain rfl : m = (rd_T49 l0 (x.1 : Int)).f3.length := by omega
        gi_wp2
        exact ⟨hK4, ⟨hB4, hk4⟩, ⟨⟨bO4, (show _ = _ from hk4).trans bS3⟩, by rw [cAllD_snoc, List.length_append, List.length_singleton]; rw [List.take_length] at hm4; exact hm4.mono (by omega)⟩, hB3'.trans hB4⟩
  case done =>
    rintro D ys W hD rfl ⟨⟨⟨bO3, bS3⟩, hm3⟩, hB3⟩ hK
    have hlen' := bkw_length l0.length l0.length (Nat.le_refl _)
    have hO0 := bO3.cell
    gi_wp2
    refine ⟨by simp, .inl ⟨_, _, rfl, run_takeDeferred hK, ?_⟩⟩
    exact ⟨_, results_tmp rfl _ _ _, rfl, (hm3.kept (grownBy_putObj' _ D _) (fun e => by cases e; omega)).mono (by omega), hB3.trans (belowK_b (w := w) (Nat.le_refl _) W D _ _ (by omega) hK rfl rfl)⟩
  case stop =>
    rintro D c pre W _ _ h _
    exact h.elim

theorem cSecD_isMap {H : Type} (i : Int) (ss : List S68) : ∀ (D : DataW H), Maps.IsMap D → Maps.IsMap (cSecD i ss D) := by
  induction ss with
  | nil => exact fun D h => h
  | cons s ss ih => exact fun D h => ih _ (h.put _ _)
theorem cl_key (o : Int) : WideAt.IsKeyLit (.int .i64 o) := by first | trivial | simp [WideAt.IsKeyLit]
theorem cSecD_at {H : Type} (i : Int) (ss : List S68) (o : Int) (z : DataW H) : ∀ (D : DataW H), Maps.IsMap D →
    (cSecD i ss D).atKey (.int .i64 o) z = if ss.any (fun s => s.f0 == o) then .lit (.int .i64 i) else D.atKey (.int .i64 o) z := by
  induction ss with
  | nil => exact fun D h => rfl
  | cons s ss ih =>
    intro D h
    have e : cSecD i (s :: ss) D = cSecD i ss (D.put (.int .i64 s.f0) (.lit (.int .i64 i))) := rfl
    rw [e, ih _ (h.put _ _), List.any_cons]
    by_cases hs : ss.any (fun s => s.f0 == o) = true
    · rw [if_pos hs, if_pos (by rw [hs, Bool.or_true])]
    · rw [if_neg hs]
      by_cases ho : s.f0 = o
      · subst ho
        rw [Maps.atKey_put_same h (cl_key _), if_pos (by simp)]
      · rw [Maps.atKey_put_other (by intro h; injection h with _ h; exact ho h.symm), if_neg (by simp [ho]; simpa using hs)]
theorem cAllD_at {H : Type} (l : List S49) (o : Int) : ∀ k, k ≤ l.length → Maps.IsMap (cAllD (H := H) l (bkw l.length k)) ∧
    (cAllD (H := H) l (bkw l.length k)).atKey (.int .i64 o) (.lit (.int .i64 0)) = .lit (.int .i64 (if (l.drop (l.length - k)).any (cl_has o) then ((l.length - k + (l.drop (l.length - k)).findIdx (cl_has o) : Nat) : Int) else 0))
  | 0, _ => by
    refine ⟨Maps.isMap_empty, ?_⟩
    rw [Nat.sub_zero, List.drop_length]
    rfl
  | k + 1, hk => by
    obtain ⟨h1, h2⟩ := cAllD_at (H := H) l o k (by omega)
    have hi : l.length - 1 - k < l.length := by omega
    rw [bkw_succ _ _ (by omega), cAllD_snoc]
    refine ⟨cSecD_isMap _ _ _ h1, ?_⟩
    rw [cSecD_at _ _ _ _ _ h1, h2, rd49_at l _ hi, show l.length - (k + 1) = l.length - 1 - k by omega, List.drop_eq_getElem_cons hi, List.any_cons, List.findIdx_cons, show l.length - 1 - k + 1 = l.length - k by omega]
    show (if cl_has o _ = true then _ else _) = _
    by_cases hc : cl_has o l[l.length - 1 - k] = true
    · rw [if_pos hc, hc, Bool.true_or, if_pos rfl, cond_true, Nat.add_zero]
    · rw [if_neg hc, Bool.eq_false_iff.2 hc, Bool.false_or, cond_false, show l.length - 1 - k + ((l.drop (l.length - k)).findIdx (cl_has o) + 1) = l.length - k + (l.drop (l.length - k)).findIdx (cl_has o) by omega]
theorem cl_atKey {H : Type} (l : List S49) (o : Int) : (cAllD (H := H) l (bkw l.length l.length)).atKey (.int .i64 o) (.lit (.int .i64 0)) = .lit (.int .i64 (cl_at l o)) := by
  rw [(cAllD_at l o l.length (Nat.le_refl _)).2, Nat.sub_self, List.drop_zero, Nat.zero_add]
  rfl
/-- What the map of a valid list is. -/
def cl_map {H : Type} (l : List S49) : DataW H := cAllD l (bkw l.length l.length)
theorem ceil_calls {H : Type} (A0 : Option Addr) (c0 : Nat) (l0 : List S49) (w : World) (hr0 : Kd.C k49 w A0 l0.length l0) (hc0 : l0.length ≤ c0) (hv : cv_valid l0 = true) :
    Calls Try.prog 36 #[.slice A0 l0.length c0] w fun e W' => e = .returned (.map (some w.heap.size)) ∧ W'.ownsMap Try.prog 3 (plainElem (H := H) Try.prog 3) w.heap.size 160 (cl_map l0) ∧ Below w.heap.size w W' ∧ w.heap.size < W'.heap.size :=
  (callsIn_wide (n := 6)).1 ((ceil_in 6 (Nat.le_refl _) A0 c0 l0 w hr0 hc0 hv).mono fun e W' h => ⟨h.1, h.2.1, h.2.2, h.2.1.lt⟩)
end Go.Proofs.Ytbhmaijmdkpmlaa.P
