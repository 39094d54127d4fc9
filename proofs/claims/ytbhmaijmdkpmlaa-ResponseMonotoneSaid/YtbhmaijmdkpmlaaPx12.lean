-- Written by wip/gen.py: the kit's print, with contracts of mine in it.
import Derived.Test.YtbhmaijmdkpmlaaPx0
import Derived.Test.YtbhmaijmdkpmlaaPx7
import Derived.Test.YtbhmaijmdkpmlaaPx11
import Derived.Test.YtbhmaijmdkpmlaaCeil
namespace Go.Proofs.Ytbhmaijmdkpmlaa.P
open Go.RowKit Go.Proofs.YtbhmaijmdkpmlaaW.PrintWords Go.Proofs.YtbhmaijmdkpmlaaW.PrintLast Go.Proofs.YtbhmaijmdkpmlaaW.PrintMore
attribute [local go_sem] max2_int min2_int max_two min_two max_three min_three max_four min_four   -- for this text's walks alone
set_option linter.unusedVariables false
set_option linter.unusedSimpArgs false

/-! ### response_Blocking: function 24, by hand -/
-- HAND rounds 0
-- HAND import Derived.Test.YtbhmaijmdkpmlaaCeil
def cb_secs (l : List S49) (task : Int) (ss : List S68) (m : Int) : Int := ss.foldl (fun m s => if cl_at l s.f0 ≤ task then (if m < s.f2 - s.f1 - 1 then s.f2 - s.f1 - 1 else m) else m) m
def cb_tasks (l : List S49) (task : Int) (ts : List S49) (m : Int) : Int := ts.foldl (fun m t => cb_secs l task t.f3 m) m
def cb_block (l : List S49) (task : Int) : Int := if cv_valid l && decide (0 ≤ task ∧ task < l.length) then cb_tasks l task (l.drop (task + 1).toNat) 0 else -1
def response_Blocking.f (l0 : List (S49)) (a1 : Int) : Option (Int) := some (cb_block l0 a1)
theorem cb_known (l0 : List S49) (a1 : Int) : response_known.f l0 a1 = some (cv_valid l0 && decide (0 ≤ a1 ∧ a1 < l0.length)) := by
  unfold response_known.f ceiling_Valid.f
  rw [Option.bind_some]
  cases cv_valid l0
  · rfl
  · rw [if_pos rfl, Bool.true_and]
    by_cases h : a1 ≥ 0
    · rw [if_pos h]; congr 1; exact decide_eq_decide.2 ⟨fun h2 => ⟨h, h2⟩, fun h2 => h2.2⟩
    · rw [if_neg h, decide_eq_false (fun h2 => h h2.1)]
theorem cb_sec_ok (cost : Int) : ∀ (ss : List S68) (e : Int), 0 ≤ e → cost ≤ 1000 → cv_sec cost e ss = true → ∀ s ∈ ss, 0 ≤ s.f0 ∧ s.f0 ≤ 1000 ∧ 0 ≤ s.f1 ∧ s.f1 < s.f2 ∧ s.f2 ≤ 1000
  | [], _, _, _, _, s, hs => by cases hs
  | a :: ss, e, h0, hc, h, s, hs => by
    simp only [cv_sec, Bool.and_eq_true, decide_eq_true_eq] at h
    rcases List.mem_cons.1 hs with rfl | hs
    · exact ⟨h.2.2.2.1.1, h.2.2.2.1.2, by omega, h.2.1, by omega⟩
    · exact cb_sec_ok cost ss a.f2 (by omega) hc h.2.2.2.2 s hs
theorem cb_parts (l : List S49) (hv : cv_valid l = true) : l.length ≤ 20 ∧ ∀ t ∈ l, t.f3.length ≤ 8 ∧ ∀ s ∈ t.f3, 0 ≤ s.f0 ∧ s.f0 ≤ 1000 ∧ 0 ≤ s.f1 ∧ s.f1 < s.f2 ∧ s.f2 ≤ 1000 := by
  unfold cv_valid at hv
  rw [Bool.and_eq_true, decide_eq_true_eq, List.all_eq_true] at hv
  refine ⟨hv.1, fun t ht => ?_⟩
  have ht := hv.2 _ ht
  unfold cv_task at ht
  rw [Bool.and_eq_true, decide_eq_true_eq] at ht
  exact ⟨ht.1.2.2.2.2.2.2, cb_sec_ok _ _ _ (by omega) ht.1.2.1 ht.2⟩
theorem cb_secs_snoc (l : List S49) (task : Int) (ss : List S68) (s : S68) (m : Int) : cb_secs l task (ss ++ [s]) m = if cl_at l s.f0 ≤ task then (if cb_secs l task ss m < s.f2 - s.f1 - 1 then s.f2 - s.f1 - 1 else cb_secs l task ss m) else cb_secs l task ss m := by unfold cb_secs; rw [List.foldl_append]; rfl
theorem cb_tasks_snoc (l : List S49) (task : Int) (ts : List S49) (t : S49) (m : Int) : cb_tasks l task (ts ++ [t]) m = cb_secs l task t.f3 (cb_tasks l task ts m) := by unfold cb_tasks; rw [List.foldl_append]; rfl

set_option maxHeartbeats 8000000 in
set_option maxRecDepth 100000 in
theorem cb_walk (A0 : Option Addr) (c0 : Nat) (l0 : List (S49)) (a1 : Int) (w : World) (hr0 : Kd.C k49 w A0 l0.length l0) (hc0 : l0.length ≤ c0) (hv : cv_valid l0 = true) (h1 : 0 ≤ a1) (h2 : a1 < l0.length) :
    Calls Try.prog 24 #[.slice A0 l0.length c0, .int .i64 a1] w fun e w' => e = .returned (.int .i64 (cb_tasks l0 a1 (l0.drop (a1 + 1).toNat) 0)) ∧ Below w.heap.size w w' := by
  have HC := Aside0.mk hc0
  have HR := Aside0.mk hr0
  have HV := Aside0.mk hv
  obtain ⟨hlen, hparts⟩ := cb_parts l0 hv
  have HP := Aside0.mk (show ∀ t ∈ l0.drop (a1 + 1).toNat, t.f3.length ≤ 8 ∧ ∀ s ∈ t.f3, 0 ≤ s.f0 ∧ s.f0 ≤ 1000 ∧ 0 ≤ s.f1 ∧ s.f1 < s.f2 ∧ s.f2 ≤ 1000 from fun t ht => hparts t (List.mem_of_mem_drop ht))
  have HK := Aside0.mk (response_known.calls A0 c0 l0 a1 true w hr0 hc0 (by rw [cb_known, hv, Bool.true_and, decide_eq_true ⟨h1, h2⟩]))
  obtain ⟨i0, hi0, _, hsz, _⟩ := info_parts info49
  have hcut := cut_from (P := Try.prog) 22 49 .i64 Try.underlying22 hi0 4 hsz A0 l0.length c0 (a1 + 1) (by omega) (by omega)
  have hdrop := Kd.C_drop (m := (a1 + 1).toNat) hr0 (by omega) hc0
  have hl := List.length_drop (i := (a1 + 1).toNat) (l := l0)
  have hgt : l0.length - (a1 + 1).toNat ≤ c0 - (a1 + 1).toNat := by omega
  rw [← hl] at hcut hgt
  rw [show k49.sz = 4 from rfl] at hdrop
  generalize (if c0 = (a1 + 1).toNat then A0 else A0.map (·.add ((a1 + 1).toNat * 4))) = A1 at hcut hdrop
  generalize c0 - (a1 + 1).toNat = c1 at hcut hgt
  generalize l0.drop (a1 + 1).toNat = ys at *
  have HD := Aside0.mk hdrop
  have HCUT := Aside0.mk hcut
  have hys : ys.length ≤ 20 := by omega
  clear hdrop hcut hr0 hc0 hv hparts hl hsz hi0
  go_enter Try.func24, Try.ntmps24
  go_wp2_with fail
  refine HK.out.mono ?_
  rintro e w1 ⟨rfl, hb⟩
  have HB1 := Aside0.mk hb
  have HM := Aside0.mk (ceil_calls (H := Unit) A0 c0 l0 w1 (Kd.C_below HR.out hb) HC.out HV.out)
  clear hb HK
  go_wp2_with fail
  refine HM.out.mono ?_
  rintro e w2 ⟨rfl, hown, hb, hlt⟩
  have HB2 := Aside0.mk (below_step HB1.out hb)
  have HD2 := Aside0.mk (Kd.C_below HD.out HB2.out)
  have HO := Aside0.mk hown
  have HL := Aside0.mk hlt
  clear hb hown hlt HM
  generalize w1.heap.size = bm at *
  have hcut := HCUT.out
  go_wp2
  go_loopg [6, 8, 10, 22] ys.length (fun kx s6 s8 s10 s22 wr => ∃ (m : Nat) (q : Int), s22 = .int .i64 m ∧ s6 = .int .i64 q ∧ m ≤ ys.length ∧ ys.length - m ≤ kx ∧ Aside0 (q = cb_tasks l0 a1 (ys.take m) 0) ∧ Aside0 (Below w2.heap.size w2 wr))
  case atStart => exact ⟨0, 0, rfl, rfl, Nat.zero_le _, by omega, ⟨rfl⟩, ⟨Below.refl _ _⟩⟩
  case round =>
    obtain ⟨m, q, rfl, rfl, hm, hg, HQ, HB⟩ := hrel
    by_cases hlt : m < ys.length
    · obtain ⟨ad, A3, c3, rfl, e0, e1, e2, e3, hl3, hr3⟩ := at_T49 (Kd.C_below HD2.out HB.out) (m : Int) (by omega) (by omega)
      rw [Int.toNat_natCast] at e0 e1 e2 e3
      have HTK := Aside0.mk (show ys.take (m + 1) = ys.take m ++ [rd_T49 ys (m : Int)] from by
        rw [List.take_add_one, List.getElem?_eq_getElem hlt, rd49_at ys m hlt]; rfl)
      have hp := HP.out (rd_T49 ys (m : Int)) (by rw [rd49_at ys m hlt]; exact List.getElem_mem hlt)
      have hl8 := hp.1
      have HP3 := Aside0.mk hp.2
      have HR3 := Aside0.mk hr3
      clear hp hr3
      generalize rd_T49 ys (m : Int) = T at *
      have hd : decide ((m : Int) < (ys.length : Int)) = true := by simp; omega
      obtain ⟨wa, hwa⟩ : ∃ wa, wa = wr.alloc (.cells #[.int .i64 T.f0, .int .i64 T.f1, .int .i64 T.f2, .slice A3 T.f3.length c3] 49) := ⟨_, rfl⟩
      have HBa := Aside0.mk (show Below wr.heap.size wr wa from hwa ▸ (Below.refl _ wr).alloc (Nat.le_refl _) _)
      go_wp2
      rw [← hwa]
      have HBw := Aside0.mk (below_step HB.out HBa.out)
      have HR3a := Aside0.mk (Kd.C_below HR3.out HBa.out)
      clear hwa e0 e1 e2 e3
      go_loopg [6, 10, 29] T.f3.length (fun kx s6 s10 s29 wr' => ∃ (j : Nat) (p : Int), s29 = .int .i64 j ∧ s6 = .int .i64 p ∧ j ≤ T.f3.length ∧ T.f3.length - j ≤ kx ∧ Aside0 (p = cb_secs l0 a1 (T.f3.take j) q) ∧ Aside0 (Below wa.heap.size wa wr'))
      case atStart => exact ⟨0, q, rfl, rfl, Nat.zero_le _, by omega, ⟨rfl⟩, ⟨Below.refl _ _⟩⟩
      case round =>
        obtain ⟨j, p, rfl, rfl, hj, hgj, HP2, HBj⟩ := hrel
        by_cases hlj : j < T.f3.length
        · obtain ⟨bd, rfl, g0, g1, g2⟩ := at_T68 (Kd.C_below HR3a.out HBj.out) (j : Int) (by omega) (by omega)
          rw [Int.toNat_natCast] at g0 g1 g2
          rw [rd68_at _ j hlj] at g0 g1 g2
          have HTK3 := Aside0.mk (show T.f3.take (j + 1) = T.f3.take j ++ [T.f3[j]'hlj] from by rw [List.take_add_one, List.getElem?_eq_getElem hlj]; rfl)
          obtain ⟨hs0, hs1, hs2, hs3, hs4⟩ := HP3.out _ (List.getElem_mem hlj)
          generalize T.f3[j]'hlj = sc at *
          have hkey := Maps.keyOf_int_mk Try.underlying3 (wf_i64' sc.f0 (by omega) (by omega))
          have hdj : decide ((j : Int) < (T.f3.length : Int)) = true := by simp; omega
          have hown := (ownsMap_below (ownsMap_below HO.out HBw.out HL.out) HBj.out (Nat.lt_of_lt_of_le HL.out HBw.out.size)).alloc (.cells #[.int .i64 sc.f0, .int .i64 sc.f1, .int .i64 sc.f2] 68)
          have HOW := Aside0.mk hown
          clear hown
          have HBn := Aside0.mk (show Below wa.heap.size wa (wr.alloc (.cells #[.int .i64 sc.f0, .int .i64 sc.f1, .int .i64 sc.f2] 68)) from HBj.out.alloc HBj.out.size _)
          by_cases hc : cl_at l0 sc.f0 ≤ a1
          · have hcd := decide_eq_true hc
            have HN := Aside0.mk (show cb_secs l0 a1 (T.f3.take (j + 1)) q = if p < sc.f2 - sc.f1 - 1 then sc.f2 - sc.f1 - 1 else p by rw [HTK3.out, cb_secs_snoc, if_pos hc, ← HP2.out])
            clear hc
            go_wp2_with (first | (at_lookup; refine wpList_lookup_own_int _ rfl _ _ 65 rfl 3 3 .i64 (Maps.int_keyed Try.underlying3) Try.underlying65 Try.underlying3 (Try.zeroValue3 _) bm 160 _ rfl HOW.out _ _ rfl hkey ?_; intro c hat hwc; obtain rfl : c = cl_at l0 sc.f0 := (by rw [show (cl_map l0 : DataW Unit) = cAllD l0 (bkw l0.length l0.length) from rfl, cl_atKey] at hat; injection hat with hat; injection hat with _ hat; exact hat.symm)))
            all_goals
              go_roundg (T.f3.length - (j + 1))
              case measure => omega
              case rel => exact ⟨j + 1, _, by first | rfl | (simp; done), rfl, hlj, Nat.le_refl _, ⟨by rw [HN.out]; first | rw [if_pos (by assumption)] | rw [if_neg (by omega)]⟩, HBn⟩
          · have hcd := decide_eq_false hc
            have HN := Aside0.mk (show cb_secs l0 a1 (T.f3.take (j + 1)) q = p by rw [HTK3.out, cb_secs_snoc, if_neg hc, ← HP2.out])
            clear hc
            go_wp2_with (first | (at_lookup; refine wpList_lookup_own_int _ rfl _ _ 65 rfl 3 3 .i64 (Maps.int_keyed Try.underlying3) Try.underlying65 Try.underlying3 (Try.zeroValue3 _) bm 160 _ rfl HOW.out _ _ rfl hkey ?_; intro c hat hwc; obtain rfl : c = cl_at l0 sc.f0 := (by rw [show (cl_map l0 : DataW Unit) = cAllD l0 (bkw l0.length l0.length) from rfl, cl_atKey] at hat; injection hat with hat; injection hat with _ hat; exact hat.symm)))
            go_roundg (T.f3.length - (j + 1))
            case measure => omega
            case rel => exact ⟨j + 1, p, by first | rfl | (simp; done), rfl, hlj, Nat.le_refl _, ⟨HN.out.symm⟩, HBn⟩
        · obtain rfl : j = T.f3.length := by omega
          rw [List.take_length] at HP2
          have HN := Aside0.mk (show cb_tasks l0 a1 (ys.take (m + 1)) 0 = p by rw [HTK.out, cb_tasks_snoc, HP2.out, HQ.out])
          have HBe := Aside0.mk (below_step HBw.out HBj.out)
          go_wp2
          go_roundg (ys.length - (m + 1))
          case measure => omega
          case rel => exact ⟨m + 1, p, by first | rfl | (simp; done), rfl, hlt, Nat.le_refl _, ⟨HN.out.symm⟩, HBe⟩
    · obtain rfl : m = ys.length := by omega
      rw [List.take_length] at HQ
      go_wp2
      go_ret
      exact ⟨by rw [HQ.out]; rfl, below_step HB2.out HB.out⟩

theorem response_Blocking.calls (A0 : Option Addr) (c0 : Nat) (l0 : List (S49)) (a1 : Int) (r : Int) (w : World) (hr0 : Kd.C k49 w A0 l0.length l0) (hc0 : l0.length ≤ c0) (h : response_Blocking.f l0 a1 = some r) :
    Calls Try.prog 24 #[.slice A0 l0.length c0, .int .i64 a1] w fun e w' => e = .returned (.int .i64 r) ∧ Below w.heap.size w w' := by
  obtain rfl := Option.some.inj h
  unfold cb_block
  cases hk : (cv_valid l0 && decide (0 ≤ a1 ∧ a1 < l0.length))
  · have HK := Aside0.mk (response_known.calls A0 c0 l0 a1 false w hr0 hc0 (by rw [cb_known, hk]))
    clear hr0 hc0 h hk
    go_enter Try.func24, Try.ntmps24
    go_wp2_with fail
    refine HK.out.mono ?_
    rintro e w1 ⟨rfl, hb⟩
    have HB1 := Aside0.mk hb
    clear hb
    go_wp2
    go_ret
    exact ⟨rfl, HB1.out⟩
  · rw [if_pos rfl]
    rw [Bool.and_eq_true, decide_eq_true_eq] at hk
    exact cb_walk A0 c0 l0 a1 w hr0 hc0 hk.1 hk.2.1 hk.2.2

end Go.Proofs.Ytbhmaijmdkpmlaa.P
