/- The walk of ParseWords. -/
import Derived.Test.YtgpfjcogaheopaaQM
import Derived.Test.YtgpfjcogaheopaaPX
import Derived.Test.YtgpfjcogaheopaaXU
import Derived.BigQuiet
import Derived.Deep.CutBlock
import Derived.Deep.DeepCutAuto
import Derived.Deep.LoopGhost
set_option linter.all false
namespace Go.Proofs.Ytgpfjcogaheopaa
open Go.RowKit Lx
set_option maxRecDepth 100000

set_option maxHeartbeats 4000000 in
theorem reserved15 (s : List UInt8) (w : World) : Calls Try.prog 15 #[sv s] w fun e w' => e = .returned (.bool (resB s)) ∧ w.grownBy w' none := by
  unfold sv
  by_cases h0 : s = [33]
  · subst h0
    go_enter Try.func15, Try.ntmps15
    go_wp2_with fail
    go_ret
    exact ⟨ret_bool (a := true) (by decide), only_refl w none⟩
  have b0 : (s == [33]) = false := beq_eq_false_iff_ne.2 h0
  by_cases h1 : s = [123]
  · subst h1
    go_enter Try.func15, Try.ntmps15
    go_wp2_with fail
    go_ret
    exact ⟨ret_bool (a := true) (by decide), only_refl w none⟩
  have b1 : (s == [123]) = false := beq_eq_false_iff_ne.2 h1
  by_cases h2 : s = [125]
  · subst h2
    go_enter Try.func15, Try.ntmps15
    go_wp2_with fail
    go_ret
    exact ⟨ret_bool (a := true) (by decide), only_refl w none⟩
  have b2 : (s == [125]) = false := beq_eq_false_iff_ne.2 h2
  by_cases h3 : s = [99, 97, 115, 101]
  · subst h3
    go_enter Try.func15, Try.ntmps15
    go_wp2_with fail
    go_ret
    exact ⟨ret_bool (a := true) (by decide), only_refl w none⟩
  have b3 : (s == [99, 97, 115, 101]) = false := beq_eq_false_iff_ne.2 h3
  by_cases h4 : s = [100, 111]
  · subst h4
    go_enter Try.func15, Try.ntmps15
    go_wp2_with fail
    go_ret
    exact ⟨ret_bool (a := true) (by decide), only_refl w none⟩
  have b4 : (s == [100, 111]) = false := beq_eq_false_iff_ne.2 h4
  by_cases h5 : s = [100, 111, 110, 101]
  · subst h5
    go_enter Try.func15, Try.ntmps15
    go_wp2_with fail
    go_ret
    exact ⟨ret_bool (a := true) (by decide), only_refl w none⟩
  have b5 : (s == [100, 111, 110, 101]) = false := beq_eq_false_iff_ne.2 h5
  by_cases h6 : s = [101, 108, 105, 102]
  · subst h6
    go_enter Try.func15, Try.ntmps15
    go_wp2_with fail
    go_ret
    exact ⟨ret_bool (a := true) (by decide), only_refl w none⟩
  have b6 : (s == [101, 108, 105, 102]) = false := beq_eq_false_iff_ne.2 h6
  by_cases h7 : s = [101, 108, 115, 101]
  · subst h7
    go_enter Try.func15, Try.ntmps15
    go_wp2_with fail
    go_ret
    exact ⟨ret_bool (a := true) (by decide), only_refl w none⟩
  have b7 : (s == [101, 108, 115, 101]) = false := beq_eq_false_iff_ne.2 h7
  by_cases h8 : s = [101, 115, 97, 99]
  · subst h8
    go_enter Try.func15, Try.ntmps15
    go_wp2_with fail
    go_ret
    exact ⟨ret_bool (a := true) (by decide), only_refl w none⟩
  have b8 : (s == [101, 115, 97, 99]) = false := beq_eq_false_iff_ne.2 h8
  by_cases h9 : s = [102, 105]
  · subst h9
    go_enter Try.func15, Try.ntmps15
    go_wp2_with fail
    go_ret
    exact ⟨ret_bool (a := true) (by decide), only_refl w none⟩
  have b9 : (s == [102, 105]) = false := beq_eq_false_iff_ne.2 h9
  by_cases h10 : s = [102, 111, 114]
  · subst h10
    go_enter Try.func15, Try.ntmps15
    go_wp2_with fail
    go_ret
    exact ⟨ret_bool (a := true) (by decide), only_refl w none⟩
  have b10 : (s == [102, 111, 114]) = false := beq_eq_false_iff_ne.2 h10
  by_cases h11 : s = [105, 102]
  · subst h11
    go_enter Try.func15, Try.ntmps15
    go_wp2_with fail
    go_ret
    exact ⟨ret_bool (a := true) (by decide), only_refl w none⟩
  have b11 : (s == [105, 102]) = false := beq_eq_false_iff_ne.2 h11
  by_cases h12 : s = [105, 110]
  · subst h12
    go_enter Try.func15, Try.ntmps15
    go_wp2_with fail
    go_ret
    exact ⟨ret_bool (a := true) (by decide), only_refl w none⟩
  have b12 : (s == [105, 110]) = false := beq_eq_false_iff_ne.2 h12
  by_cases h13 : s = [116, 104, 101, 110]
  · subst h13
    go_enter Try.func15, Try.ntmps15
    go_wp2_with fail
    go_ret
    exact ⟨ret_bool (a := true) (by decide), only_refl w none⟩
  have b13 : (s == [116, 104, 101, 110]) = false := beq_eq_false_iff_ne.2 h13
  by_cases h14 : s = [117, 110, 116, 105, 108]
  · subst h14
    go_enter Try.func15, Try.ntmps15
    go_wp2_with fail
    go_ret
    exact ⟨ret_bool (a := true) (by decide), only_refl w none⟩
  have b14 : (s == [117, 110, 116, 105, 108]) = false := beq_eq_false_iff_ne.2 h14
  by_cases h15 : s = [119, 104, 105, 108, 101]
  · subst h15
    go_enter Try.func15, Try.ntmps15
    go_wp2_with fail
    go_ret
    exact ⟨ret_bool (a := true) (by decide), only_refl w none⟩
  have b15 : (s == [119, 104, 105, 108, 101]) = false := beq_eq_false_iff_ne.2 h15
  have hno : resB s = false := by
    unfold resB resW
    simp only [List.contains_cons, List.contains_nil, Bool.or_false]
    simp only [wBang, wOpen, wClose, wCase, wDo, wDone, wElif, wElse, wEsac, wFi, wFor, wIf, wIn, wThen, wUntil, wWhile, b0, b1, b2, b3, b4, b5, b6, b7, b8, b9, b10, b11, b12, b13, b14, b15, Bool.or_false]
  have HN := hide hno
  clear hno
  go_enter Try.func15, Try.ntmps15
  go_wp2_with fail
  go_ret
  exact ⟨ret_bool (a := false) (by rw [HN.out]), only_refl w none⟩

theorem plainN_le (l : List (List UInt8)) : plainN l ≤ l.length := List.length_filter_le _ _
theorem plainN_cons (s : List UInt8) (l : List (List UInt8)) : plainN (s :: l) = plainN [s] + plainN l := by
  rw [show s :: l = [s] ++ l from rfl, plainN_app]
theorem plainN_step (l : List (List UInt8)) (i : Nat) (h : i < l.length) : plainN (l.take (i + 1)) = plainN (l.take i) + (if resB l[i] = true then 0 else 1) := by
  rw [List.take_succ_eq_append_getElem h, plainN_app]
  congr 1
  unfold plainN
  rw [List.filter_cons]
  cases resB l[i] <;> simp
set_option maxHeartbeats 4000000 in
theorem plain16 (l : List (List UInt8)) (v : Value) (w : World) (h : StrS w v l) : Calls Try.prog 16 #[v] w fun e w' => e = .returned (.int .i64 (plainN l)) ∧ w.grownBy w' none := by
  unfold StrS at h
  have HS := hide h
  obtain ⟨va, cap, rfl, hcp, hcm⟩ := h.form
  obtain ⟨L, hL⟩ : ∃ L, l.length = L := ⟨_, rfl⟩
  have HL := hide hL
  have hLm : L ≤ 9223372036854775807 := by unfold maxLen at hcm; omega
  simp only [hL]
  have HR := hide (fun s W => reserved15 s W)
  unfold sv at HR
  clear h hcp hcm hL
  go_enter Try.func16, Try.ntmps16
  go_wp2_with fail
  go_loopg [3, 4] L (fun g v3 v4 wr => ∃ i : Nat, v4 = .int .i64 i ∧ v3 = .int .i64 (plainN (l.take i)) ∧ i ≤ L ∧ L - i ≤ g ∧ w.grownBy wr none)
  case atStart => exact ⟨0, rfl, rfl, Nat.zero_le _, Nat.le_refl _, only_refl _ _⟩
  case round =>
    obtain ⟨i, rfl, rfl, hi, hgi, hgr⟩ := hrel
    have HGI := hide hgi
    clear hgi
    have hp1 := plainN_le (l.take i)
    rw [List.length_take] at hp1
    by_cases hlt : i < L
    · have q0 : decide ((i : Int) < (L : Int)) = true := decide_eq_true (by omega)
      have hlt2 : i < l.length := by have := HL.out; omega
      obtain ⟨g, off, cap', hv, _, _, hg, hcs⟩ := HS.out.some_ (by omega)
      injection hv with hv1 hv2 hv3
      subst hv1
      subst hv3
      clear hv2
      obtain ⟨s, hs⟩ : ∃ s, l[i] = s := ⟨_, rfl⟩
      have x0 : wr.cell? ⟨g, off + i, none⟩ = some (.string ⟨s.toArray⟩) := old_cell hgr hg (by rw [hcs i (by omega), List.getElem?_map, List.getElem?_eq_getElem hlt2, hs]; rfl)
      have hst := plainN_step l i hlt2
      rw [hs] at hst
      obtain ⟨m, hm⟩ : ∃ m, plainN (l.take i) = m := ⟨_, rfl⟩
      rw [hm] at hst hp1 ⊢
      have hib : (0 : Int) ≤ (i : Int) ∧ (i : Int) < (L : Int) := by omega
      have hmb : m ≤ i := by omega
      have HGR := hide hgr
      have HST := hide hst
      clear hst hs hm hcs hlt2 hgr hp1
      go_wp2_with fail
      refine (HR.out s _).mono ?_
      rintro e w1 ⟨rfl, g1⟩
      have G1 := hide (none_trans HGR.out g1)
      clear g1
      cases hb : resB s with
      | true =>
        go_wp2_with fail
        go_roundg (gk - 1)
        case rel => exact ⟨i + 1, by go_num, by rw [HST.out, hb]; rfl, by omega, by have := HGI.out; omega, G1.out⟩
        case measure => have := HGI.out; omega
      | false =>
        go_wp2_with fail
        go_roundg (gk - 1)
        case rel => exact ⟨i + 1, by go_num, by rw [HST.out, hb, if_neg (by decide)]; go_num, by omega, by have := HGI.out; omega, G1.out⟩
        case measure => have := HGI.out; omega
    · obtain rfl : i = L := by omega
      have q0 : decide ((i : Int) < (i : Int)) = false := decide_eq_false (by omega)
      have HGR := hide hgr
      have HT := hide (show plainN (l.take i) = plainN l by rw [← HL.out, List.take_length])
      clear hgr
      go_wp2_with fail
      go_ret
      first
        | exact ⟨rfl, HGR.out⟩
        | exact ⟨by rw [HT.out]; rfl, HGR.out⟩

theorem w64_in (n : Int) (h0 : 0 ≤ n) (h1 : n ≤ 4611686018427387904) : wrap64 n = n := by unfold wrap64; omega
theorem pn_res {s : List UInt8} (h : resB s = true) : plainN [s] = 0 := by simp [plainN, h]
theorem pn_plain {s : List UInt8} (h : resB s = false) : plainN [s] = 1 := by simp [plainN, h]
theorem ar0 {x : Int} {T nS PN PW PP PR : Nat} (h1 : x = (T : Int)) (h2 : T + (nS + PN + PW + PP + PR) ≤ 401) (h3 : PN = 0) : wrap64 (x + (nS : Int)) = (T : Int) + nS + PN := by
  rw [h1, w64_in _ (by omega) (by omega)]
  omega
theorem ar1 {x : Int} {T nS PN PW PP PR : Nat} (h1 : x = (T : Int)) (h2 : T + (nS + PN + PW + PP + PR) ≤ 401) (h3 : PN = 1) : wrap64 (wrap64 (x + (nS : Int)) + 1) = (T : Int) + nS + PN := by
  rw [h1, w64_in ((T : Int) + nS) (by omega) (by omega), w64_in _ (by omega) (by omega)]
  omega
theorem ar2 {x : Int} {T nS PN PW PP PR : Nat} (h1 : x = (T : Int)) (h2 : T + (nS + PN + PW + PP + PR) ≤ 401) (h3 : PN = 1) : wrap64 (x + (nS : Int) + 1) = (T : Int) + nS + PN := by
  rw [h1, w64_in _ (by omega) (by omega)]
  omega
theorem ar3 {y : Int} {T nS PN PW PP PR A Q B : Nat} (h1 : y = (T : Int) + nS + PN + PW + PP + A) (h2 : T + (nS + PN + PW + PP + PR) ≤ 401) (h3 : B = A + Q) (h4 : B ≤ PR) : wrap64 (y + (Q : Int)) = (T : Int) + nS + PN + PW + PP + B := by
  rw [h1, w64_in _ (by omega) (by omega)]
  omega
theorem own_gr {w w' : World} {e : TypeId} {size n k : Nat} {v : Value} {xs : List Value} (h : w.grownBy w' none) (ho : Own w e size v n xs k) : Own w' e size v n xs k :=
  ho.chg (S := fun _ => False) (Chg.of_grown h (fun k hk => by cases hk)) (fun _ _ h => h)
theorem cnt_app (a b : List Tok) : cnt (a ++ b) = cnt a + cnt b := by simp [cnt]
theorem cnt_step (ts : List Tok) (i : Nat) (h : i < ts.length) : cnt (ts.take (i + 1)) = cnt (ts.take i) + (if (ts[i].k == 1 && !resB ts[i].t) = true then 1 else 0) := by
  rw [List.take_succ_eq_append_getElem h, cnt_app, cnt_cons]
  rfl
theorem cnt_le (ts : List Tok) : cnt ts ≤ ts.length := List.length_filter_le _ _
theorem wtN_step (l : List Nd) (i : Nat) (h : i < l.length) : wtN (l.take (i + 1)) = wtN (l.take i) + wt l[i] := by
  rw [List.take_succ_eq_append_getElem h, wtN_app, wtN_one]
theorem wtN_part (l : List Nd) (i : Nat) (h : i < l.length) : wtN (l.take i) + wt l[i] ≤ wtN l := by
  have h1 := wtN_step l i h
  have h2 : wtN l = wtN (l.take (i + 1)) + wtN (l.drop (i + 1)) := by rw [← wtN_app, List.take_append_drop]
  omega
theorem wrap_small {x : Int} (h0 : 0 ≤ x) (h1 : x ≤ 4611686018427387904) : IntKind.i64.wrap x = x := by
  rw [IntKind.wrap_i64]
  omega
theorem pats_step (p : List (List (List UInt8))) (i : Nat) (h : i < p.length) : ((p.take (i + 1)).map plainN).sum = ((p.take i).map plainN).sum + plainN p[i] := by
  rw [List.take_succ_eq_append_getElem h, List.map_append, List.sum_append]
  simp
theorem pats_le (p : List (List (List UInt8))) (i : Nat) : ((p.take i).map plainN).sum ≤ (p.map plainN).sum := by
  have : (p.map plainN).sum = ((p.take i).map plainN).sum + ((p.drop i).map plainN).sum := by rw [← List.sum_append, ← List.map_append, List.take_append_drop]
  omega
theorem rds_step (r : List Rd) (i : Nat) (h : i < r.length) : plainN ((r.take (i + 1)).map Rd.wd) = plainN ((r.take i).map Rd.wd) + plainN [r[i].wd] := by
  rw [List.take_succ_eq_append_getElem h, List.map_append, plainN_app]
  rfl
theorem rds_le (r : List Rd) (i : Nat) : plainN ((r.take i).map Rd.wd) ≤ plainN (r.map Rd.wd) := by
  have : plainN (r.map Rd.wd) = plainN ((r.take i).map Rd.wd) + plainN ((r.drop i).map Rd.wd) := by rw [← plainN_app, ← List.map_append, List.take_append_drop]
  omega
theorem rd_cells : ∀ (l : List Rd) (i j : Nat) (h : i < l.length), j < 3 → (l.flatMap Rd.cells)[i * 3 + j]? = (Rd.cells l[i])[j]?
  | r :: l, 0, j, h, hj => by
    rw [List.flatMap_cons, List.getElem?_append_left (by simp [Rd.cells]; omega)]
    simp
  | r :: l, i + 1, j, h, hj => by
    have hl : (Rd.cells r).length = 3 := rfl
    rw [List.flatMap_cons, List.getElem?_append_right (by rw [hl]; omega), hl, show (i + 1) * 3 + j - 3 = i * 3 + j by omega]
    exact rd_cells l i j (by simpa using h) hj
set_option maxHeartbeats 16000000 in
theorem words_any (s : List UInt8) (w : World) (hm : s.length ≤ 9223372036854775807) : Calls Try.prog 5 #[sv s] w fun e w' => e = .returned (.bool true) ∧ w.grownBy w' none := by
  have Hs := hide (fun W => shown_any W)
  have HP := hide (fun W => parse_any s W hm)
  unfold ParsePost sv at HP
  have HA := hide (fun W => all_d s W hm)
  unfold sv at HA
  have HR := hide (fun s W => reserved15 s W)
  unfold sv at HR
  have HPL := hide (fun l v W h => plain16 l v W h)
  have HY := hide (parse_says s)
  obtain ⟨P, hP⟩ : ∃ P, parseF s = P := ⟨_, rfl⟩
  rw [hP] at HP HY
  clear hP
  unfold sv
  go_enter Try.func5, Try.ntmps5
  go_wp2_with fail
  refine (Hs.out _).mono ?_
  rintro e w1 ⟨rfl, g1⟩
  have G1 := hide g1
  clear g1
  go_wp2_with fail
  refine (HP.out _).mono ?_
  rintro e w2 ⟨v, rfl, hnd, _, g2⟩
  have G2 := hide (none_trans G1.out g2)
  have HND := hide hnd
  obtain ⟨cs, hown, _⟩ := hnd
  obtain ⟨va, cap, rfl, hcp, _⟩ := hown.form
  obtain ⟨L, hL⟩ : ∃ L, P.ns.length = L := ⟨_, rfl⟩
  rw [hL] at hcp
  have HL := hide hL
  simp only [hL]
  clear hown g2 hL
  by_cases he : P.e = 0
  · obtain ⟨ts, hts, hwh⟩ := HY.out.2 he
    have hfew : L ≤ 300 := by have := hwh.few; have := HL.out; omega
    have HWT := hide hwh.wts
    rw [hts] at HA
    have HTK := hide (all_toks hts).2
    simp only [he]
    clear he hwh hts
    have hLb : (L : Int) ≤ 300 := by omega
    go_wp2_with fail
    refine (HA.out _).mono ?_
    rintro e w3 ⟨⟨vt, rfl, hto, _⟩, g3⟩
    have G3 := hide g3
    have HTO := hide hto
    obtain ⟨ta, tc, rfl, htc, _⟩ := hto.form
    obtain ⟨M, hM⟩ : ∃ M, ts.length = M := ⟨_, rfl⟩
    have HM := hide hM
    simp only [hM]
    have hMb : (M : Int) ≤ 401 := by have := HTK.out.len; omega
    clear hto g3 hM htc
    go_wp2_with fail
    go_loopg [10, 11] M (fun g v10 v11 wr => ∃ i : Nat, v11 = .int .i64 i ∧ v10 = .int .i64 (cnt (ts.take i)) ∧ i ≤ M ∧ M - i ≤ g ∧ w3.grownBy wr none)
    case atStart => exact ⟨0, rfl, rfl, Nat.zero_le _, Nat.le_refl _, only_refl _ _⟩
    case round =>
      obtain ⟨i, rfl, rfl, hi, hgi, hgr⟩ := hrel
      have HGI := hide hgi
      clear hgi
      have hp1 := cnt_le (ts.take i)
      rw [List.length_take] at hp1
      by_cases hlt : i < M
      · have q0 : decide ((i : Int) < (M : Int)) = true := decide_eq_true (by omega)
        have hlt2 : i < ts.length := by have := HM.out; omega
        obtain ⟨g, off, cap', hv, _, _, hg, hcs⟩ := HTO.out.some_ (by omega)
        injection hv with hv1 hv2 hv3
        subst hv1
        subst hv3
        clear hv2
        have hst := cnt_step ts i hlt2
        obtain ⟨tk, htk⟩ : ∃ x, ts[i] = x := ⟨_, rfl⟩
        rw [htk] at hst
        have x0 : wr.cell? ⟨g, off + i * 3, none⟩ = some (.int .i64 tk.k) := old_cell hgr hg (by have := hcs (i * 3 + 0) (by omega); rw [tcs_get ts i 0 hlt2 (by omega), htk, Nat.add_zero] at this; exact this)
        have x1 : wr.cell? ⟨g, off + i * 3 + 1, none⟩ = some (.string ⟨tk.t.toArray⟩) := old_cell hgr hg (by have := hcs (i * 3 + 1) (by omega); rw [tcs_get ts i 1 hlt2 (by omega), htk, ← Nat.add_assoc] at this; exact this)
        obtain ⟨m, hmm⟩ : ∃ m, cnt (ts.take i) = m := ⟨_, rfl⟩
        rw [hmm] at hst hp1 ⊢
        have hib : (0 : Int) ≤ (i : Int) ∧ (i : Int) < (M : Int) := by omega
        have hmb : m ≤ i := by omega
        have hg2 := Nat.lt_of_lt_of_le hg hgr.size
        have HGR := hide hgr
        have HST := hide hst
        clear hst htk hmm hcs hlt2 hgr hp1
        go_wp2_with fail
        refine (HR.out tk.t _).mono ?_
        rintro e w4 ⟨rfl, g4⟩
        have G4 := hide (none_trans HGR.out g4)
        have y0 := old_cell g4 hg2 x0
        clear g4 x0 x1
        by_cases hk : tk.k = 1
        · have QK := hide (show (tk.k == 1) = true from beq_iff_eq.2 hk)
          cases hb : resB tk.t with
          | true =>
            go_wp2_with fail
            go_roundg (gk - 1)
            case rel => exact ⟨i + 1, by go_num, by rw [HST.out, hb, QK.out]; rfl, by omega, by have := HGI.out; omega, G4.out⟩
            case measure => have := HGI.out; omega
          | false =>
            go_wp2_with fail
            go_roundg (gk - 1)
            case rel => exact ⟨i + 1, by go_num, by rw [HST.out, hb, QK.out]; show Value.int .i64 ((m : Int) + 1) = Value.int .i64 ((m + 1 : Nat) : Int); go_num, by omega, by have := HGI.out; omega, G4.out⟩
            case measure => have := HGI.out; omega
        · have QK := hide (show (tk.k == 1) = false from beq_eq_false_iff_ne.2 hk)
          have qk : (((tk.k : Nat) : Int) == 1) = false := beq_eq_false_iff_ne.2 (by omega)
          clear hk
          go_wp2_with fail
          go_roundg (gk - 1)
          case rel => exact ⟨i + 1, by go_num, by rw [HST.out, QK.out]; rfl, by omega, by have := HGI.out; omega, G4.out⟩
          case measure => have := HGI.out; omega
      · obtain rfl : i = M := by omega
        have q0 : decide ((i : Int) < (i : Int)) = false := decide_eq_false (by omega)
        have HC := hide (show cnt (ts.take i) = cnt ts by rw [← HM.out, List.take_length])
        rw [HC.out]
        obtain ⟨C, hC⟩ : ∃ C, cnt ts = C := ⟨_, rfl⟩
        have HC2 := hide hC
        rw [hC]
        have hCb : C ≤ 401 := by have := cnt_le ts; have := HM.out; omega
        have hgrW := hgr
        obtain ⟨W0, rfl⟩ : ∃ W0, W0 = wr := ⟨_, rfl⟩
        clear hC hgr hp1 hlt hi
        have HGW := hide (none_trans G3.out hgrW)
        clear hgrW
        go_wp2_with fail
        go_loopg [13, 14] L (fun g v13 v14 wx => ∃ (i : Nat) (x : Int), v14 = .int .i64 i ∧ v13 = .int .i64 x ∧ i ≤ L ∧ L - i ≤ g ∧ DF (P.ns.take i) ∧ (DF P.ns → x = (wtN (P.ns.take i) : Int)) ∧ W0.grownBy wx none)
        case atStart => exact ⟨0, 0, rfl, rfl, Nat.zero_le _, Nat.le_refl _, (fun n hn => by cases hn), (fun _ => rfl), only_refl _ _⟩
        case round =>
          obtain ⟨i, x, rfl, rfl, hi, hgi, hdf, hx, hgr⟩ := hrel
          obtain ⟨G0, rfl⟩ : ∃ G0, G0 = gk := ⟨_, rfl⟩
          have HGI := hide hgi
          have HDF := hide hdf
          clear hgi hdf
          by_cases hlt : i < L
          · have q0 : decide ((i : Int) < (L : Int)) = true := decide_eq_true (by omega)
            have hnc := HND.out.cells (by have := HL.out; omega)
            obtain ⟨g, off, cap', hv, _, hg, hcs⟩ := hnc
            have hiL : i < P.ns.length := by have := HL.out; omega
            obtain ⟨n, hn⟩ : ∃ n, P.ns[i] = n := ⟨_, rfl⟩
            obtain ⟨a, b, r, p, k, hna, hce⟩ := hcs i hiL
            have hpart := wtN_part P.ns i hiL
            have hstep := wtN_step P.ns i hiL
            rw [hn] at hna hce hpart hstep
            have HMEM := hide (show n ∈ P.ns from hn ▸ List.getElem_mem hiL)
            have HTAKE := hide (show P.ns.take (i + 1) = P.ns.take i ++ [n] by rw [List.take_succ_eq_append_getElem hiL, hn])
            injection hv with hv1 hv2 hv3
            subst hv1
            subst hv3
            clear hv2
            obtain ⟨a1, a3, rfl, _, _⟩ := hna.sets.form
            have hwords := hna.words
            unfold StrS at hwords
            obtain ⟨b1, b3, rfl, _, _⟩ := hwords.form
            have hrds := hna.rds
            unfold RdS at hrds
            obtain ⟨r1, r3, rfl, hrn, hrm⟩ := hrds.form
            obtain ⟨ps, hpo, _, hpc⟩ := hna.pats
            obtain ⟨p1, p3, rfl, hpn, hpm⟩ := hpo.form
            obtain ⟨k1, k3, rfl, _, _⟩ := hna.kids.form
            have HWD := hide hwords
            have HRD := hide hrds
            have HPO := hide hpo
            have HPC := hide hpc
            obtain ⟨nS, hS⟩ : ∃ m, n.sets.length = m := ⟨_, rfl⟩
            obtain ⟨nW, hW⟩ : ∃ m, n.words.length = m := ⟨_, rfl⟩
            obtain ⟨nR, hR⟩ : ∃ m, n.redirs.length = m := ⟨_, rfl⟩
            obtain ⟨nP, hPl⟩ : ∃ m, n.pats.length = m := ⟨_, rfl⟩
            obtain ⟨K, hK⟩ : ∃ m, n.kids.length = m := ⟨_, rfl⟩
            rw [hS, hW, hR, hPl, hK] at hce
            have cell := fun (j : Nat) (u : Value) (hj : j < 8) (hu : (ndCells n (.slice a1 nS a3) (.slice b1 nW b3) (.slice r1 nR r3) (.slice p1 nP p3) (.slice k1 K k3))[j]? = some u) => (old_cell (none_trans HGW.out hgr) hg ((hce j hj).trans hu))
            have e0 : wr.cell? ⟨g, off + i * 8, none⟩ = some (.int .i64 n.kind) := cell 0 _ (by omega) rfl
            have e1 : wr.cell? ⟨g, off + i * 8 + 1, none⟩ = some (.string ⟨n.name.toArray⟩) := cell 1 _ (by omega) rfl
            have e2 : wr.cell? ⟨g, off + i * 8 + 2, none⟩ = some (.bool n.inn) := cell 2 _ (by omega) rfl
            have e3 : wr.cell? ⟨g, off + i * 8 + 3, none⟩ = some (.slice a1 nS a3) := cell 3 _ (by omega) rfl
            have e4 : wr.cell? ⟨g, off + i * 8 + 4, none⟩ = some (.slice b1 nW b3) := cell 4 _ (by omega) rfl
            have e5 : wr.cell? ⟨g, off + i * 8 + 5, none⟩ = some (.slice r1 nR r3) := cell 5 _ (by omega) rfl
            have e6 : wr.cell? ⟨g, off + i * 8 + 6, none⟩ = some (.slice p1 nP p3) := cell 6 _ (by omega) rfl
            have e7 : wr.cell? ⟨g, off + i * 8 + 7, none⟩ = some (.slice k1 K k3) := cell 7 _ (by omega) rfl
            have hg2 := Nat.lt_of_lt_of_le hg (none_trans HGW.out hgr).size
            have hib : (0 : Int) ≤ (i : Int) ∧ (i : Int) < (L : Int) := by omega
            obtain ⟨kd, hkd⟩ : ∃ m, n.kind = m := ⟨_, rfl⟩
            obtain ⟨nm, hnm⟩ : ∃ m, n.name = m := ⟨_, rfl⟩
            obtain ⟨nI, hnI⟩ : ∃ m, n.inn = m := ⟨_, rfl⟩
            rw [hkd] at e0
            rw [hnm] at e1
            rw [hnI] at e2
            have HN := hide (And.intro hS (And.intro hW (And.intro hR (And.intro hPl hnm))))
            obtain ⟨PN, hPN⟩ : ∃ m, plainN (if nm = [] then [] else [nm]) = m := ⟨_, rfl⟩
            obtain ⟨PW, hPW⟩ : ∃ m, plainN n.words = m := ⟨_, rfl⟩
            obtain ⟨PP, hPP⟩ : ∃ m, (n.pats.map plainN).sum = m := ⟨_, rfl⟩
            obtain ⟨PR, hPR⟩ : ∃ m, plainN (n.redirs.map Rd.wd) = m := ⟨_, rfl⟩
            have hwt : wt n = nS + PN + PW + PP + PR := by unfold wt; rw [hS, hnm, hPN, hPW, hPP, hPR]
            obtain ⟨T, hT⟩ : ∃ T, wtN (P.ns.take i) = T := ⟨_, rfl⟩
            rw [hT, hwt] at hstep hpart
            rw [hT] at hx
            have HX := hide (show DF P.ns → x = (T : Int) from hx)
            have HBD := hide (show DF P.ns → T + (nS + PN + PW + PP + PR) ≤ 401 from fun hd => by have := HWT.out hd; have := HC2.out; omega)
            have HSTEP := hide hstep
            have HPX := hide (And.intro hPN (And.intro hPW (And.intro hPP hPR)))
            have hLT := hide hlt
            have hnPm : (nP : Int) ≤ 9223372036854775807 := by have := hpm; unfold maxLen at this; have := HN.out.2.2.2.1; omega
            have hnRm : (nR : Int) ≤ 9223372036854775807 := by have := hrm; unfold maxLen at this; have := HN.out.2.2.1; omega
            clear hS hW hR hPl hK hkd hnm hnI hce cell hna hcs hn hlt hPN hPW hPP hPR hwt hT hx hpart hstep hwords hrds hpo hpc hrm hpm hrn hpn hiL
            go_upto_region 18 with (fail)
            have hB := Blk.new wr 33 #[.int .i64 kd, .string ⟨nm.toArray⟩, .bool nI, .slice a1 nS a3, .slice b1 nW b3, .slice r1 nR r3, .slice p1 nP p3, .slice k1 K k3]
            have hgw := only_alloc (only_refl wr none) (.cells #[.int .i64 kd, .string ⟨nm.toArray⟩, .bool nI, .slice a1 nS a3, .slice b1 nW b3, .slice r1 nR r3, .slice p1 nP p3, .slice k1 K k3] 33)
            obtain ⟨w4, hw4⟩ : ∃ w4, wr.alloc (.cells #[.int .i64 kd, .string ⟨nm.toArray⟩, .bool nI, .slice a1 nS a3, .slice b1 nW b3, .slice r1 nR r3, .slice p1 nP p3, .slice k1 K k3] 33) = w4 := ⟨_, rfl⟩
            obtain ⟨nb, hnb⟩ : ∃ nb, wr.heap.size = nb := ⟨_, rfl⟩
            rw [hw4, hnb] at hB
            rw [hw4] at hgw
            rw [hw4, hnb]
            have HGR := hide hgr
            have G4 := hide hgw
            have HBB := hide hB
            have y1 : w4.cell? ⟨nb, 1, none⟩ = some (.string ⟨nm.toArray⟩) := Blk.cell hB 1
            have y3 : w4.cell? ⟨nb, 3, none⟩ = some (.slice a1 nS a3) := Blk.cell hB 3
            clear hB hgw hw4 hnb e0 e1 e2 e3 e4 e5 e6 e7 hg2 hgr
            go_upto_if 78 with (fail)
            go_cut [13] (fun v13 wx => ∃ x2 : Int, v13 = .int .i64 x2 ∧ (DF P.ns → x2 = (T : Int) + nS + PN) ∧ w4.grownBy wx none)
            case first =>
              by_cases h0 : nm = []
              · have HP0 := hide (show PN = 0 by have := HPX.out.1; rw [if_pos h0] at this; rw [← this]; rfl)
                subst h0
                go_wp2_with fail
                go_meet
                exact ⟨_, rfl, (fun hd => by have h1 := HX.out hd; have h2 := HBD.out hd; have h3 := HP0.out; subst h1; unfold wrap64; omega), only_refl _ _⟩
              · have HP0 := hide (show PN = plainN [nm] by have := HPX.out.1; rw [if_neg h0] at this; exact this.symm)
                obtain ⟨c0, r0, rfl⟩ : ∃ c0 r0, nm = c0 :: r0 := List.exists_cons_of_ne_nil h0
                clear h0
                go_wp2_with fail
                refine (HR.out _ _).mono ?_
                rintro e w5 ⟨rfl, g5⟩
                have G5' := hide g5
                clear g5
                cases hb : resB (c0 :: r0) with
                | true =>
                  go_wp2_with fail
                  go_meet
                  exact ⟨_, rfl, (fun hd => ar0 (HX.out hd) (HBD.out hd) (HP0.out.trans (pn_res hb))), G5'.out⟩
                | false =>
                  go_wp2_with fail
                  go_meet
                  exact ⟨_, rfl, (fun hd => by first | exact ar1 (HX.out hd) (HBD.out hd) (HP0.out.trans (pn_plain hb)) | exact ar2 (HX.out hd) (HBD.out hd) (HP0.out.trans (pn_plain hb))), G5'.out⟩
            case rest =>
              obtain ⟨x2, rfl, hx2, hgc⟩ := hcut
              have HX2 := hide hx2
              have GC := hide (none_trans G4.out hgc)
              have HBC := hide (Blk.grown HBB.out hgc (by simp))
              have y4 : wc.cell? ⟨nb, 4, none⟩ = some (.slice b1 nW b3) := Blk.cell HBC.out 4
              have HSW := hide (show StrS wc (.slice b1 nW b3) n.words by have h := own_gr (none_trans HGW.out (none_trans HGR.out GC.out)) HWD.out; rw [HN.out.2.1] at h; unfold StrS; rw [HN.out.2.1]; exact h)
              clear hx2 hgc y1 y3
              go_wp2_with fail
              refine (HPL.out n.words _ _ HSW.out).mono ?_
              rintro e w6 ⟨rfl, g6⟩
              simp only [HPX.out.2.1]
              have HB6 := hide (Blk.grown HBC.out g6 (by simp))
              have G6 := hide (none_trans GC.out g6)
              clear g6 y4
              go_wp2_with fail
              have Y5 := hide (Blk.cell HB6.out 5)
              have Y6 := hide (Blk.cell HB6.out 6)
              have HX3 := hide (show DF P.ns → wrap64 (x2 + (PW : Int)) = (T : Int) + nS + PN + PW from fun hd => by have h1 := HX2.out hd; have h2 := HBD.out hd; subst h1; unfold wrap64; omega)
              obtain ⟨x3, hx3⟩ : ∃ x3, wrap64 (x2 + (PW : Int)) = x3 := ⟨_, rfl⟩
              rw [hx3] at HX3
              simp only [hx3]
              clear hx3
              go_loopg [13, 17] nP (fun g3 v13 v17 wx => ∃ (j : Nat) (z : Int), v17 = .int .i64 j ∧ v13 = .int .i64 z ∧ j ≤ nP ∧ nP - j ≤ g3 ∧ (DF P.ns → z = (T : Int) + nS + PN + PW + (((n.pats.take j).map plainN).sum : Nat)) ∧ w6.grownBy wx none)
              case atStart => exact ⟨0, x3, rfl, rfl, Nat.zero_le _, Nat.le_refl _, (fun hd => by rw [HX3.out hd]; simp), only_refl _ _⟩
              case round =>
                obtain ⟨j, z, rfl, rfl, hj, hgj, hz, hgx⟩ := hrel
                have HGJ := hide hgj
                have HZ := hide hz
                have HGX := hide (none_trans HGR.out (none_trans G6.out hgx))
                have HFX := hide (none_trans HGW.out HGX.out)
                have x6 := old_cell hgx (Blk.lt HB6.out) Y6.out
                have HG6 := hide hgx
                clear hgj hz hgx
                by_cases hjl : j < nP
                · have q1 : decide ((j : Int) < (nP : Int)) = true := decide_eq_true (by omega)
                  have hjl2 : j < n.pats.length := by have := HN.out.2.2.2.1; omega
                  obtain ⟨pg, po, pc, hv, _, _, hpg, hpcs⟩ := HPO.out.some_ (by omega)
                  injection hv with hv1 hv2 hv3
                  subst hv1
                  subst hv3
                  clear hv2
                  obtain ⟨u, hu, hsu, _⟩ := HPC.out j hjl2
                  have hst := pats_step n.pats j hjl2
                  have hle := pats_le n.pats (j + 1)
                  obtain ⟨pt, hpt⟩ : ∃ pt, n.pats[j] = pt := ⟨_, rfl⟩
                  rw [hpt] at hsu hst
                  unfold StrS at hsu
                  obtain ⟨ua, uc, rfl, _, _⟩ := hsu.form
                  have HSU := hide (own_gr HFX.out hsu)
                  have xp : wr.cell? ⟨pg, po + j, none⟩ = some (.slice ua pt.length uc) := old_cell HFX.out hpg (by have := hpcs j (by omega); exact this.trans hu)
                  obtain ⟨PL, hPL⟩ : ∃ m, plainN pt = m := ⟨_, rfl⟩
                  rw [hPL] at hst
                  have HST := hide (And.intro hst hle)
                  obtain ⟨pl, hpl⟩ : ∃ m, pt.length = m := ⟨_, rfl⟩
                  rw [hpl] at xp
                  have HSU2 := hide (show StrS wr (.slice ua pl uc) pt by rw [← hpl]; exact HSU.out)
                  have HPV := hide hPL
                  have hjb : (0 : Int) ≤ (j : Int) ∧ (j : Int) < (nP : Int) := by omega
                  clear hst hle hsu hpt hu hpcs hjl2 hPL hpl HSU
                  go_wp2_with fail
                  refine (HPL.out pt _ _ HSU2.out).mono ?_
                  rintro e w7 ⟨rfl, g7⟩
                  simp only [HPV.out]
                  have G7 := hide (none_trans HG6.out g7)
                  clear g7
                  go_wp2_with fail
                  go_roundg (gk - 1)
                  case rel => exact ⟨j + 1, _, by go_num, rfl, by omega, by have := HGJ.out; omega, (fun hd => by have h1 := HZ.out hd; have h2 := HBD.out hd; have h3 := HST.out; have h4 := HPX.out.2.2.1; rw [h3.1]; subst h1; unfold wrap64; omega), G7.out⟩
                  case measure => have := HGJ.out; omega
                · obtain rfl : j = nP := by omega
                  have q1 : decide ((j : Int) < (j : Int)) = false := decide_eq_false (by omega)
                  have HZ2 := hide (show DF P.ns → z = (T : Int) + nS + PN + PW + PP from fun hd => by have := HZ.out hd; rw [show n.pats.take j = n.pats by rw [← HN.out.2.2.2.1, List.take_length], HPX.out.2.2.1] at this; exact this)
                  obtain ⟨W8, rfl⟩ : ∃ W8, W8 = wr := ⟨_, rfl⟩
                  have HB8 := hide (Blk.grown HB6.out HG6.out (by simp))
                  have Y8 := hide (Blk.cell HB8.out 5)
                  go_wp2_with fail
                  go_loopg [13, 18] nR (fun g4 v13 v18 wx => ∃ (j : Nat) (z : Int), v18 = .int .i64 j ∧ v13 = .int .i64 z ∧ j ≤ nR ∧ nR - j ≤ g4 ∧ (∀ r ∈ n.redirs.take j, digW r.wd = false) ∧ (DF P.ns → z = (T : Int) + nS + PN + PW + PP + (plainN ((n.redirs.take j).map Rd.wd) : Nat)) ∧ W8.grownBy wx none)
                  case atStart => exact ⟨0, z, rfl, rfl, Nat.zero_le _, Nat.le_refl _, (fun r hr => by cases hr), (fun hd => by rw [HZ2.out hd]; simp [plainN]), only_refl _ _⟩
                  case round =>
                    obtain ⟨q, y, rfl, rfl, hq, hgq, hdg, hy, hgy⟩ := hrel
                    have HGQ := hide hgq
                    have HDG := hide hdg
                    have HYY := hide hy
                    have HGY := hide hgy
                    have x5 := old_cell hgy (Blk.lt HB8.out) Y8.out
                    clear hgq hdg hy hgy
                    by_cases hql : q < nR
                    · have q2 : decide ((q : Int) < (nR : Int)) = true := decide_eq_true (by omega)
                      have hql2 : q < n.redirs.length := by have := HN.out.2.2.1; omega
                      obtain ⟨rg, ro, rc, hv, _, _, hrg, hrcs⟩ := HRD.out.some_ (by omega)
                      injection hv with hv1 hv2 hv3
                      subst hv1
                      subst hv3
                      clear hv2
                      have hst := rds_step n.redirs q hql2
                      have hle := rds_le n.redirs (q + 1)
                      have htk : n.redirs.take (q + 1) = n.redirs.take q ++ [n.redirs[q]] := List.take_succ_eq_append_getElem hql2
                      obtain ⟨rd, hrd⟩ : ∃ x, n.redirs[q] = x := ⟨_, rfl⟩
                      rw [hrd] at hst htk
                      have xr : wr.cell? ⟨rg, ro + q * 3 + 2, none⟩ = some (.string ⟨rd.wd.toArray⟩) := old_cell (none_trans HFX.out HGY.out) hrg (by
                        have h := hrcs (q * 3 + 2) (by omega)
                        rw [rd_cells n.redirs q 2 hql2 (by omega), hrd, ← Nat.add_assoc] at h
                        exact h)
                      obtain ⟨wd, hwd⟩ : ∃ x, rd.wd = x := ⟨_, rfl⟩
                      rw [hwd] at hst xr
                      have HTK := hide htk
                      have HWDD := hide hwd
                      obtain ⟨QN, hQN⟩ : ∃ m, plainN [wd] = m := ⟨_, rfl⟩
                      rw [hQN] at hst
                      have HST := hide (And.intro hst hle)
                      have HQN := hide hQN
                      have hqb : (0 : Int) ≤ (q : Int) ∧ (q : Int) < (nR : Int) := by omega
                      have hwz := sz wd
                      clear hst hle htk hrd hwd hQN hrcs hql2
                      go_upto_region 32 with (fail)
                      go_cut [20] (fun v20 wx => v20 = .bool (digW wd) ∧ wx = wr)
                      case first =>
                        by_cases h1 : ∃ c, wd = [c]
                        · obtain ⟨c, rfl⟩ := h1
                          have hg : (ByteArray.mk #[c]).size = 1 := rfl
                          have hci : ∀ h : 0 < (ByteArray.mk #[c]).size, (ByteArray.mk #[c])[0]'h = c := fun _ => rfl
                          by_cases ha : 48 ≤ c.toNat
                          · have qa : decide ((48 : Int) ≤ (c.toNat : Int)) = true := decide_eq_true (by omega)
                            by_cases hb : c.toNat ≤ 57
                            · have qb : decide ((c.toNat : Int) ≤ 57) = true := decide_eq_true (by omega)
                              have HD := hide (show digW [c] = true from decide_eq_true ⟨ha, hb⟩)
                              clear ha hb
                              go_wp2_with fail
                              go_meet
                              exact ⟨by rw [HD.out], rfl⟩
                            · have qb : decide ((c.toNat : Int) ≤ 57) = false := decide_eq_false (by omega)
                              have HD := hide (show digW [c] = false from decide_eq_false (fun h => hb h.2))
                              clear ha hb
                              go_wp2_with fail
                              go_meet
                              exact ⟨by rw [HD.out], rfl⟩
                          · have qa : decide ((48 : Int) ≤ (c.toNat : Int)) = false := decide_eq_false (by omega)
                            have HD := hide (show digW [c] = false from decide_eq_false (fun h => ha h.1))
                            clear ha
                            go_wp2_with fail
                            go_meet
                            exact ⟨by rw [HD.out], rfl⟩
                        · have hl : wd.length ≠ 1 := fun h => h1 (List.length_eq_one_iff.1 h)
                          have ql : (((wd.length : Nat) : Int) == 1) = false := beq_eq_false_iff_ne.2 (by omega)
                          have HD := hide (show digW wd = false by unfold digW; split; exact absurd ⟨_, rfl⟩ h1; rfl)
                          clear h1 hl
                          go_wp2_with fail
                          go_meet
                          exact ⟨by rw [HD.out], rfl⟩
                      case rest =>
                        obtain ⟨rfl, hwc⟩ := hcut
                        subst hwc
                        cases hd : digW wd with
                        | true =>
                          have HE := hide (none_trans G2.out (none_trans HFX.out HGY.out))
                          go_wp2_with fail
                          go_ret
                          exact ⟨rfl, HE.out⟩
                        | false =>
                          go_wp2_with fail
                          refine (HPL.out [wd] _ _ (Own.made _ #[.string ⟨wd.toArray⟩] 9 1 1 0 rfl (by unfold maxLen; omega))).mono ?_
                          rintro e w9 ⟨rfl, g9⟩
                          simp only [HQN.out]
                          have G9 := hide (none_trans (only_alloc HGY.out _) g9)
                          have HDI := hide hd
                          clear g9 hd
                          go_wp2_with fail
                          go_roundg (gk - 1)
                          case rel =>
                            refine ⟨q + 1, _, by go_num, rfl, by omega, by have := HGQ.out; omega, ?_, (fun hd => ar3 (HYY.out hd) (HBD.out hd) HST.out.1 (by have := HST.out.2; rw [HPX.out.2.2.2] at this; exact this)), G9.out⟩
                            rw [HTK.out]
                            intro m hm
                            rw [List.mem_append, List.mem_singleton] at hm
                            rcases hm with hm | rfl
                            · exact HDG.out m hm
                            · rw [HWDD.out]; exact HDI.out
                          case measure => have := HGQ.out; omega
                    · obtain rfl : q = nR := by omega
                      have q2 : decide ((q : Int) < (q : Int)) = false := decide_eq_false (by omega)
                      go_wp2_with fail
                      go_roundg (G0 - 1)
                      case rel =>
                        refine ⟨i + 1, _, by go_num, rfl, by have := hLT.out; omega, by have := HGI.out; omega, ?_, fun hd => ?_, none_trans HGX.out HGY.out⟩
                        · rw [HTAKE.out]
                          intro m hm
                          rw [List.mem_append, List.mem_singleton] at hm
                          rcases hm with hm | rfl
                          · exact HDF.out m hm
                          · intro r hr
                            have h1 := HDG.out r
                            rw [← HN.out.2.2.1, List.take_length] at h1
                            exact h1 hr
                        · have h1 := HYY.out hd
                          rw [← HN.out.2.2.1, List.take_length, HPX.out.2.2.2] at h1
                          have h2 := HSTEP.out
                          rw [h2]
                          omega
                      case measure => have := HGI.out; have := hLT.out; omega
          · obtain rfl : i = L := by omega
            have q0 : decide ((i : Int) < (i : Int)) = false := decide_eq_false (by omega)
            have hall : P.ns.take i = P.ns := by rw [← HL.out, List.take_length]
            have hdf : DF P.ns := by have := HDF.out; rw [hall] at this; exact this
            have hxx := hx hdf
            rw [hall] at hxx
            have hxc : x = (C : Int) := by rw [hxx, HWT.out hdf, HC2.out]
            subst hxc
            have HE := hide (none_trans G2.out (none_trans HGW.out hgr))
            clear hall hdf hxx hx hgr
            go_wp2_with fail
            go_ret
            exact ⟨rfl, HE.out⟩
  · have qe : (P.e == 0) = false := beq_eq_false_iff_ne.2 he
    clear he
    go_wp2_with fail
    go_ret
    exact ⟨rfl, G2.out⟩

end Go.Proofs.Ytgpfjcogaheopaa
