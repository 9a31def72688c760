/- slices.EqualFunc of patterns and of nodes; alike. -/
import Derived.Test.YtdhfhphbkfgamaaTL
namespace Go.Proofs.Ytdhfhphbkfgamaa
open Go.RowKit Lx
set_option maxRecDepth 100000

set_option maxHeartbeats 4000000 in
theorem eqpat_any (n0 : Nat) (a b : List (List (List UInt8))) (v1 v2 : Value) (w : World) (h1 : PatR n0 w v1 a) (h2 : PatR n0 w v2 b) :
    Calls Try.prog 42 #[v1, v2, .func (.func 39) #[] #[]] w fun e w' => e = .returned (.bool (decide (a = b))) ∧ w.grownBy w' none := by
  obtain ⟨p1, c1, rfl, m1⟩ := h1.form
  obtain ⟨p2, c2, rfl, m2⟩ := h2.form
  have H1 := hide h1
  have H2 := hide h2
  have hm1 : (a.length : Int) ≤ 9223372036854775807 := by omega
  have hm2 : (b.length : Int) ≤ 9223372036854775807 := by omega
  clear h1 h2
  by_cases hl : a.length = b.length
  · have q0 : ((a.length : Int) != (b.length : Int)) = false := by rw [hl]; simp
    have HL := hide hl
    clear hl
    go_enter Try.func42, Try.ntmps42
    go_wp2_with fail
    go_loopw [17] (fun v wr => ∃ i : Nat, v = .int .i64 i ∧ i ≤ a.length ∧ a.take i = b.take i ∧ w.grownBy wr none) (fun v _ => a.length - (intOf v).toNat)
    case atStart => exact ⟨0, rfl, Nat.zero_le _, rfl, only_refl _ _⟩
    case round =>
      obtain ⟨i, rfl, hi, htk, hg⟩ := hrel
      have HTK := hide htk
      have HG := hide hg
      clear htk
      by_cases hlt : i < a.length
      · have q1 : decide ((i : Int) < (a.length : Int)) = true := decide_eq_true (by omega)
        have hlt2 : i < b.length := by rw [← HL.out]; exact hlt
        have i1 : (0 : Int) ≤ i ∧ (i : Int) < (a.length : Int) := by omega
        have i2 : (0 : Int) ≤ i ∧ (i : Int) < (b.length : Int) := by omega
        have hF := PF.of_grown (n0 := n0) hg
        obtain ⟨g1, o1, u1, ha, l1, f0x, s1⟩ := (PatR.pf H1.out hF).get i hlt
        obtain ⟨g2, o2, u2, hb, l2, f0y, s2⟩ := (PatR.pf H2.out hF).get i hlt2
        obtain ⟨a1, d1, rfl, _, _⟩ := s1.at_
        obtain ⟨a2, d2, rfl, _, _⟩ := s2.at_
        have hc := eqstr_any n0 _ _ _ _ _ s1 s2
        obtain ⟨x, hx⟩ : ∃ x, a[i] = x := ⟨_, rfl⟩
        obtain ⟨y, hy⟩ : ∃ y, b[i] = y := ⟨_, rfl⟩
        rw [hx] at f0x hc
        rw [hy] at f0y hc
        subst ha hb
        by_cases hxy : x = y
        · rw [decide_eq_true hxy] at hc
          have HC := hide hc
          have HN := hide (show a.take (i + 1) = b.take (i + 1) by rw [List.take_succ_eq_append_getElem hlt, List.take_succ_eq_append_getElem hlt2, HTK.out, hx, hy, hxy])
          clear hc hx hy hF hg s1 s2 hxy
          go_wp2_with fail
          refine HC.out.mono ?_
          rintro e w2 ⟨rfl, g2⟩
          have hgd := hide (grown2 HG.out g2)
          go_wp2_with fail
          go_roundw
          case rel => exact ⟨i + 1, by go_num, by omega, HN.out, hgd.out⟩
          case measure => simp [intOf]; omega
        · rw [decide_eq_false hxy] at hc
          have HC := hide hc
          have hne : decide (a = b) = false := by
            rw [decide_eq_false_iff_not]
            intro e
            subst e
            exact hxy (hx.symm.trans hy)
          have HNE := hide hne
          clear hc hx hy hF hg s1 s2 hxy hne
          go_wp2_with fail
          refine HC.out.mono ?_
          rintro e w2 ⟨rfl, g2⟩
          have hgd := hide (grown2 HG.out g2)
          go_wp2_with fail
          go_ret
          exact ⟨by rw [HNE.out]; rfl, hgd.out⟩
      · obtain rfl : i = a.length := by omega
        have q1 : decide ((a.length : Int) < (a.length : Int)) = false := decide_eq_false (by omega)
        have heq : decide (a = b) = true := by
          rw [decide_eq_true_eq]
          have := HTK.out
          rw [List.take_length, HL.out, List.take_length] at this
          exact this
        have HEQ := hide heq
        clear heq hg
        go_wp2_with fail
        go_ret
        exact ⟨by rw [HEQ.out]; rfl, HG.out⟩
  · have q0 : ((a.length : Int) != (b.length : Int)) = true := by simp; omega
    have hne : decide (a = b) = false := by
      rw [decide_eq_false_iff_not]
      intro e
      rw [e] at hl
      exact hl rfl
    rw [hne]
    clear hne
    go_enter Try.func42, Try.ntmps42
    go_wp2_with fail
    go_ret
    exact ⟨rfl, only_refl _ _⟩
set_option maxHeartbeats 8000000 in
theorem eqnode_any (n0 : Nat) (x y : Nd) (v1 v2 v3 v4 v5 u1 u2 u3 u4 u5 : Value) (w : World) (h1 : NdR n0 w v1 v2 v3 v4 v5 x) (h2 : NdR n0 w u1 u2 u3 u4 u5 y) :
    Calls Try.prog 38 #[.agg (ndCells x v1 v2 v3 v4 v5).toArray, .agg (ndCells y u1 u2 u3 u4 u5).toArray] w fun e w' => e = .returned (.bool (decide (x = y))) ∧ w.grownBy w' none := by
  obtain ⟨a1, c1, a2, c2, a3, c3, a4, c4, a5, c5, rfl, rfl, rfl, rfl, rfl⟩ := h1.forms
  obtain ⟨b1, d1, b2, d2, b3, d3, b4, d4, b5, d5, rfl, rfl, rfl, rfl, rfl⟩ := h2.forms
  obtain ⟨kk, nm, inn, st, wd, rd, pt, kd⟩ := x
  obtain ⟨kk', nm', inn', st', wd', rd', pt', kd'⟩ := y
  have ga := World.grownBy_alloc w (.cells #[.int .i64 kk, .string ⟨nm.toArray⟩, .bool inn, .slice a1 st.length c1, .slice a2 wd.length c2, .slice a3 rd.length c3, .slice a4 pt.length c4, .slice a5 kd.length c5] 35) none
  have hB1 := Blk.new w 35 #[.int .i64 kk, .string ⟨nm.toArray⟩, .bool inn, .slice a1 st.length c1, .slice a2 wd.length c2, .slice a3 rd.length c3, .slice a4 pt.length c4, .slice a5 kd.length c5]
  obtain ⟨W1, hW1⟩ : ∃ W, w.alloc (.cells #[.int .i64 kk, .string ⟨nm.toArray⟩, .bool inn, .slice a1 st.length c1, .slice a2 wd.length c2, .slice a3 rd.length c3, .slice a4 pt.length c4, .slice a5 kd.length c5] 35) = W := ⟨_, rfl⟩
  rw [hW1] at ga
  obtain ⟨X, hX⟩ : ∃ X, w.heap.size = X := ⟨_, rfl⟩
  rw [hW1, hX] at hB1
  have gb := World.grownBy_alloc W1 (.cells #[.int .i64 kk', .string ⟨nm'.toArray⟩, .bool inn', .slice b1 st'.length d1, .slice b2 wd'.length d2, .slice b3 rd'.length d3, .slice b4 pt'.length d4, .slice b5 kd'.length d5] 35) none
  have hB2 := Blk.new W1 35 #[.int .i64 kk', .string ⟨nm'.toArray⟩, .bool inn', .slice b1 st'.length d1, .slice b2 wd'.length d2, .slice b3 rd'.length d3, .slice b4 pt'.length d4, .slice b5 kd'.length d5]
  obtain ⟨W2, hW2⟩ : ∃ W, W1.alloc (.cells #[.int .i64 kk', .string ⟨nm'.toArray⟩, .bool inn', .slice b1 st'.length d1, .slice b2 wd'.length d2, .slice b3 rd'.length d3, .slice b4 pt'.length d4, .slice b5 kd'.length d5] 35) = W := ⟨_, rfl⟩
  rw [hW2] at gb
  obtain ⟨Y, hY⟩ : ∃ Y, W1.heap.size = Y := ⟨_, rfl⟩
  rw [hW2, hY] at hB2
  have HW1 := hide hW1
  have HW2 := hide hW2
  have HX := hide hX
  have HY := hide hY
  have HGW := hide (grown2 ga gb)
  have HBX := hide (Blk.grown hB1 gb (by simp))
  have HBY := hide hB2
  have HNX := hide (NdR.pf h1 (PF.of_grown (n0 := n0) (grown2 ga gb)))
  have HNY := hide (NdR.pf h2 (PF.of_grown (n0 := n0) (grown2 ga gb)))
  have G0 := hide (only_refl W2 none)
  have x0 := Blk.cell HBX.out 0
  have y0 := Blk.cell HBY.out 0
  have x1 := Blk.cell HBX.out 1
  have y1 := Blk.cell HBY.out 1
  have x2 := Blk.cell HBX.out 2
  have y2 := Blk.cell HBY.out 2
  have x3 := Blk.cell HBX.out 3
  have y3 := Blk.cell HBY.out 3
  have x4 := Blk.cell HBX.out 4
  have y4 := Blk.cell HBY.out 4
  have x5 := Blk.cell HBX.out 5
  have y5 := Blk.cell HBY.out 5
  have x6 := Blk.cell HBX.out 6
  have y6 := Blk.cell HBY.out 6
  have x7 := Blk.cell HBX.out 7
  have y7 := Blk.cell HBY.out 7
  have lx := Blk.lt HBX.out
  have ly := Blk.lt HBY.out
  unfold ndCells sv
  clear ga gb hB1 hB2 hW1 hW2 hX hY h1 h2
  by_cases hkk : kk = kk'
  · subst hkk
    by_cases hnm : nm = nm'
    · subst hnm
      by_cases hin : inn = inn'
      · subst hin
        have s0 : (inn == inn) = true := by cases inn <;> rfl
        go_enter Try.func38, Try.ntmps38
        go_upto_region 1 with (first | (refine wpList_boxN _ W1 X (by exact rfl) HW1.out HX.out ?_) | (refine wpList_boxN _ W2 Y (by exact rfl) HW2.out HY.out ?_))
        have hc := eqstr_any n0 _ _ _ _ _ (StrR.pf HNX.out.sets (PF.of_grown (n0 := n0) G0.out)) (StrR.pf HNY.out.sets (PF.of_grown (n0 := n0) G0.out))
        by_cases hst : st = st'
        · rw [decide_eq_true hst] at hc
          have HC := hide hc
          have HQst := hide hst
          clear hc hst
          go_wp2_with fail
          refine HC.out.mono ?_
          rintro e w0 ⟨rfl, gk⟩
          have G1 := hide (grown2 G0.out gk)
          clear gk HC x3 x4 x5 x6 x7 y3 y4 y5 y6 y7 lx ly
          have hbx := Blk.grown HBX.out G1.out (by simp)
          have hby := Blk.grown HBY.out G1.out (by simp)
          have x3 := Blk.cell hbx 3
          have y3 := Blk.cell hby 3
          have x4 := Blk.cell hbx 4
          have y4 := Blk.cell hby 4
          have x5 := Blk.cell hbx 5
          have y5 := Blk.cell hby 5
          have x6 := Blk.cell hbx 6
          have y6 := Blk.cell hby 6
          have x7 := Blk.cell hbx 7
          have y7 := Blk.cell hby 7
          have lx := Blk.lt hbx
          have ly := Blk.lt hby
          clear hbx hby
          have hc := eqstr_any n0 _ _ _ _ _ (StrR.pf HNX.out.words (PF.of_grown (n0 := n0) G1.out)) (StrR.pf HNY.out.words (PF.of_grown (n0 := n0) G1.out))
          by_cases hwd : wd = wd'
          · rw [decide_eq_true hwd] at hc
            have HC := hide hc
            have HQwd := hide hwd
            clear hc hwd
            go_wp2_with fail
            refine HC.out.mono ?_
            rintro e w1 ⟨rfl, gk⟩
            have G2 := hide (grown2 G1.out gk)
            clear gk HC x3 x4 x5 x6 x7 y3 y4 y5 y6 y7 lx ly
            have hbx := Blk.grown HBX.out G2.out (by simp)
            have hby := Blk.grown HBY.out G2.out (by simp)
            have x3 := Blk.cell hbx 3
            have y3 := Blk.cell hby 3
            have x4 := Blk.cell hbx 4
            have y4 := Blk.cell hby 4
            have x5 := Blk.cell hbx 5
            have y5 := Blk.cell hby 5
            have x6 := Blk.cell hbx 6
            have y6 := Blk.cell hby 6
            have x7 := Blk.cell hbx 7
            have y7 := Blk.cell hby 7
            have lx := Blk.lt hbx
            have ly := Blk.lt hby
            clear hbx hby
            have hc := eqrd_any n0 _ _ _ _ _ (RdR.pf HNX.out.rds (PF.of_grown (n0 := n0) G2.out)) (RdR.pf HNY.out.rds (PF.of_grown (n0 := n0) G2.out))
            by_cases hrd : rd = rd'
            · rw [decide_eq_true hrd] at hc
              have HC := hide hc
              have HQrd := hide hrd
              clear hc hrd
              go_wp2_with fail
              refine HC.out.mono ?_
              rintro e w2 ⟨rfl, gk⟩
              have G3 := hide (grown2 G2.out gk)
              clear gk HC x3 x4 x5 x6 x7 y3 y4 y5 y6 y7 lx ly
              have hbx := Blk.grown HBX.out G3.out (by simp)
              have hby := Blk.grown HBY.out G3.out (by simp)
              have x3 := Blk.cell hbx 3
              have y3 := Blk.cell hby 3
              have x4 := Blk.cell hbx 4
              have y4 := Blk.cell hby 4
              have x5 := Blk.cell hbx 5
              have y5 := Blk.cell hby 5
              have x6 := Blk.cell hbx 6
              have y6 := Blk.cell hby 6
              have x7 := Blk.cell hbx 7
              have y7 := Blk.cell hby 7
              have lx := Blk.lt hbx
              have ly := Blk.lt hby
              clear hbx hby
              have hc := eqint_any n0 _ _ _ _ _ (IntR.pf HNX.out.kids (PF.of_grown (n0 := n0) G3.out)) (IntR.pf HNY.out.kids (PF.of_grown (n0 := n0) G3.out))
              by_cases hkd : kd = kd'
              · rw [decide_eq_true hkd] at hc
                have HC := hide hc
                have HQkd := hide hkd
                clear hc hkd
                go_wp2_with fail
                refine HC.out.mono ?_
                rintro e w3 ⟨rfl, gk⟩
                have G4 := hide (grown2 G3.out gk)
                clear gk HC x3 x4 x5 x6 x7 y3 y4 y5 y6 y7 lx ly
                have hbx := Blk.grown HBX.out G4.out (by simp)
                have hby := Blk.grown HBY.out G4.out (by simp)
                have x3 := Blk.cell hbx 3
                have y3 := Blk.cell hby 3
                have x4 := Blk.cell hbx 4
                have y4 := Blk.cell hby 4
                have x5 := Blk.cell hbx 5
                have y5 := Blk.cell hby 5
                have x6 := Blk.cell hbx 6
                have y6 := Blk.cell hby 6
                have x7 := Blk.cell hbx 7
                have y7 := Blk.cell hby 7
                have lx := Blk.lt hbx
                have ly := Blk.lt hby
                clear hbx hby
                have hc := eqpat_any n0 _ _ _ _ _ (PatR.pf HNX.out.pats (PF.of_grown (n0 := n0) G4.out)) (PatR.pf HNY.out.pats (PF.of_grown (n0 := n0) G4.out))
                by_cases hpt : pt = pt'
                · rw [decide_eq_true hpt] at hc
                  have HC := hide hc
                  have HQpt := hide hpt
                  clear hc hpt
                  go_wp2_with fail
                  refine HC.out.mono ?_
                  rintro e w4 ⟨rfl, gk⟩
                  have G5 := hide (grown2 G4.out gk)
                  clear gk HC x3 x4 x5 x6 x7 y3 y4 y5 y6 y7 lx ly
                  have hbx := Blk.grown HBX.out G5.out (by simp)
                  have hby := Blk.grown HBY.out G5.out (by simp)
                  have x3 := Blk.cell hbx 3
                  have y3 := Blk.cell hby 3
                  have x4 := Blk.cell hbx 4
                  have y4 := Blk.cell hby 4
                  have x5 := Blk.cell hbx 5
                  have y5 := Blk.cell hby 5
                  have x6 := Blk.cell hbx 6
                  have y6 := Blk.cell hby 6
                  have x7 := Blk.cell hbx 7
                  have y7 := Blk.cell hby 7
                  have lx := Blk.lt hbx
                  have ly := Blk.lt hby
                  clear hbx hby
                  have hend : decide ((⟨kk, nm, inn, st, wd, rd, pt, kd⟩ : Nd) = ⟨kk, nm, inn, st', wd', rd', pt', kd'⟩) = true := by rw [HQst.out, HQwd.out, HQrd.out, HQkd.out, HQpt.out]; exact decide_eq_true rfl
                  have HEND := hide hend
                  clear hend
                  go_wp2_with fail
                  go_ret
                  exact ⟨by rw [HEND.out]; rfl, grown2 HGW.out G5.out⟩
                · rw [decide_eq_false hpt] at hc
                  have HC := hide hc
                  have hfin : decide ((⟨kk, nm, inn, st, wd, rd, pt, kd⟩ : Nd) = ⟨kk, nm, inn, st', wd', rd', pt', kd'⟩) = false := decide_eq_false (fun e => hpt (congrArg Nd.pats e))
                  have HFIN := hide hfin
                  clear hc hfin hpt
                  go_wp2_with fail
                  refine HC.out.mono ?_
                  rintro e w4 ⟨rfl, gk⟩
                  have G5 := hide (grown2 G4.out gk)
                  clear gk HC x3 x4 x5 x6 x7 y3 y4 y5 y6 y7 lx ly
                  go_wp2_with fail
                  go_ret
                  exact ⟨by rw [HFIN.out]; rfl, grown2 HGW.out G5.out⟩
              · rw [decide_eq_false hkd] at hc
                have HC := hide hc
                have hfin : decide ((⟨kk, nm, inn, st, wd, rd, pt, kd⟩ : Nd) = ⟨kk, nm, inn, st', wd', rd', pt', kd'⟩) = false := decide_eq_false (fun e => hkd (congrArg Nd.kids e))
                have HFIN := hide hfin
                clear hc hfin hkd
                go_wp2_with fail
                refine HC.out.mono ?_
                rintro e w3 ⟨rfl, gk⟩
                have G4 := hide (grown2 G3.out gk)
                clear gk HC x3 x4 x5 x6 x7 y3 y4 y5 y6 y7 lx ly
                go_wp2_with fail
                go_ret
                exact ⟨by rw [HFIN.out]; rfl, grown2 HGW.out G4.out⟩
            · rw [decide_eq_false hrd] at hc
              have HC := hide hc
              have hfin : decide ((⟨kk, nm, inn, st, wd, rd, pt, kd⟩ : Nd) = ⟨kk, nm, inn, st', wd', rd', pt', kd'⟩) = false := decide_eq_false (fun e => hrd (congrArg Nd.redirs e))
              have HFIN := hide hfin
              clear hc hfin hrd
              go_wp2_with fail
              refine HC.out.mono ?_
              rintro e w2 ⟨rfl, gk⟩
              have G3 := hide (grown2 G2.out gk)
              clear gk HC x3 x4 x5 x6 x7 y3 y4 y5 y6 y7 lx ly
              go_wp2_with fail
              go_ret
              exact ⟨by rw [HFIN.out]; rfl, grown2 HGW.out G3.out⟩
          · rw [decide_eq_false hwd] at hc
            have HC := hide hc
            have hfin : decide ((⟨kk, nm, inn, st, wd, rd, pt, kd⟩ : Nd) = ⟨kk, nm, inn, st', wd', rd', pt', kd'⟩) = false := decide_eq_false (fun e => hwd (congrArg Nd.words e))
            have HFIN := hide hfin
            clear hc hfin hwd
            go_wp2_with fail
            refine HC.out.mono ?_
            rintro e w1 ⟨rfl, gk⟩
            have G2 := hide (grown2 G1.out gk)
            clear gk HC x3 x4 x5 x6 x7 y3 y4 y5 y6 y7 lx ly
            go_wp2_with fail
            go_ret
            exact ⟨by rw [HFIN.out]; rfl, grown2 HGW.out G2.out⟩
        · rw [decide_eq_false hst] at hc
          have HC := hide hc
          have hfin : decide ((⟨kk, nm, inn, st, wd, rd, pt, kd⟩ : Nd) = ⟨kk, nm, inn, st', wd', rd', pt', kd'⟩) = false := decide_eq_false (fun e => hst (congrArg Nd.sets e))
          have HFIN := hide hfin
          clear hc hfin hst
          go_wp2_with fail
          refine HC.out.mono ?_
          rintro e w0 ⟨rfl, gk⟩
          have G1 := hide (grown2 G0.out gk)
          clear gk HC x3 x4 x5 x6 x7 y3 y4 y5 y6 y7 lx ly
          go_wp2_with fail
          go_ret
          exact ⟨by rw [HFIN.out]; rfl, grown2 HGW.out G1.out⟩
      · have hf : decide ((⟨kk, nm, inn, st, wd, rd, pt, kd⟩ : Nd) = ⟨kk, nm, inn', st', wd', rd', pt', kd'⟩) = false := decide_eq_false (fun e => hin (congrArg Nd.inn e))
        rw [hf]
        have s0 : (inn == inn') = false := by cases inn <;> cases inn' <;> first | rfl | exact absurd rfl hin
        clear hf
        go_enter Try.func38, Try.ntmps38
        go_upto_region 1 with (first | (refine wpList_boxN _ W1 X (by exact rfl) HW1.out HX.out ?_) | (refine wpList_boxN _ W2 Y (by exact rfl) HW2.out HY.out ?_))
        go_wp2_with fail
        go_ret
        exact ⟨rfl, HGW.out⟩
    · have hf : decide ((⟨kk, nm, inn, st, wd, rd, pt, kd⟩ : Nd) = ⟨kk, nm', inn', st', wd', rd', pt', kd'⟩) = false := decide_eq_false (fun e => hnm (congrArg Nd.name e))
      rw [hf]
      have s0 : (nm == nm') = false := by rw [beq_eq_false_iff_ne]; exact hnm
      have s1 : ((ByteArray.mk nm.toArray) == ⟨nm'.toArray⟩) = false := by rw [sv_beq]; exact s0
      clear hf
      go_enter Try.func38, Try.ntmps38
      go_upto_region 1 with (first | (refine wpList_boxN _ W1 X (by exact rfl) HW1.out HX.out ?_) | (refine wpList_boxN _ W2 Y (by exact rfl) HW2.out HY.out ?_))
      go_wp2_with fail
      go_ret
      exact ⟨rfl, HGW.out⟩
  · have hf : decide ((⟨kk, nm, inn, st, wd, rd, pt, kd⟩ : Nd) = ⟨kk', nm', inn', st', wd', rd', pt', kd'⟩) = false := decide_eq_false (fun e => hkk (congrArg Nd.kind e))
    rw [hf]
    have s0 : (kk == kk') = false := by rw [beq_eq_false_iff_ne]; exact hkk
    clear hf
    go_enter Try.func38, Try.ntmps38
    go_upto_region 1 with (first | (refine wpList_boxN _ W1 X (by exact rfl) HW1.out HX.out ?_) | (refine wpList_boxN _ W2 Y (by exact rfl) HW2.out HY.out ?_))
    go_wp2_with fail
    go_ret
    exact ⟨rfl, HGW.out⟩


end Go.Proofs.Ytdhfhphbkfgamaa
