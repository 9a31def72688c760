/- slices.EqualFunc of nodes; alike. -/
import Derived.Test.YtdhfhphbkfgamaaTM
namespace Go.Proofs.Ytdhfhphbkfgamaa
open Go.RowKit Lx
set_option maxRecDepth 100000

theorem NdsR.form {n0 : Nat} {w : World} {v : Value} {l : List Nd} (h : NdsR n0 w v l) : ∃ a cap, v = .slice a l.length cap ∧ l.length ≤ 9223372036854775807 := by
  obtain ⟨cs, h, _⟩ := h
  obtain ⟨a, cap, hv, _, h2, _⟩ := h.now
  exact ⟨a, cap, hv, h2⟩
set_option maxHeartbeats 8000000 in
theorem eqnds_any (n0 : Nat) (a b : List Nd) (v1 v2 : Value) (w : World) (h1 : NdsR n0 w v1 a) (h2 : NdsR n0 w v2 b) :
    Calls Try.prog 37 #[v1, v2, .func (.func 38) #[] #[]] w fun e w' => e = .returned (.bool (decide (a = b))) ∧ w.grownBy w' none := by
  obtain ⟨p1, cp1, rfl, m1⟩ := h1.form
  obtain ⟨p2, cp2, rfl, m2⟩ := h2.form
  have H1 := hide h1
  have H2 := hide h2
  have hm1 : (a.length : Int) ≤ 9223372036854775807 := by omega
  have hm2 : (b.length : Int) ≤ 9223372036854775807 := by omega
  clear h1 h2
  by_cases hl : a.length = b.length
  · have q0 : ((a.length : Int) != (b.length : Int)) = false := by rw [hl]; simp
    have HL := hide hl
    clear hl
    go_enter Try.func37, Try.ntmps37
    go_wp2_with fail
    go_loopw [17] (fun v wr => ∃ i : Nat, v = .int .i64 i ∧ i ≤ a.length ∧ a.take i = b.take i ∧ w.grownBy wr none) (fun v _ => a.length - (intOf v).toNat)
    case atStart => exact ⟨0, rfl, Nat.zero_le _, rfl, only_refl _ _⟩
    case round =>
      obtain ⟨i, rfl, hi, htk, hg⟩ := hrel
      have HTK := hide htk
      have HG := hide hg
      clear htk
      by_cases hlt : i < a.length
      · have q1 : decide ((i : Int) < (a.length : Int)) = true := decide_eq_true (by omega)
        have hlt2 : i < b.length := by rw [← HL.out]; exact hlt
        have i1 : (0 : Int) ≤ i ∧ (i : Int) < (a.length : Int) := by omega
        have i2 : (0 : Int) ≤ i ∧ (i : Int) < (b.length : Int) := by omega
        have hF := PF.of_grown (n0 := n0) hg
        obtain ⟨g1, o1, cc1, y1, y2, y3, y4, y5, hv1, _, _, l1, n1, e0, e1, e2, e3, e4, e5, e6, e7⟩ := (NdsR.pf H1.out hF).at_ i hlt
        injection hv1 with hv1 _ hc1
        subst hv1 hc1
        obtain ⟨g2, o2, cc2, z1, z2, z3, z4, z5, hv2, _, _, l2, n2, f0, f1, f2, f3, f4, f5, f6, f7⟩ := (NdsR.pf H2.out hF).at_ i hlt2
        injection hv2 with hv2 _ hc2
        subst hv2 hc2
        obtain ⟨a1, c1, a2, c2, a3, c3, a4, c4, a5, c5, rfl, rfl, rfl, rfl, rfl⟩ := n1.forms
        obtain ⟨b1, d1, b2, d2, b3, d3, b4, d4, b5, d5, rfl, rfl, rfl, rfl, rfl⟩ := n2.forms
        obtain ⟨x, hx⟩ : ∃ x, a[i] = x := ⟨_, rfl⟩
        obtain ⟨y, hy⟩ : ∃ y, b[i] = y := ⟨_, rfl⟩
        rw [hx] at n1 e0 e1 e2 e3 e4 e5 e6 e7
        rw [hy] at n2 f0 f1 f2 f3 f4 f5 f6 f7
        unfold sv at e1 f1
        have ga := World.grownBy_alloc wr (.cells #[.int .i64 x.kind, .string ⟨x.name.toArray⟩, .bool x.inn, .slice a1 x.sets.length c1, .slice a2 x.words.length c2, .slice a3 x.redirs.length c3, .slice a4 x.pats.length c4, .slice a5 x.kids.length c5] 35) none
        have hB1 := Blk.new wr 35 #[.int .i64 x.kind, .string ⟨x.name.toArray⟩, .bool x.inn, .slice a1 x.sets.length c1, .slice a2 x.words.length c2, .slice a3 x.redirs.length c3, .slice a4 x.pats.length c4, .slice a5 x.kids.length c5]
        obtain ⟨W1, hW1⟩ : ∃ W, wr.alloc (.cells #[.int .i64 x.kind, .string ⟨x.name.toArray⟩, .bool x.inn, .slice a1 x.sets.length c1, .slice a2 x.words.length c2, .slice a3 x.redirs.length c3, .slice a4 x.pats.length c4, .slice a5 x.kids.length c5] 35) = W := ⟨_, rfl⟩
        rw [hW1] at ga
        obtain ⟨X, hX⟩ : ∃ X, wr.heap.size = X := ⟨_, rfl⟩
        rw [hW1, hX] at hB1
        have f0' := old_cell ga l2 f0
        have f1' := old_cell ga l2 f1
        have f2' := old_cell ga l2 f2
        have f3' := old_cell ga l2 f3
        have f4' := old_cell ga l2 f4
        have f5' := old_cell ga l2 f5
        have f6' := old_cell ga l2 f6
        have f7' := old_cell ga l2 f7
        have l2' := Nat.lt_of_lt_of_le l2 ga.size
        have gb := World.grownBy_alloc W1 (.cells #[.int .i64 y.kind, .string ⟨y.name.toArray⟩, .bool y.inn, .slice b1 y.sets.length d1, .slice b2 y.words.length d2, .slice b3 y.redirs.length d3, .slice b4 y.pats.length d4, .slice b5 y.kids.length d5] 35) none
        have hB2 := Blk.new W1 35 #[.int .i64 y.kind, .string ⟨y.name.toArray⟩, .bool y.inn, .slice b1 y.sets.length d1, .slice b2 y.words.length d2, .slice b3 y.redirs.length d3, .slice b4 y.pats.length d4, .slice b5 y.kids.length d5]
        obtain ⟨W2, hW2⟩ : ∃ W, W1.alloc (.cells #[.int .i64 y.kind, .string ⟨y.name.toArray⟩, .bool y.inn, .slice b1 y.sets.length d1, .slice b2 y.words.length d2, .slice b3 y.redirs.length d3, .slice b4 y.pats.length d4, .slice b5 y.kids.length d5] 35) = W := ⟨_, rfl⟩
        rw [hW2] at gb
        obtain ⟨Y, hY⟩ : ∃ Y, W1.heap.size = Y := ⟨_, rfl⟩
        rw [hW2, hY] at hB2
        have HW1 := hide hW1
        have HW2 := hide hW2
        have HX := hide hX
        have HY := hide hY
        have HGW := hide (grown2 ga gb)
        have HBX := hide (Blk.grown hB1 gb (by simp))
        have HBY := hide hB2
        have hc := eqnode_any n0 x y _ _ _ _ _ _ _ _ _ _ W2 (NdR.pf n1 (PF.of_grown (n0 := n0) (grown2 ga gb))) (NdR.pf n2 (PF.of_grown (n0 := n0) (grown2 ga gb)))
        unfold ndCells sv at hc
        have HXY := hide (And.intro hx hy)
        clear ga gb hB1 hB2 hW1 hW2 hX hY hx hy hF hg n1 n2
        by_cases hxy : x = y
        · rw [decide_eq_true hxy] at hc
          have HC := hide hc
          have HN := hide (show a.take (i + 1) = b.take (i + 1) by rw [List.take_succ_eq_append_getElem hlt, List.take_succ_eq_append_getElem hlt2, HTK.out, HXY.out.1, HXY.out.2, hxy])
          clear hc hxy
          go_upto_region 6 with (fail)
          rw [HW1.out, HX.out]
          clear e0 e1 e2 e3 e4 e5 e6 e7 f0 f1 f2 f3 f4 f5 f6 f7 l1 l2
          go_upto_region 7 with (fail)
          rw [HW2.out, HY.out]
          clear f0' f1' f2' f3' f4' f5' f6' f7' l2'
          have k0 := Blk.cell HBX.out 0
          have j0 := Blk.cell HBY.out 0
          have k1 := Blk.cell HBX.out 1
          have j1 := Blk.cell HBY.out 1
          have k2 := Blk.cell HBX.out 2
          have j2 := Blk.cell HBY.out 2
          have k3 := Blk.cell HBX.out 3
          have j3 := Blk.cell HBY.out 3
          have k4 := Blk.cell HBX.out 4
          have j4 := Blk.cell HBY.out 4
          have k5 := Blk.cell HBX.out 5
          have j5 := Blk.cell HBY.out 5
          have k6 := Blk.cell HBX.out 6
          have j6 := Blk.cell HBY.out 6
          have k7 := Blk.cell HBX.out 7
          have j7 := Blk.cell HBY.out 7
          have lx := Blk.lt HBX.out
          have ly := Blk.lt HBY.out
          go_wp2_with fail
          refine HC.out.mono ?_
          rintro e w2 ⟨rfl, g2⟩
          have hgd := hide (grown2 (grown2 HG.out HGW.out) g2)
          clear k0 k1 k2 k3 k4 k5 k6 k7 j0 j1 j2 j3 j4 j5 j6 j7 lx ly
          go_wp2_with fail
          go_roundw
          case rel => exact ⟨i + 1, by go_num, by omega, HN.out, hgd.out⟩
          case measure => simp [intOf]; omega
        · rw [decide_eq_false hxy] at hc
          have HC := hide hc
          have hne : decide (a = b) = false := by
            rw [decide_eq_false_iff_not]
            intro e
            subst e
            exact hxy (HXY.out.1.symm.trans HXY.out.2)
          have HNE := hide hne
          clear hc hxy hne
          go_upto_region 6 with (fail)
          rw [HW1.out, HX.out]
          clear e0 e1 e2 e3 e4 e5 e6 e7 f0 f1 f2 f3 f4 f5 f6 f7 l1 l2
          go_upto_region 7 with (fail)
          rw [HW2.out, HY.out]
          clear f0' f1' f2' f3' f4' f5' f6' f7' l2'
          have k0 := Blk.cell HBX.out 0
          have j0 := Blk.cell HBY.out 0
          have k1 := Blk.cell HBX.out 1
          have j1 := Blk.cell HBY.out 1
          have k2 := Blk.cell HBX.out 2
          have j2 := Blk.cell HBY.out 2
          have k3 := Blk.cell HBX.out 3
          have j3 := Blk.cell HBY.out 3
          have k4 := Blk.cell HBX.out 4
          have j4 := Blk.cell HBY.out 4
          have k5 := Blk.cell HBX.out 5
          have j5 := Blk.cell HBY.out 5
          have k6 := Blk.cell HBX.out 6
          have j6 := Blk.cell HBY.out 6
          have k7 := Blk.cell HBX.out 7
          have j7 := Blk.cell HBY.out 7
          have lx := Blk.lt HBX.out
          have ly := Blk.lt HBY.out
          go_wp2_with fail
          refine HC.out.mono ?_
          rintro e w2 ⟨rfl, g2⟩
          have hgd := hide (grown2 (grown2 HG.out HGW.out) g2)
          clear k0 k1 k2 k3 k4 k5 k6 k7 j0 j1 j2 j3 j4 j5 j6 j7 lx ly
          go_wp2_with fail
          go_ret
          exact ⟨by rw [HNE.out]; rfl, hgd.out⟩
      · obtain rfl : i = a.length := by omega
        have q1 : decide ((a.length : Int) < (a.length : Int)) = false := decide_eq_false (by omega)
        have heq : decide (a = b) = true := by
          rw [decide_eq_true_eq]
          have := HTK.out
          rw [List.take_length, HL.out, List.take_length] at this
          exact this
        have HEQ := hide heq
        clear heq hg
        go_wp2_with fail
        go_ret
        exact ⟨by rw [HEQ.out]; rfl, HG.out⟩
  · have q0 : ((a.length : Int) != (b.length : Int)) = true := by simp; omega
    have hne : decide (a = b) = false := by
      rw [decide_eq_false_iff_not]
      intro e
      rw [e] at hl
      exact hl rfl
    rw [hne]
    clear hne
    go_enter Try.func37, Try.ntmps37
    go_wp2_with fail
    go_ret
    exact ⟨rfl, only_refl _ _⟩
theorem alike_any (n0 : Nat) (a b : List Nd) (v1 v2 : Value) (w : World) (h1 : NdsR n0 w v1 a) (h2 : NdsR n0 w v2 b) :
    Calls Try.prog 17 #[v1, v2] w fun e w' => e = .returned (.bool (decide (a = b))) ∧ w.grownBy w' none := by
  have HC := hide (eqnds_any n0 a b v1 v2 w h1 h2)
  clear h1 h2
  go_enter Try.func17, Try.ntmps17
  go_wp2_with fail
  refine HC.out.mono ?_
  rintro e w2 ⟨rfl, g2⟩
  go_wp2_with fail
  go_ret
  exact ⟨rfl, g2⟩

end Go.Proofs.Ytdhfhphbkfgamaa
