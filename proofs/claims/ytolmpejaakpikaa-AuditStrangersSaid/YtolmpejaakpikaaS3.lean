/- The walk of the third law. -/
import Derived.Test.YtolmpejaakpikaaS2
set_option linter.all false
namespace Go.Proofs.Ytolmpejaakpikaa
open Go.RowKit Go.Maps
set_option maxRecDepth 100000

set_option maxHeartbeats 4000000 in
theorem strangers_core (n0 n1 n2 : Int) (b1 : Nat) (u m o x : Int) (w : World) (eu : IntKind.i64.wrap (1 + bits .and .i64 n0 4095) = u) (em : bits .and .i64 n1 3071 = m) (eo : bits .and .i64 n2 4095 = o)
    (hu : 1 ≤ u ∧ u ≤ 4096) (ho : 0 ≤ o ∧ o ≤ 4095) (hx : (mb m != 0) = true ∧ x = o ∨ (mb m != 0) = false ∧ x = u) :
    Calls Try.prog 5 #[.int .i64 n0, .int .i64 n1, .int .i64 n2] w fun x w' => x = .returned (.bool true) ∧ w.grownBy w' none := by
  have Hs := hide (shown_any w)
  have Hu := hide hu
  have Ho := hide ho
  have Hx := hide hx
  clear hu ho hx
  go_enter Try.func5, Try.ntmps5
  go_wp2_with fail
  refine Hs.out.mono ?_
  rintro x0 w1 ⟨rfl, hg1⟩
  have Hg1 := hide hg1
  clear hg1 Hs
  go_upto_region 4 with (fail)
  have hcr : CrS w1.heap.size (us u) (w1.alloc (.cells #[.int .i64 u, .int .i64 u, .int .i64 u, .int .i64 3, .int .i64 3] 28)) := by
    have h := Blk.new w1 28 #[.int .i64 u, .int .i64 u, .int .i64 u, .int .i64 3, .int .i64 3]
    exact ⟨h.cell 0, h.cell 1, h.cell 2, h.cell 3, h.cell 4⟩
  have hg3 : w.grownBy (w1.alloc (.cells #[.int .i64 u, .int .i64 u, .int .i64 u, .int .i64 3, .int .i64 3] 28)) none := only_alloc Hg1.out _
  have hcb : w1.heap.size < (w1.alloc (.cells #[.int .i64 u, .int .i64 u, .int .i64 u, .int .i64 3, .int .i64 3] 28)).heap.size := by rw [World.size_alloc]; omega
  have HCR := hide hcr
  have Hg3 := hide hg3
  have Hcb := hide hcb
  clear hcr hg3 hcb Hg1
  generalize w1.alloc (.cells #[.int .i64 u, .int .i64 u, .int .i64 u, .int .i64 3, .int .i64 3] 28) = W3, w1.heap.size = cb at HCR Hg3 Hcb ⊢
  obtain ⟨k0, k1, k2, k3, k4⟩ := HCR.out
  simp only [us] at k0 k1 k2 k3 k4
  go_upto_region 5 with (first
    | (refine wpList_same (o := ⟨some 23, _, _, _, _, _⟩) (.agg (E1).cl.cells) rfl (by kernel_rfl) ?_)
    | (refine wpList_same (o := ⟨some 24, _, _, _, _, _⟩) (.agg ((E1).cells.toList.drop 26).toArray) rfl (by kernel_rfl) ?_)
    | (refine wpList_same (o := ⟨some 25, _, _, _, _, _⟩) (.agg E1.cells) rfl (by kernel_rfl) ?_)
    | (refine wpList_same (o := ⟨some 26, _, _, _, _, _⟩) (.agg (E2).cl.cells) rfl (by kernel_rfl) ?_)
    | (refine wpList_same (o := ⟨some 27, _, _, _, _, _⟩) (.agg E2.cells) rfl (by kernel_rfl) ?_)
    | (refine wpList_same (o := ⟨some 29, _, _, _, _, _⟩) (.agg (E3 u).cl.cells) rfl (by kernel_rfl) ?_)
    | (refine wpList_same (o := ⟨some 30, _, _, _, _, _⟩) (.agg (E3 u).cells) rfl (by kernel_rfl) ?_)
    | (refine wpList_same (o := ⟨some 32, _, _, _, _, _⟩) (.agg (E4 (us u)).cl.cells) rfl (by kernel_rfl) ?_)
    | (refine wpList_same (o := ⟨some 33, _, _, _, _, _⟩) (.agg (E4 (us u)).cells) rfl (by kernel_rfl) ?_)
    | (refine wpList_new4 (e0 := E1) (e1 := E2) (e2 := E3 u) (e3 := E4 (us u)) rfl rfl rfl rfl rfl rfl ?_))
  have hL : LAt (W3.alloc (.cells (flat (pl u)).toArray 40)) (.slice (some ⟨W3.heap.size, 0, none⟩) 4 4) (pl u) := lat_four
  have hcr4 : CrS cb (us u) (W3.alloc (.cells (flat (pl u)).toArray 40)) := HCR.out.chg ((Chg.refl nobody W3).alloc _) Hcb.out
  have hg4 : w.grownBy (W3.alloc (.cells (flat (pl u)).toArray 40)) none := only_alloc Hg3.out _
  have hcb4 : cb < (W3.alloc (.cells (flat (pl u)).toArray 40)).heap.size := by rw [World.size_alloc]; have := Hcb.out; omega
  have HL := hide hL
  have HCR4 := hide hcr4
  have Hg4 := hide hg4
  have Hcb4 := hide hcb4
  clear hL hcr4 hg4 hcb4 HCR Hg3 Hcb k0 k1 k2 k3 k4
  have hpl : flat [E1, E2, E3 u, E4 (us u)] = flat (pl u) := rfl
  rw [hpl]
  generalize W3.alloc (.cells (flat (pl u)).toArray 40) = W4 at HL HCR4 Hg4 Hcb4 ⊢
  generalize Value.slice (some ⟨W3.heap.size, 0, none⟩) 4 4 = vL at HL ⊢
  have Ha0 := hide (AppSt.start W4)
  clear hpl
  go_upto_region 6 with (first
    | (refine wpList_new0 rfl rfl ?_)
    | (refine wpList_same (o := ⟨some 38, _, _, _, _, _⟩) (.agg (E4 zero).cl.cells) rfl (by kernel_rfl) ?_)
    | (refine wpList_same (o := ⟨some 39, _, _, _, _, _⟩) (.agg (E4 zero).cells) rfl (by kernel_rfl) ?_)
    | (refine wpList_newE (e := E4 zero) rfl rfl rfl ?_)
    | (at_builtin; refine wpList_appS rfl Ha0.out rfl rfl ((HL.out.gr (Ha0.out.chg.grown (fun _ _ h => h))).src good_pl) (Nat.le_of_ble_eq_true rfl) ?_; intro v1 w5 ha1; have Ha1 := hide ha1; have Hab := hide (ha1.newE (E4 zero)); clear ha1)
    | (at_builtin; refine wpList_appS rfl Hab.out.a rfl rfl (blk_src Hab.out.blk (evZ_good (by omega) (by omega))) (Nat.le_of_ble_eq_true rfl) ?_; intro v10 w6 ha2; have Ha2 := hide (app_fin ha2); clear ha2))
  have HL6 := hide (HL.out.gr (Ha2.out.2))
  have HF6 := hide Ha2.out.1
  have HCR := hide (HCR4.out.chg (Chg.of_grown Ha2.out.2 (fun _ h => by cases h) : Chg nobody W4 w6) Hcb4.out)
  have Hg6 := hide (none_trans Hg4.out Ha2.out.2)
  have Hcb := hide (Nat.lt_of_lt_of_le Hcb4.out Ha2.out.2.size)
  clear HL HCR4 Hg4 Hcb4 Ha2 Hab Ha0
  go_upto_region 8 with (fail)
  go_cut [11] (fun v wc => LAt wc v (pl u ++ [EX (us u) m o]) ∧ w6.grownBy wc none)
  case first =>
    have hSK : ∀ w', Chg nobody w6.drew w' → CrS cb (us u) w' := fun w' hc => HCR.out.chg (((Chg.refl nobody w6).drew).trans hc (fun _ _ h => h)) Hcb.out
    have hlD := HL6.out.gr (only_drew (only_refl w6 none))
    have HlD := hide hlD
    have HSK := hide hSK
    clear hlD hSK
    refine wp_region_tree [1, 3, 4, 5, 6, 7, 8, 9] (.two 0 (.two 2 (.one 10 (.one 11 (.last 12))) 10 (.one 2 (.one 11 (.last 12)))) 10 (.one 0 (.one 2 (.one 11 (.last 12))))) (by kernel_rfl) (by kernel_rfl) (CrS cb (us u)) (HSK.out _ (Chg.refl nobody _)) ?_
    simp only [pick, List.getElem?_cons_zero, List.getElem?_cons_succ]
    refine wpTake_cons ?_ (by rfl) ?_ ?_
    rotate_left
    · (intro W9 hSW; obtain ⟨hS0, hS1, hS2, hS3, hS4⟩ := hSW; go_simp; try with_reducible rfl)
    simp only [Act.put, List.setIfInBounds_toArray, List.set_cons_zero, List.set_cons_succ]
    refine wpTake_cons ?_ (by rfl) ?_ ?_
    rotate_left
    · (intro W9 hSW; obtain ⟨hS0, hS1, hS2, hS3, hS4⟩ := hSW; go_simp; try with_reducible rfl)
    simp only [Act.put, List.setIfInBounds_toArray, List.set_cons_zero, List.set_cons_succ]
    refine wpTake_cons (.agg (EX (us u) m o).cl.cells) (by rfl) (fun W9 hSW => by obtain ⟨hS0, hS1, hS2, hS3, hS4⟩ := hSW; kernel_rfl) ?_
    simp only [Act.put, List.setIfInBounds_toArray, List.set_cons_zero, List.set_cons_succ]
    refine wpTake_cons ?_ (by rfl) ?_ ?_
    rotate_left
    · (intro W9 hSW; obtain ⟨hS0, hS1, hS2, hS3, hS4⟩ := hSW; go_simp; try with_reducible rfl)
    simp only [Act.put, List.setIfInBounds_toArray, List.set_cons_zero, List.set_cons_succ]
    refine wpTake_cons ?_ (by rfl) ?_ ?_
    rotate_left
    · (intro W9 hSW; obtain ⟨hS0, hS1, hS2, hS3, hS4⟩ := hSW; go_simp; try with_reducible rfl)
    simp only [Act.put, List.setIfInBounds_toArray, List.set_cons_zero, List.set_cons_succ]
    refine wpTake_cons (.agg ((((EX (us u) m o).cells.toList.drop 31).take 8).toArray)) (by rfl) (fun W9 hSW => by obtain ⟨hS0, hS1, hS2, hS3, hS4⟩ := hSW; kernel_rfl) ?_
    simp only [Act.put, List.setIfInBounds_toArray, List.set_cons_zero, List.set_cons_succ]
    refine wpTake_cons (.agg ((EX (us u) m o).cells.toList.drop 26).toArray) (by rfl) (fun W9 hSW => by obtain ⟨hS0, hS1, hS2, hS3, hS4⟩ := hSW; kernel_rfl) ?_
    simp only [Act.put, List.setIfInBounds_toArray, List.set_cons_zero, List.set_cons_succ]
    refine wpTake_cons (.agg (EX (us u) m o).cells) (by rfl) (fun W9 hSW => by obtain ⟨hS0, hS1, hS2, hS3, hS4⟩ := hSW; kernel_rfl) ?_
    simp only [Act.put, List.setIfInBounds_toArray, List.set_cons_zero, List.set_cons_succ]
    refine wpTake_nil ?_
    refine ⟨?_, ?_⟩
    · refine ft_new0 rfl rfl rfl (HSK.out _ ((Chg.refl nobody w6.drew).alloc _)) ?_
      simp only [Act.put, List.setIfInBounds_toArray, List.set_cons_zero, List.set_cons_succ]
      have hA0 := AppSt.start w6.drew
      refine ⟨?_, ?_⟩
      · refine ft_app rfl rfl rfl rfl hA0 rfl rfl ((HlD.out.gr (hA0.chg.grown (fun _ _ h => h))).src (good_pl)) (Nat.le_of_ble_eq_true rfl) HSK.out ?_
        intro v1 w1_ hA1 hc1 hn1
        simp only [Act.put, List.setIfInBounds_toArray, List.set_cons_zero, List.set_cons_succ]
        refine ft_newE (EX (us u) m o) rfl rfl rfl rfl (HSK.out _ (hA1.chg.alloc _)) ?_
        simp only [Act.put, List.setIfInBounds_toArray, List.set_cons_zero, List.set_cons_succ]
        have hAB := hA1.newE (EX (us u) m o)
        refine ft_app rfl rfl rfl rfl hAB.a rfl rfl (blk_src hAB.blk (evZ_good (by omega) (by omega))) (Nat.le_of_ble_eq_true rfl) HSK.out ?_
        intro v9 w9 h9 hc3 hn3
        simp only [Act.put, List.setIfInBounds_toArray, List.set_cons_zero, List.set_cons_succ]
        refine ft_last rfl ?_
        have hfin := app_fin h9
        have Hfin := hide hfin
        clear hfin h9 hc3 hn3
        go_wp2
        refine NoPanic.normal ?_
        go_wp2
        go_meet
        case rel => exact ⟨Hfin.out.1, none_trans (only_drew (only_refl w6 none)) Hfin.out.2⟩
      · refine ft_newE (EX (us u) m o) rfl rfl rfl rfl (HSK.out _ (hA0.chg.alloc _)) ?_
        simp only [Act.put, List.setIfInBounds_toArray, List.set_cons_zero, List.set_cons_succ]
        have hAB0 := hA0.newE (EX (us u) m o)
        refine ft_app rfl rfl rfl rfl hAB0.a rfl rfl ((HlD.out.gr (hAB0.a.chg.grown (fun _ _ h => h))).src (good_pl)) (Nat.le_of_ble_eq_true rfl) HSK.out ?_
        intro v1 w1_ hA1 hc1 hn1
        simp only [Act.put, List.setIfInBounds_toArray, List.set_cons_zero, List.set_cons_succ]
        have hAB := hAB0.app hA1 hc1 hn1
        refine ft_app rfl rfl rfl rfl hAB.a rfl rfl (blk_src hAB.blk (evZ_good (by omega) (by omega))) (Nat.le_of_ble_eq_true rfl) HSK.out ?_
        intro v9 w9 h9 hc3 hn3
        simp only [Act.put, List.setIfInBounds_toArray, List.set_cons_zero, List.set_cons_succ]
        refine ft_last rfl ?_
        have hfin := app_fin h9
        have Hfin := hide hfin
        clear hfin h9 hc3 hn3
        go_wp2
        refine NoPanic.normal ?_
        go_wp2
        go_meet
        case rel => exact ⟨Hfin.out.1, none_trans (only_drew (only_refl w6 none)) Hfin.out.2⟩
    · refine ft_newE (EX (us u) m o) rfl rfl rfl rfl (HSK.out _ ((Chg.refl nobody w6.drew).alloc _)) ?_
      simp only [Act.put, List.setIfInBounds_toArray, List.set_cons_zero, List.set_cons_succ]
      have hB0 := TB.start w6.drew (EX (us u) m o)
      refine ft_new0 rfl rfl rfl (HSK.out _ (hB0.chg.alloc _)) ?_
      simp only [Act.put, List.setIfInBounds_toArray, List.set_cons_zero, List.set_cons_succ]
      have hAB0 := hB0.new0
      refine ft_app rfl rfl rfl rfl hAB0.a rfl rfl ((HlD.out.gr (hAB0.a.chg.grown (fun _ _ h => h))).src (good_pl)) (Nat.le_of_ble_eq_true rfl) HSK.out ?_
      intro v1 w1_ hA1 hc1 hn1
      simp only [Act.put, List.setIfInBounds_toArray, List.set_cons_zero, List.set_cons_succ]
      have hAB := hAB0.app hA1 hc1 hn1
      refine ft_app rfl rfl rfl rfl hAB.a rfl rfl (blk_src hAB.blk (evZ_good (by omega) (by omega))) (Nat.le_of_ble_eq_true rfl) HSK.out ?_
      intro v9 w9 h9 hc3 hn3
      simp only [Act.put, List.setIfInBounds_toArray, List.set_cons_zero, List.set_cons_succ]
      refine ft_last rfl ?_
      have hfin := app_fin h9
      have Hfin := hide hfin
      clear hfin h9 hc3 hn3
      go_wp2
      refine NoPanic.normal ?_
      go_wp2
      go_meet
      case rel => exact ⟨Hfin.out.1, none_trans (only_drew (only_refl w6 none)) Hfin.out.2⟩
  case rest =>
    obtain ⟨hL8, hg8⟩ := hcut
    have HL8 := hide hL8
    have Hl8 := hide (HL6.out.gr hg8)
    have HF8 := hide (HF6.out.gr hg8)
    have HCR8 := hide (HCR.out.chg (Chg.of_grown hg8 (fun _ h => by cases h) : Chg nobody w6 wc) Hcb.out)
    have Hg8 := hide (none_trans Hg6.out hg8)
    have Hcb8 := hide (Nat.lt_of_lt_of_le Hcb.out hg8.size)
    clear hL8 hg8 HL6 HF6 HCR Hg6 Hcb
    obtain ⟨k0, k1, k2, k3, k4⟩ := HCR8.out
    simp only [us] at k0 k1 k2 k3 k4
    have hcbl := Hcb8.out
    generalize u11 = v8 at HL8 ⊢
    rcases Hx.out with ⟨hm, hxo⟩ | ⟨hm, hxo⟩
    all_goals
      have Hxo := hide hxo
      clear hxo
      unfold mb at hm
      go_upto_region 13 with (fail)
      first
        | rw [show wc.alloc (.cells #[.int .i64 u, .int .i64 o, .int .i64 o, .int .i64 3, .int .i64 3] 28) = wc.alloc (.cells #[.int .i64 u, .int .i64 x, .int .i64 x, .int .i64 3, .int .i64 3] 28) from by rw [Hxo.out]]
        | rw [show wc.alloc (.cells #[.int .i64 u, .int .i64 u, .int .i64 u, .int .i64 3, .int .i64 3] 28) = wc.alloc (.cells #[.int .i64 u, .int .i64 x, .int .i64 x, .int .i64 3, .int .i64 3] 28) from by rw [Hxo.out]]
      have hcrN : CrS wc.heap.size (nw u x) (wc.alloc (.cells #[.int .i64 u, .int .i64 x, .int .i64 x, .int .i64 3, .int .i64 3] 28)) := by
        have h := Blk.new wc 28 #[.int .i64 u, .int .i64 x, .int .i64 x, .int .i64 3, .int .i64 3]
        exact ⟨h.cell 0, h.cell 1, h.cell 2, h.cell 3, h.cell 4⟩
      have hgN : wc.grownBy (wc.alloc (.cells #[.int .i64 u, .int .i64 x, .int .i64 x, .int .i64 3, .int .i64 3] 28)) none := only_alloc (only_refl _ _) _
      have hcbN : wc.heap.size < (wc.alloc (.cells #[.int .i64 u, .int .i64 x, .int .i64 x, .int .i64 3, .int .i64 3] 28)).heap.size := by rw [World.size_alloc]; omega
      have HCR := hide hcrN
      have Hcb := hide hcbN
      have HL12 := hide (HL8.out.gr hgN)
      have Hl12 := hide (Hl8.out.gr hgN)
      have HF12 := hide (HF8.out.gr hgN)
      have Hg12 := hide (none_trans Hg8.out hgN)
      clear hcrN hgN hcbN HL8 Hl8 HF8 Hg8 HCR8 Hcb8 k0 k1 k2 k3 k4 hcbl hm
      generalize wc.alloc (.cells #[.int .i64 u, .int .i64 x, .int .i64 x, .int .i64 3, .int .i64 3] 28) = W12, wc.heap.size = kb at HCR Hcb HL12 Hl12 HF12 Hg12 ⊢
      go_upto_region 13 with (fail)
      go_cut [13] (fun v wc => LAt wc v (pl u ++ [EX (us u) m o] ++ [E4 (nw u x)]) ∧ W12.grownBy wc none)
      case first =>
        have hSK : ∀ w', Chg nobody W12.drew w' → CrS kb (nw u x) w' := fun w' hc => HCR.out.chg (((Chg.refl nobody W12).drew).trans hc (fun _ _ h => h)) Hcb.out
        have hlD := HL12.out.gr (only_drew (only_refl W12 none))
        have HlD := hide hlD
        have HSK := hide hSK
        clear hlD hSK
        refine wp_region_tree [1, 3, 4, 5] (.two 0 (.two 2 (.one 6 (.one 7 (.last 8))) 6 (.one 2 (.one 7 (.last 8)))) 6 (.one 0 (.one 2 (.one 7 (.last 8))))) (by kernel_rfl) (by kernel_rfl) (CrS kb (nw u x)) (HSK.out _ (Chg.refl nobody _)) ?_
        simp only [pick, List.getElem?_cons_zero, List.getElem?_cons_succ]
        refine wpTake_cons ?_ (by rfl) ?_ ?_
        rotate_left
        · (intro W9 hSW; obtain ⟨hS0, hS1, hS2, hS3, hS4⟩ := hSW; go_simp; try with_reducible rfl)
        simp only [Act.put, List.setIfInBounds_toArray, List.set_cons_zero, List.set_cons_succ]
        refine wpTake_cons ?_ (by rfl) ?_ ?_
        rotate_left
        · (intro W9 hSW; obtain ⟨hS0, hS1, hS2, hS3, hS4⟩ := hSW; go_simp; try with_reducible rfl)
        simp only [Act.put, List.setIfInBounds_toArray, List.set_cons_zero, List.set_cons_succ]
        refine wpTake_cons (.agg (E4 (nw u x)).cl.cells) (by rfl) (fun W9 hSW => by obtain ⟨hS0, hS1, hS2, hS3, hS4⟩ := hSW; kernel_rfl) ?_
        simp only [Act.put, List.setIfInBounds_toArray, List.set_cons_zero, List.set_cons_succ]
        refine wpTake_cons (.agg (E4 (nw u x)).cells) (by rfl) (fun W9 hSW => by obtain ⟨hS0, hS1, hS2, hS3, hS4⟩ := hSW; kernel_rfl) ?_
        simp only [Act.put, List.setIfInBounds_toArray, List.set_cons_zero, List.set_cons_succ]
        refine wpTake_nil ?_
        refine ⟨?_, ?_⟩
        · refine ft_new0 rfl rfl rfl (HSK.out _ ((Chg.refl nobody W12.drew).alloc _)) ?_
          simp only [Act.put, List.setIfInBounds_toArray, List.set_cons_zero, List.set_cons_succ]
          have hA0 := AppSt.start W12.drew
          refine ⟨?_, ?_⟩
          · refine ft_app rfl rfl rfl rfl hA0 rfl rfl ((HlD.out.gr (hA0.chg.grown (fun _ _ h => h))).src (good_app good_pl (evZ_good (by omega) (by omega)))) (Nat.le_of_ble_eq_true rfl) HSK.out ?_
            intro v1 w1_ hA1 hc1 hn1
            simp only [Act.put, List.setIfInBounds_toArray, List.set_cons_zero, List.set_cons_succ]
            refine ft_newE (E4 (nw u x)) rfl rfl rfl rfl (HSK.out _ (hA1.chg.alloc _)) ?_
            simp only [Act.put, List.setIfInBounds_toArray, List.set_cons_zero, List.set_cons_succ]
            have hAB := hA1.newE (E4 (nw u x))
            refine ft_app rfl rfl rfl rfl hAB.a rfl rfl (blk_src hAB.blk (evZ_good (by omega) (by omega))) (Nat.le_of_ble_eq_true rfl) HSK.out ?_
            intro v9 w9 h9 hc3 hn3
            simp only [Act.put, List.setIfInBounds_toArray, List.set_cons_zero, List.set_cons_succ]
            refine ft_last rfl ?_
            have hfin := app_fin h9
            have Hfin := hide hfin
            clear hfin h9 hc3 hn3
            go_wp2
            refine NoPanic.normal ?_
            go_wp2
            go_meet
            case rel => exact ⟨Hfin.out.1, none_trans (only_drew (only_refl W12 none)) Hfin.out.2⟩
          · refine ft_newE (E4 (nw u x)) rfl rfl rfl rfl (HSK.out _ (hA0.chg.alloc _)) ?_
            simp only [Act.put, List.setIfInBounds_toArray, List.set_cons_zero, List.set_cons_succ]
            have hAB0 := hA0.newE (E4 (nw u x))
            refine ft_app rfl rfl rfl rfl hAB0.a rfl rfl ((HlD.out.gr (hAB0.a.chg.grown (fun _ _ h => h))).src (good_app good_pl (evZ_good (by omega) (by omega)))) (Nat.le_of_ble_eq_true rfl) HSK.out ?_
            intro v1 w1_ hA1 hc1 hn1
            simp only [Act.put, List.setIfInBounds_toArray, List.set_cons_zero, List.set_cons_succ]
            have hAB := hAB0.app hA1 hc1 hn1
            refine ft_app rfl rfl rfl rfl hAB.a rfl rfl (blk_src hAB.blk (evZ_good (by omega) (by omega))) (Nat.le_of_ble_eq_true rfl) HSK.out ?_
            intro v9 w9 h9 hc3 hn3
            simp only [Act.put, List.setIfInBounds_toArray, List.set_cons_zero, List.set_cons_succ]
            refine ft_last rfl ?_
            have hfin := app_fin h9
            have Hfin := hide hfin
            clear hfin h9 hc3 hn3
            go_wp2
            refine NoPanic.normal ?_
            go_wp2
            go_meet
            case rel => exact ⟨Hfin.out.1, none_trans (only_drew (only_refl W12 none)) Hfin.out.2⟩
        · refine ft_newE (E4 (nw u x)) rfl rfl rfl rfl (HSK.out _ ((Chg.refl nobody W12.drew).alloc _)) ?_
          simp only [Act.put, List.setIfInBounds_toArray, List.set_cons_zero, List.set_cons_succ]
          have hB0 := TB.start W12.drew (E4 (nw u x))
          refine ft_new0 rfl rfl rfl (HSK.out _ (hB0.chg.alloc _)) ?_
          simp only [Act.put, List.setIfInBounds_toArray, List.set_cons_zero, List.set_cons_succ]
          have hAB0 := hB0.new0
          refine ft_app rfl rfl rfl rfl hAB0.a rfl rfl ((HlD.out.gr (hAB0.a.chg.grown (fun _ _ h => h))).src (good_app good_pl (evZ_good (by omega) (by omega)))) (Nat.le_of_ble_eq_true rfl) HSK.out ?_
          intro v1 w1_ hA1 hc1 hn1
          simp only [Act.put, List.setIfInBounds_toArray, List.set_cons_zero, List.set_cons_succ]
          have hAB := hAB0.app hA1 hc1 hn1
          refine ft_app rfl rfl rfl rfl hAB.a rfl rfl (blk_src hAB.blk (evZ_good (by omega) (by omega))) (Nat.le_of_ble_eq_true rfl) HSK.out ?_
          intro v9 w9 h9 hc3 hn3
          simp only [Act.put, List.setIfInBounds_toArray, List.set_cons_zero, List.set_cons_succ]
          refine ft_last rfl ?_
          have hfin := app_fin h9
          have Hfin := hide hfin
          clear hfin h9 hc3 hn3
          go_wp2
          refine NoPanic.normal ?_
          go_wp2
          go_meet
          case rel => exact ⟨Hfin.out.1, none_trans (only_drew (only_refl W12 none)) Hfin.out.2⟩
      case rest =>
        obtain ⟨hL, hg⟩ := hcut
        have HL13 := hide hL
        have HX13 := hide (HL12.out.gr hg)
        have Hl13 := hide (Hl12.out.gr hg)
        have HF13 := hide (HF12.out.gr hg)
        have HCR3 := hide (HCR.out.chg (Chg.of_grown hg (fun _ h => by cases h) : Chg nobody W12 wc) Hcb.out)
        have Hg13 := hide (none_trans Hg12.out hg)
        have Hcb3 := hide (Nat.lt_of_lt_of_le Hcb.out hg.size)
        clear hL hg HL12 Hl12 HF12 HCR Hg12 Hcb
        have HCR := HCR3
        have Hcb := Hcb3
        clear HCR3 Hcb3
        generalize u13 = v13 at HL13 ⊢
        generalize wc = W13 at HL13 HX13 Hl13 HF13 HCR Hg13 Hcb ⊢
        go_upto_region 14 with (fail)
        go_cut [14] (fun v wc => LAt wc v (pl u ++ [EX (us u) m o] ++ [E4 (nw u x)] ++ [EB (nw u x)]) ∧ W13.grownBy wc none)
        case first =>
          have hSK : ∀ w', Chg nobody W13.drew w' → CrS kb (nw u x) w' := fun w' hc => HCR.out.chg (((Chg.refl nobody W13).drew).trans hc (fun _ _ h => h)) Hcb.out
          have hlD := HL13.out.gr (only_drew (only_refl W13 none))
          have HlD := hide hlD
          have HSK := hide hSK
          clear hlD hSK
          refine wp_region_tree [1, 3, 4, 5] (.two 0 (.two 2 (.one 6 (.one 7 (.last 8))) 6 (.one 2 (.one 7 (.last 8)))) 6 (.one 0 (.one 2 (.one 7 (.last 8))))) (by kernel_rfl) (by kernel_rfl) (CrS kb (nw u x)) (HSK.out _ (Chg.refl nobody _)) ?_
          simp only [pick, List.getElem?_cons_zero, List.getElem?_cons_succ]
          refine wpTake_cons ?_ (by rfl) ?_ ?_
          rotate_left
          · (intro W9 hSW; obtain ⟨hS0, hS1, hS2, hS3, hS4⟩ := hSW; go_simp; try with_reducible rfl)
          simp only [Act.put, List.setIfInBounds_toArray, List.set_cons_zero, List.set_cons_succ]
          refine wpTake_cons ?_ (by rfl) ?_ ?_
          rotate_left
          · (intro W9 hSW; obtain ⟨hS0, hS1, hS2, hS3, hS4⟩ := hSW; go_simp; try with_reducible rfl)
          simp only [Act.put, List.setIfInBounds_toArray, List.set_cons_zero, List.set_cons_succ]
          refine wpTake_cons (.agg (EB (nw u x)).cl.cells) (by rfl) (fun W9 hSW => by obtain ⟨hS0, hS1, hS2, hS3, hS4⟩ := hSW; kernel_rfl) ?_
          simp only [Act.put, List.setIfInBounds_toArray, List.set_cons_zero, List.set_cons_succ]
          refine wpTake_cons (.agg (EB (nw u x)).cells) (by rfl) (fun W9 hSW => by obtain ⟨hS0, hS1, hS2, hS3, hS4⟩ := hSW; kernel_rfl) ?_
          simp only [Act.put, List.setIfInBounds_toArray, List.set_cons_zero, List.set_cons_succ]
          refine wpTake_nil ?_
          refine ⟨?_, ?_⟩
          · refine ft_new0 rfl rfl rfl (HSK.out _ ((Chg.refl nobody W13.drew).alloc _)) ?_
            simp only [Act.put, List.setIfInBounds_toArray, List.set_cons_zero, List.set_cons_succ]
            have hA0 := AppSt.start W13.drew
            refine ⟨?_, ?_⟩
            · refine ft_app rfl rfl rfl rfl hA0 rfl rfl ((HlD.out.gr (hA0.chg.grown (fun _ _ h => h))).src (good_app (good_app good_pl (evZ_good (by omega) (by omega))) (evZ_good (by omega) (by omega)))) (Nat.le_of_ble_eq_true rfl) HSK.out ?_
              intro v1 w1_ hA1 hc1 hn1
              simp only [Act.put, List.setIfInBounds_toArray, List.set_cons_zero, List.set_cons_succ]
              refine ft_newE (EB (nw u x)) rfl rfl rfl rfl (HSK.out _ (hA1.chg.alloc _)) ?_
              simp only [Act.put, List.setIfInBounds_toArray, List.set_cons_zero, List.set_cons_succ]
              have hAB := hA1.newE (EB (nw u x))
              refine ft_app rfl rfl rfl rfl hAB.a rfl rfl (blk_src hAB.blk (evZ_good (by omega) (by omega))) (Nat.le_of_ble_eq_true rfl) HSK.out ?_
              intro v9 w9 h9 hc3 hn3
              simp only [Act.put, List.setIfInBounds_toArray, List.set_cons_zero, List.set_cons_succ]
              refine ft_last rfl ?_
              have hfin := app_fin h9
              have Hfin := hide hfin
              clear hfin h9 hc3 hn3
              go_wp2
              refine NoPanic.normal ?_
              go_wp2
              go_meet
              case rel => exact ⟨Hfin.out.1, none_trans (only_drew (only_refl W13 none)) Hfin.out.2⟩
            · refine ft_newE (EB (nw u x)) rfl rfl rfl rfl (HSK.out _ (hA0.chg.alloc _)) ?_
              simp only [Act.put, List.setIfInBounds_toArray, List.set_cons_zero, List.set_cons_succ]
              have hAB0 := hA0.newE (EB (nw u x))
              refine ft_app rfl rfl rfl rfl hAB0.a rfl rfl ((HlD.out.gr (hAB0.a.chg.grown (fun _ _ h => h))).src (good_app (good_app good_pl (evZ_good (by omega) (by omega))) (evZ_good (by omega) (by omega)))) (Nat.le_of_ble_eq_true rfl) HSK.out ?_
              intro v1 w1_ hA1 hc1 hn1
              simp only [Act.put, List.setIfInBounds_toArray, List.set_cons_zero, List.set_cons_succ]
              have hAB := hAB0.app hA1 hc1 hn1
              refine ft_app rfl rfl rfl rfl hAB.a rfl rfl (blk_src hAB.blk (evZ_good (by omega) (by omega))) (Nat.le_of_ble_eq_true rfl) HSK.out ?_
              intro v9 w9 h9 hc3 hn3
              simp only [Act.put, List.setIfInBounds_toArray, List.set_cons_zero, List.set_cons_succ]
              refine ft_last rfl ?_
              have hfin := app_fin h9
              have Hfin := hide hfin
              clear hfin h9 hc3 hn3
              go_wp2
              refine NoPanic.normal ?_
              go_wp2
              go_meet
              case rel => exact ⟨Hfin.out.1, none_trans (only_drew (only_refl W13 none)) Hfin.out.2⟩
          · refine ft_newE (EB (nw u x)) rfl rfl rfl rfl (HSK.out _ ((Chg.refl nobody W13.drew).alloc _)) ?_
            simp only [Act.put, List.setIfInBounds_toArray, List.set_cons_zero, List.set_cons_succ]
            have hB0 := TB.start W13.drew (EB (nw u x))
            refine ft_new0 rfl rfl rfl (HSK.out _ (hB0.chg.alloc _)) ?_
            simp only [Act.put, List.setIfInBounds_toArray, List.set_cons_zero, List.set_cons_succ]
            have hAB0 := hB0.new0
            refine ft_app rfl rfl rfl rfl hAB0.a rfl rfl ((HlD.out.gr (hAB0.a.chg.grown (fun _ _ h => h))).src (good_app (good_app good_pl (evZ_good (by omega) (by omega))) (evZ_good (by omega) (by omega)))) (Nat.le_of_ble_eq_true rfl) HSK.out ?_
            intro v1 w1_ hA1 hc1 hn1
            simp only [Act.put, List.setIfInBounds_toArray, List.set_cons_zero, List.set_cons_succ]
            have hAB := hAB0.app hA1 hc1 hn1
            refine ft_app rfl rfl rfl rfl hAB.a rfl rfl (blk_src hAB.blk (evZ_good (by omega) (by omega))) (Nat.le_of_ble_eq_true rfl) HSK.out ?_
            intro v9 w9 h9 hc3 hn3
            simp only [Act.put, List.setIfInBounds_toArray, List.set_cons_zero, List.set_cons_succ]
            refine ft_last rfl ?_
            have hfin := app_fin h9
            have Hfin := hide hfin
            clear hfin h9 hc3 hn3
            go_wp2
            refine NoPanic.normal ?_
            go_wp2
            go_meet
            case rel => exact ⟨Hfin.out.1, none_trans (only_drew (only_refl W13 none)) Hfin.out.2⟩
        case rest =>
            obtain ⟨hL, hg⟩ := hcut
            have HL14 := hide hL
            have HG14 := hide (HL13.out.gr hg)
            have Hl14 := hide (Hl13.out.gr hg)
            have HF14 := hide (HF13.out.gr hg)
            have Hg14 := hide (none_trans Hg13.out hg)
            clear hL hg HL13 HX13 Hl13 HF13 HCR Hg13 Hcb
            generalize u14 = v14 at HL14 ⊢
            generalize wc = W14 at HL14 HG14 Hl14 HF14 Hg14 ⊢
            have hgood2 : ∀ e ∈ pl u ++ [EX (us u) m o] ++ [E4 (nw u x)], GoodE e := good_app (good_app good_pl (evZ_good (by omega) (by omega))) (evZ_good (by omega) (by omega))
            have Hgood2 := hide hgood2
            clear hgood2
            go_wp2_with fail
            have hc := lat_check Hl14.out good_pl (Nat.le_of_ble_eq_true rfl)
            rw [res_l Hu.out] at hc
            refine hc.mono ?_
            rintro e1 wa ⟨rfl, ga⟩
            have Ga := hide ga
            clear hc ga
            go_wp2_with fail
            have hc := lat_check (HF14.out.gr Ga.out) (good_app good_pl (evZ_good (by omega) (by omega))) (Nat.le_of_ble_eq_true rfl)
            rw [res_fake Hu.out] at hc
            refine hc.mono ?_
            rintro e2 wb ⟨rfl, gb⟩
            have Gb := hide (none_trans Ga.out gb)
            clear hc gb
            go_wp2_with fail
            have hc := lat_check (HG14.out.gr Gb.out) Hgood2.out (Nat.le_of_ble_eq_true rfl)
            rw [res_good Hu.out Ho.out Hx.out] at hc
            refine hc.mono ?_
            rintro e3 wd ⟨rfl, gd⟩
            have Gd := hide (none_trans Gb.out gd)
            clear hc gd
            go_wp2_with fail
            have hc := lat_check (HL14.out.gr Gd.out) (good_app Hgood2.out (evZ_good (by omega) (by omega))) (Nat.le_of_ble_eq_true rfl)
            rw [res_become Hu.out Ho.out Hx.out] at hc
            refine hc.mono ?_
            rintro e4 we ⟨rfl, ge⟩
            have Ge := hide (none_trans Gd.out ge)
            clear hc ge
            go_wp2
            go_ret
            exact ⟨rfl, none_trans Hg14.out Ge.out⟩

theorem strangers_any (n0 n1 n2 : Int) (w : World) : Calls Try.prog 5 #[.int .i64 n0, .int .i64 n1, .int .i64 n2] w fun x w' => x = .returned (.bool true) ∧ w.grownBy w' none := by
  obtain ⟨a, ha, ea⟩ := and_bound n0 4095 (by omega)
  obtain ⟨b, hb, eb⟩ := and_bound n1 3071 (by omega)
  obtain ⟨c, hc, ec⟩ := and_bound n2 4095 (by omega)
  have ea' : bits .and .i64 n0 4095 = (a : Int) := ea
  have eb' : bits .and .i64 n1 3071 = (b : Int) := eb
  have ec' : bits .and .i64 n2 4095 = (c : Int) := ec
  have eu : IntKind.i64.wrap (1 + bits .and .i64 n0 4095) = 1 + (a : Int) := by rw [ea', IntKind.wrap_i64]; omega
  cases hm : (mb (b : Int) != 0) with
  | true => exact strangers_core n0 n1 n2 b (1 + a) b c c w eu eb' ec' (by omega) (by omega) (.inl ⟨hm, rfl⟩)
  | false => exact strangers_core n0 n1 n2 b (1 + a) b c (1 + a) w eu eb' ec' (by omega) (by omega) (.inr ⟨hm, rfl⟩)

end Go.Proofs.Ytolmpejaakpikaa
