/- Out and Quote of the document. -/
import Derived.Test.YtdcfpklohleoiaaDoorAB
import Derived.BigQuiet
namespace Go.Proofs.YtdcfpklohleoiaaDoor
open Go.RowKit
set_option maxRecDepth 100000

set_option maxHeartbeats 4000000 in
theorem rout_any (vs : List V) (v : Value) (w : World) (hw : WF vs) (hnm : NM vs) (ho : Own w 35 4 v vs.length (vcs vs) 0) :
    Calls Tryd.prog 19 #[envV v] w (LsPost w (outF vs)) := by
  have hl := hw.len
  have HW := hide hw
  have HNM := hide hnm
  have HI0 := hide (OutAt.start ho)
  obtain ⟨a, cap, rfl, _, _⟩ := ho.form
  clear hw hnm ho
  unfold envV
  go_enter Tryd.func19, Tryd.ntmps19
  obtain ⟨d0, d1, d2⟩ := res27 HI0.out.env.blk
  have lb := Blk.lt HI0.out.env.blk
  go_wp2_with fail
  go_loopw [3, 4] (fun v3 v9 wr => ∃ k : Nat, v9 = .int .i64 k ∧ k ≤ vs.length ∧ OutAt w wr w.heap.size (.slice a vs.length cap) vs v3 (outF (vs.take k))) (fun _ v9 _ => vs.length - (intOf v9).toNat)
  case atStart => exact ⟨0, rfl, Nat.zero_le _, HI0.out⟩
  case round =>
    obtain ⟨k, rfl, hk, hI⟩ := hrel
    have hol := out_len (vs.take k)
    rw [List.length_take] at hol
    obtain ⟨O, hO⟩ : ∃ O, outF (vs.take k) = O := ⟨_, rfl⟩
    rw [hO] at hI hol
    have HOO := hide hO
    clear hO
    have HI := hide hI
    obtain ⟨av, cv, rfl, _, _⟩ := hI.own.form
    clear hI d0 d1 d2 lb
    obtain ⟨d0, d1, d2⟩ := res27 HI.out.env.blk
    have lb := Blk.lt HI.out.env.blk
    by_cases hlt : k < vs.length
    · have q0 : decide ((k : Int) < (vs.length : Int)) = true := decide_eq_true (by omega)
      have hib : (0 : Int) ≤ k ∧ (k : Int) < (vs.length : Int) := by omega
      obtain ⟨g, og, kg, hv1, _, hg1, hcs⟩ := v_cells HI.out.env.own (by omega)
      injection hv1 with hv1 _ hv1'
      subst hv1
      clear hv1'
      obtain ⟨c0, c1, c2, c3⟩ := hcs k hlt
      have HVL := hide (HW.out.vl _ (List.getElem_mem hlt))
      have HNN := hide (HNM.out _ (List.getElem_mem hlt))
      have HTK := hide (show outF (vs.take (k + 1)) = if (vs[k]).x = true then outF (vs.take k) ++ [eqT vs[k]] else outF (vs.take k) by rw [List.take_succ_eq_append_getElem hlt, out_snoc])
      obtain ⟨x, hx⟩ : ∃ x, vs[k] = x := ⟨_, rfl⟩
      rw [hx] at c0 c1 c2 c3 HVL HNN HTK
      have HX := hide hx
      clear hcs hx
      obtain ⟨xn, xv, xx, xr⟩ := x
      unfold eqT at HTK
      simp only [] at c0 c1 c2 c3 HVL HNN HTK
      have hn1 := sz xn
      have hv1 := sz xv
      have hb1 : xn.length ≤ 140737488355328 := HNN.out
      have hb2 : xv.length ≤ 1024 := HVL.out
      have HCT := hide (eq_cat xn xv)
      rw [HOO.out] at HTK
      obtain ⟨E, hE⟩ : ∃ E, xn ++ [61] ++ xv = E := ⟨_, rfl⟩
      rw [hE] at HCT HTK
      clear hE
      cases xx with
      | true =>
        have HTK := hide (HTK.out.trans (if_pos rfl))
        have hsz1 : (ByteArray.mk xn.toArray ++ ByteArray.mk #[61]).size = xn.length + 1 := by simp [ByteArray.size]
        have HD := hide (HI.out.drewN 0)
        go_upto_region 6 with (fail)
        refine wp_region_perm [0, 1, 2, 3, 4, 5, 6, 7, 8, 9, 10, 11, 12, 13, 14] [15, 16, 17] (by kernel_rfl) (by kernel_rfl) (fun w' => w'.cell? ⟨w.heap.size, 0, none⟩ = some (.slice (some ⟨g, og, none⟩) vs.length cap) ∧ w'.cell? ⟨g, og + k * 4, none⟩ = some (.string ⟨xn.toArray⟩) ∧ w'.cell? ⟨g, og + k * 4 + 1, none⟩ = some (.string ⟨xv.toArray⟩)) ⟨d0, c0, c1⟩ ?_
        simp only [pick, List.getElem?_cons_zero, List.getElem?_cons_succ]
        refine wpTake_cons ?_ (by rfl) ?_ ?_
        rotate_left
        · (intro W9 hSW; obtain ⟨j0, j1, j2⟩ := hSW; go_simp; try with_reducible rfl)
        simp only [Act.put, List.setIfInBounds_toArray, List.set_cons_zero, List.set_cons_succ]
        refine wpTake_cons ?_ (by rfl) ?_ ?_
        rotate_left
        · (intro W9 hSW; obtain ⟨j0, j1, j2⟩ := hSW; go_simp; try with_reducible rfl)
        simp only [Act.put, List.setIfInBounds_toArray, List.set_cons_zero, List.set_cons_succ]
        refine wpTake_cons ?_ (by rfl) ?_ ?_
        rotate_left
        · (intro W9 hSW; obtain ⟨j0, j1, j2⟩ := hSW; go_simp; try with_reducible rfl)
        simp only [Act.put, List.setIfInBounds_toArray, List.set_cons_zero, List.set_cons_succ]
        refine wpTake_cons ?_ (by rfl) ?_ ?_
        rotate_left
        · (intro W9 hSW; obtain ⟨j0, j1, j2⟩ := hSW; go_simp; try with_reducible rfl)
        simp only [Act.put, List.setIfInBounds_toArray, List.set_cons_zero, List.set_cons_succ]
        refine wpTake_cons ?_ (by rfl) ?_ ?_
        rotate_left
        · (intro W9 hSW; obtain ⟨j0, j1, j2⟩ := hSW; go_simp; try with_reducible rfl)
        simp only [Act.put, List.setIfInBounds_toArray, List.set_cons_zero, List.set_cons_succ]
        refine wpTake_cons ?_ (by rfl) ?_ ?_
        rotate_left
        · (intro W9 hSW; obtain ⟨j0, j1, j2⟩ := hSW; go_simp; try with_reducible rfl)
        simp only [Act.put, List.setIfInBounds_toArray, List.set_cons_zero, List.set_cons_succ]
        refine wpTake_cons ?_ (by rfl) ?_ ?_
        rotate_left
        · (intro W9 hSW; obtain ⟨j0, j1, j2⟩ := hSW; go_simp; try with_reducible rfl)
        simp only [Act.put, List.setIfInBounds_toArray, List.set_cons_zero, List.set_cons_succ]
        refine wpTake_concat ⟨xn.toArray⟩ ⟨#[61]⟩ (by rfl) (by rfl) (by rw [hn1]; show _ + 1 ≤ _; omega) ?_
        simp only [Act.put, List.setIfInBounds_toArray, List.set_cons_zero, List.set_cons_succ]
        refine wpTake_cons ?_ (by rfl) ?_ ?_
        rotate_left
        · (intro W9 hSW; obtain ⟨j0, j1, j2⟩ := hSW; go_simp; try with_reducible rfl)
        simp only [Act.put, List.setIfInBounds_toArray, List.set_cons_zero, List.set_cons_succ]
        refine wpTake_cons ?_ (by rfl) ?_ ?_
        rotate_left
        · (intro W9 hSW; obtain ⟨j0, j1, j2⟩ := hSW; go_simp; try with_reducible rfl)
        simp only [Act.put, List.setIfInBounds_toArray, List.set_cons_zero, List.set_cons_succ]
        refine wpTake_cons ?_ (by rfl) ?_ ?_
        rotate_left
        · (intro W9 hSW; obtain ⟨j0, j1, j2⟩ := hSW; go_simp; try with_reducible rfl)
        simp only [Act.put, List.setIfInBounds_toArray, List.set_cons_zero, List.set_cons_succ]
        refine wpTake_cons ?_ (by rfl) ?_ ?_
        rotate_left
        · (intro W9 hSW; obtain ⟨j0, j1, j2⟩ := hSW; go_simp; try with_reducible rfl)
        simp only [Act.put, List.setIfInBounds_toArray, List.set_cons_zero, List.set_cons_succ]
        refine wpTake_cons ?_ (by rfl) ?_ ?_
        rotate_left
        · (intro W9 hSW; obtain ⟨j0, j1, j2⟩ := hSW; go_simp; try with_reducible rfl)
        simp only [Act.put, List.setIfInBounds_toArray, List.set_cons_zero, List.set_cons_succ]
        refine wpTake_cons ?_ (by rfl) ?_ ?_
        rotate_left
        · (intro W9 hSW; obtain ⟨j0, j1, j2⟩ := hSW; go_simp; try with_reducible rfl)
        simp only [Act.put, List.setIfInBounds_toArray, List.set_cons_zero, List.set_cons_succ]
        refine wpTake_concat (⟨xn.toArray⟩ ++ ⟨#[61]⟩) ⟨xv.toArray⟩ (by rfl) (by rfl) (by rw [hsz1, hv1]; omega) ?_
        rw [HCT.out]
        simp only [Act.put, List.setIfInBounds_toArray, List.set_cons_zero, List.set_cons_succ]
        refine wpTake_nil ?_
        refine wpForce_cons fun K1 hK1 => ?_
        refine step_val (.slice (some ⟨wr.heap.size, 0, none⟩) 1 1) (wr.drew.alloc (.cells #[.string ⟨E.toArray⟩] 9)) (by rfl) (by go_simp) ?_
        have hgA := only_alloc (only_drew (only_refl wr none)) (.cells #[.string ⟨E.toArray⟩] 9)
        refine hK1.out _ _ ⟨old_cell hgA lb d0, old_cell hgA hg1 c0, old_cell hgA hg1 c1⟩ ?_
        simp only [Act.put, List.setIfInBounds_toArray, List.set_cons_zero, List.set_cons_succ]
        refine wpForce_cons fun K2 hK2 => ?_
        refine step_appAt (by rfl) (.tmp 18) (.tmp 33) 22 22 (by rfl) 9 (.string ⟨#[]⟩) 1 16 Tryd.underlying22 info9 rfl (.slice av O.length cv) O.length (O.map sv) 0 _ 1 [sv E] (by rfl) (by rfl) (Own.alloc HI.out.own.drew _) (by omega) (srcS wr.drew _ E rfl) (by unfold maxLen; omega) (by omega) ?_
        intro vA wA ho hc hn _
        have hIA := (HI.out.grown hgA).app ho hc hn
        obtain ⟨fa, ca, rfl, _, _⟩ := ho.form
        have hS2 : wA.cell? ⟨w.heap.size, 0, none⟩ = some (.slice (some ⟨g, og, none⟩) vs.length cap) := (res27 hIA.env.blk).1
        have hS3 : wA.cell? ⟨g, og + k * 4, none⟩ = some (.string ⟨xn.toArray⟩) ∧ wA.cell? ⟨g, og + k * 4 + 1, none⟩ = some (.string ⟨xv.toArray⟩) := by
          obtain ⟨g2, o2, k2, hv2, _, _, hcs2⟩ := v_cells hIA.env.own (by omega)
          injection hv2 with hv2 _ _
          injection hv2 with hv2
          injection hv2 with e1 e2
          subst e1 e2
          have h0 := hcs2 k hlt
          rw [HX.out] at h0
          exact ⟨h0.1, h0.2.1⟩
        refine hK2.out _ _ ⟨hS2, hS3.1, hS3.2⟩ ?_
        simp only [Act.put, List.setIfInBounds_toArray, List.set_cons_zero, List.set_cons_succ]
        refine wpForce_one ?_
        have HIA := hide hIA
        clear ho hc hn hIA hS2 hS3 hgA hK1 hK2 K1 K2
        go_wp2
        refine NoPanic.normal ?_
        go_wp2_with fail
        go_roundw
        case rel => exact ⟨k + 1, by go_num, by omega, by rw [HTK.out]; exact HIA.out⟩
        case measure => simp [intOf]; omega
      | false =>
        have HTK := hide (HTK.out.trans (if_neg (by decide)))
        go_wp2_with fail
        go_roundw
        case rel => exact ⟨k + 1, by go_num, by omega, by rw [HTK.out]; exact HI.out⟩
        case measure => simp [intOf]; omega
    · obtain rfl : k = vs.length := by omega
      have q0 : decide ((vs.length : Int) < (vs.length : Int)) = false := decide_eq_false (by omega)
      rw [List.take_length] at HOO
      go_wp2_with fail
      go_ret
      exact ⟨.slice av O.length cv, rfl, by rw [HOO.out]; exact HI.out.own, HI.out.gr⟩

theorem ext_at (p : List UInt8) (i : Nat) (h : i < p.length) : (ByteArray.mk p.toArray).extract i (i + 1) = ⟨#[p[i]]⟩ := by
  apply ByteArray.ext
  rw [ByteArray.data_extract]
  apply Array.ext'
  rw [Array.toList_extract, List.extract_eq_take_drop]
  simp only [List.toList_toArray]
  rw [List.drop_eq_getElem_cons h, show i + 1 - i = 1 by omega]
  rfl
theorem qR_snoc (l : List UInt8) (c : UInt8) : qR (l ++ [c]) = qR l ++ qc c := by rw [qR_app]; simp [qR]
theorem cat1 (a b : List UInt8) : ByteArray.mk a.toArray ++ ByteArray.mk b.toArray = ⟨(a ++ b).toArray⟩ := by
  apply ByteArray.ext
  simp
set_option maxHeartbeats 4000000 in
theorem rquote_any (s : List UInt8) (w : World) (hs : s.length ≤ 100000) : Calls Tryd.prog 37 #[sv s] w fun e w' => e = .returned (sv (quoteF s)) ∧ w.grownBy w' none := by
  have h1 := sz s
  have HQ := hide (fun k (hk : k < s.length) => (show 39 :: qR (s.take (k + 1)) = (39 :: qR (s.take k)) ++ qc s[k] by rw [List.take_succ_eq_append_getElem hk, qR_snoc]; rfl))
  have HL := hide (fun k => (show (39 :: qR (s.take k)).length ≤ 4 * k + 1 by have := qR_len (s.take k); have := List.length_take_le k s; simp only [List.length_cons]; omega))
  unfold sv
  go_enter Tryd.func37, Tryd.ntmps37
  go_wp2_with fail
  go_loopw [3, 4] (fun v3 v4 wr => ∃ (k : Nat) (R : List UInt8), v4 = .int .i64 k ∧ k ≤ s.length ∧ v3 = .string ⟨R.toArray⟩ ∧ R = 39 :: qR (s.take k) ∧ w.grownBy wr none) (fun _ v4 _ => s.length - (intOf v4).toNat)
  case atStart => exact ⟨0, _, rfl, Nat.zero_le _, rfl, by simp [qR], only_refl w none⟩
  case round =>
    obtain ⟨k, R, rfl, hk, rfl, hR, hG⟩ := hrel
    have HG := hide hG
    have hRl : R.length ≤ 4 * k + 1 := by rw [hR]; exact HL.out k
    have hRs := sz R
    have HR := hide hR
    clear hG hR
    by_cases hlt : k < s.length
    · have q0 : decide ((k : Int) < (s.length : Int)) = true := decide_eq_true (by omega)
      have hib : (0 : Int) ≤ k ∧ (k : Int) < (s.length : Int) := by omega
      have HQk := hide ((HQ.out k hlt).trans (by rw [← HR.out]))
      have HAT := hide (str_at' s k hlt)
      have hat := ext_at s k hlt
      have HEX := hide hat
      obtain ⟨c, hc⟩ : ∃ c, s[k] = c := ⟨_, rfl⟩
      rw [hc] at HQk HAT HEX
      clear hc hat
      by_cases h39 : c = 39
      · have q1 : ((c.toNat : Int) == 39) = true := by rw [h39]; rfl
        have HQk2 := hide (HQk.out.trans (by rw [h39]; rfl : R ++ qc c = R ++ [39, 92, 39, 39]))
        have HC := hide (cat1 R [39, 92, 39, 39])
        obtain ⟨R2, hR2⟩ : ∃ R2, R ++ [39, 92, 39, 39] = R2 := ⟨_, rfl⟩
        rw [hR2] at HC HQk2
        clear hR2
        have hidx := HAT.out
        go_wp2_with (refine wpList_concat ⟨R.toArray⟩ ⟨#[39, 92, 39, 39]⟩ rfl rfl (by rw [hRs]; show _ + 4 ≤ _; omega) ?_; rw [HC.out])
        go_roundw
        case rel => exact ⟨k + 1, _, by go_num, by omega, rfl, HQk2.out.symm, HG.out⟩
        case measure => simp [intOf]; omega
      · have q1 : ((c.toNat : Int) == 39) = false := byte_ne (d := 39) h39
        have HQk2 := hide (HQk.out.trans (by unfold qc; rw [if_neg h39] : R ++ qc c = R ++ [c]))
        have HC := hide (cat1 R [c])
        obtain ⟨R2, hR2⟩ : ∃ R2, R ++ [c] = R2 := ⟨_, rfl⟩
        rw [hR2] at HC HQk2
        clear hR2
        have hidx := HAT.out
        have hexx := HEX.out
        go_wp2_with (refine wpList_concat ⟨R.toArray⟩ ⟨#[c]⟩ rfl rfl (by rw [hRs]; show _ + 1 ≤ _; omega) ?_; rw [HC.out])
        go_roundw
        case rel => exact ⟨k + 1, _, by go_num, by omega, rfl, HQk2.out.symm, HG.out⟩
        case measure => simp [intOf]; omega
    · obtain rfl : k = s.length := by omega
      have q0 : decide ((s.length : Int) < (s.length : Int)) = false := decide_eq_false (by omega)
      have HC := hide ((cat1 R [39]).trans (by rw [HR.out, List.take_length]; rfl : _ = ByteArray.mk (quoteF s).toArray))
      go_wp2_with (refine wpList_concat ⟨R.toArray⟩ ⟨#[39]⟩ rfl rfl (by rw [hRs]; show _ + 1 ≤ _; omega) ?_; rw [HC.out])
      go_ret
      exact ⟨rfl, HG.out⟩

end Go.Proofs.YtdcfpklohleoiaaDoor
