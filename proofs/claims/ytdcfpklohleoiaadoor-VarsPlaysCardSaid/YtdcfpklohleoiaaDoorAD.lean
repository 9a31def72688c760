/- List, the program's and the document's. -/
import Derived.Test.YtdcfpklohleoiaaDoorAC
import Derived.Test.YtdcfpklohleoiaaDoorT
import Derived.BigQuiet
namespace Go.Proofs.YtdcfpklohleoiaaDoor
open Go.RowKit
set_option maxRecDepth 100000

theorem step_call {P : Program} {ops : Array Oper} {o : Oper} {a : Act} {w : World} {K : Act → World → Prop} {Q : Exit → Act → World → Prop} {E : Prop} {f : FuncId} {args : Array Value} {v : Value} {R : World → Prop} (hw : Region.wanted o (yielded ops a.tmps) = true)
    (hr : (execOp a.eval o).run P w = .ok (.enter f args) w) (hc : Calls P f args w fun e w' => e = .returned v ∧ R w') (hK : ∀ w', R w' → K (a.put o.dst v) w') :
    if Region.wanted o (yielded ops a.tmps) = true then Oper.wp P o a w K Q else E := by
  rw [if_pos hw]
  unfold Oper.wp
  rw [hr, Oper.upon_enter]
  refine hc.mono ?_
  rintro e w' ⟨rfl, h⟩
  exact hK w' h
def lineT (a : V) : List UInt8 := a.n ++ [61] ++ quoteF a.v
def listF (vs : List V) : List (List UInt8) := vs.map lineT
theorem list_len (vs : List V) : (listF vs).length ≤ vs.length := by unfold listF; rw [List.length_map]; exact Nat.le_refl _
theorem list_snoc (vs : List V) (a : V) : listF (vs ++ [a]) = listF vs ++ [lineT a] := by simp [listF]
theorem quoteF_len (s : List UInt8) : (quoteF s).length ≤ 4 * s.length + 2 := by
  have := qR_len s
  unfold quoteF
  simp only [List.length_cons, List.length_append, List.length_nil]
  omega
set_option maxHeartbeats 4000000 in
theorem list_any (vs : List V) (v : Value) (w : World) (hw : WF vs) (hnm : NM vs) (ho : Own w 35 4 v vs.length (vcs vs) 0) :
    Calls Tryd.prog 20 #[envV v] w (LsPost w (listF vs)) := by
  have hl := hw.len
  have HW := hide hw
  have HNM := hide hnm
  have HI0 := hide (OutAt.start ho)
  obtain ⟨a, cap, rfl, _, _⟩ := ho.form
  clear hw hnm ho
  unfold envV
  go_enter Tryd.func20, Tryd.ntmps20
  obtain ⟨d0, d1, d2⟩ := res27 HI0.out.env.blk
  have lb := Blk.lt HI0.out.env.blk
  go_wp2_with fail
  go_loopw [3, 9] (fun v3 v9 wr => ∃ k : Nat, v9 = .int .i64 k ∧ k ≤ vs.length ∧ OutAt w wr w.heap.size (.slice a vs.length cap) vs v3 (listF (vs.take k))) (fun _ v9 _ => vs.length - (intOf v9).toNat)
  case atStart => exact ⟨0, rfl, Nat.zero_le _, HI0.out⟩
  case round =>
    obtain ⟨k, rfl, hk, hI⟩ := hrel
    have hol := list_len (vs.take k)
    rw [List.length_take] at hol
    obtain ⟨O, hO⟩ : ∃ O, listF (vs.take k) = O := ⟨_, rfl⟩
    rw [hO] at hI hol
    have HOO := hide hO
    clear hO
    have HI := hide hI
    obtain ⟨av, cv, rfl, _, _⟩ := hI.own.form
    clear hI d0 d1 d2 lb
    obtain ⟨d0, d1, d2⟩ := res27 HI.out.env.blk
    have lb := Blk.lt HI.out.env.blk
    by_cases hlt : k < vs.length
    · have q0 : decide ((k : Int) < (vs.length : Int)) = true := decide_eq_true (by omega)
      have hib : (0 : Int) ≤ k ∧ (k : Int) < (vs.length : Int) := by omega
      obtain ⟨g, og, kg, hv1, _, hg1, hcs⟩ := v_cells HI.out.env.own (by omega)
      injection hv1 with hv1 _ hv1'
      subst hv1
      clear hv1'
      obtain ⟨c0, c1, c2, c3⟩ := hcs k hlt
      have HVL := hide (HW.out.vl _ (List.getElem_mem hlt))
      have HNN := hide (HNM.out _ (List.getElem_mem hlt))
      have HTK := hide (show listF (vs.take (k + 1)) = listF (vs.take k) ++ [lineT vs[k]] by rw [List.take_succ_eq_append_getElem hlt, list_snoc])
      obtain ⟨x, hx⟩ : ∃ x, vs[k] = x := ⟨_, rfl⟩
      rw [hx] at c0 c1 c2 c3 HVL HNN HTK
      have HX := hide hx
      clear hcs hx
      obtain ⟨xn, xv, xx, xr⟩ := x
      unfold lineT at HTK
      simp only [] at c0 c1 c2 c3 HVL HNN HTK
      have hn1 := sz xn
      have hb1 : xn.length ≤ 140737488355328 := HNN.out
      have hb2 : xv.length ≤ 1024 := HVL.out
      have hql := quoteF_len xv
      have HCT := hide (eq_cat xn (quoteF xv))
      have Hq := hide (fun W => quote_any xv W (by omega))
      unfold sv at Hq
      rw [HOO.out] at HTK
      obtain ⟨E, hE⟩ : ∃ E, xn ++ [61] ++ quoteF xv = E := ⟨_, rfl⟩
      rw [hE] at HCT HTK
      clear hE
      obtain ⟨Q, hQ⟩ : ∃ Q, quoteF xv = Q := ⟨_, rfl⟩
      rw [hQ] at HCT hql Hq
      have hv1 := sz Q
      clear hQ
      have hsz1 : (ByteArray.mk xn.toArray ++ ByteArray.mk #[61]).size = xn.length + 1 := by simp [ByteArray.size]
      have HI2 := hide (HI.out.grown (only_alloc (only_refl _ none) (.cells #[.string ⟨xn.toArray⟩, .string ⟨xv.toArray⟩, .bool xx, .bool xr] 35)))
      have HB := hide (Blk.new wr 35 #[.string ⟨xn.toArray⟩, .string ⟨xv.toArray⟩, .bool xx, .bool xr])
      have lB := Blk.lt HB.out
      obtain ⟨f0, f1, _, _⟩ := res35 HB.out
      go_upto_region 5 with (fail)
      obtain ⟨W, hW⟩ : ∃ W, wr.alloc (.cells #[.string ⟨xn.toArray⟩, .string ⟨xv.toArray⟩, .bool xx, .bool xr] 35) = W := ⟨_, rfl⟩
      rw [hW] at HI2 HB lB f0 f1 ⊢
      clear hW
      obtain ⟨bb, hbb⟩ : ∃ bb, wr.heap.size = bb := ⟨_, rfl⟩
      rw [hbb] at HB lB f0 f1 ⊢
      clear hbb
      refine wp_region_perm [0, 1, 2, 3, 4, 5] [6, 7, 8, 9, 10] (by kernel_rfl) (by kernel_rfl) (fun w' => w'.cell? ⟨bb, 0, none⟩ = some (.string ⟨xn.toArray⟩) ∧ w'.cell? ⟨bb, 1, none⟩ = some (.string ⟨xv.toArray⟩)) ⟨f0, f1⟩ ?_
      simp only [pick, List.getElem?_cons_zero, List.getElem?_cons_succ]
      refine wpTake_cons ?_ (by rfl) ?_ ?_
      rotate_left
      · (intro W9 hSW; obtain ⟨j0, j1⟩ := hSW; go_simp; try with_reducible rfl)
      simp only [Act.put, List.setIfInBounds_toArray, List.set_cons_zero, List.set_cons_succ]
      refine wpTake_cons ?_ (by rfl) ?_ ?_
      rotate_left
      · (intro W9 hSW; obtain ⟨j0, j1⟩ := hSW; go_simp; try with_reducible rfl)
      simp only [Act.put, List.setIfInBounds_toArray, List.set_cons_zero, List.set_cons_succ]
      refine wpTake_cons ?_ (by rfl) ?_ ?_
      rotate_left
      · (intro W9 hSW; obtain ⟨j0, j1⟩ := hSW; go_simp; try with_reducible rfl)
      simp only [Act.put, List.setIfInBounds_toArray, List.set_cons_zero, List.set_cons_succ]
      refine wpTake_concat ⟨xn.toArray⟩ ⟨#[61]⟩ (by rfl) (by rfl) (by rw [hn1]; show _ + 1 ≤ _; omega) ?_
      simp only [Act.put, List.setIfInBounds_toArray, List.set_cons_zero, List.set_cons_succ]
      refine wpTake_cons ?_ (by rfl) ?_ ?_
      rotate_left
      · (intro W9 hSW; obtain ⟨j0, j1⟩ := hSW; go_simp; try with_reducible rfl)
      simp only [Act.put, List.setIfInBounds_toArray, List.set_cons_zero, List.set_cons_succ]
      refine wpTake_cons ?_ (by rfl) ?_ ?_
      rotate_left
      · (intro W9 hSW; obtain ⟨j0, j1⟩ := hSW; go_simp; try with_reducible rfl)
      simp only [Act.put, List.setIfInBounds_toArray, List.set_cons_zero, List.set_cons_succ]
      refine wpTake_nil ?_
      refine wpForce_cons fun K1 hK1 => ?_
      refine step_call (by rfl) (by simp [execOp, resolve, invoke, go_sem]) (Hq.out _) ?_
      intro w6 g6
      have hI6 := HI2.out.grown (none_trans (only_drew (only_refl _ none)) g6)
      have hg6 := none_trans (only_drew (only_refl W none)) g6
      refine hK1.out _ _ ⟨old_cell hg6 lB f0, old_cell hg6 lB f1⟩ ?_
      simp only [Act.put, List.setIfInBounds_toArray, List.set_cons_zero, List.set_cons_succ]
      refine wpForce_cons fun K2 hK2 => ?_
      refine step_concat (⟨xn.toArray⟩ ++ ⟨#[61]⟩) ⟨Q.toArray⟩ (by rfl) (by rfl) (by rw [hsz1, hv1]; omega) ?_
      rw [HCT.out]
      refine hK2.out _ _ ⟨old_cell hg6 lB f0, old_cell hg6 lB f1⟩ ?_
      simp only [Act.put, List.setIfInBounds_toArray, List.set_cons_zero, List.set_cons_succ]
      refine wpForce_cons fun K3 hK3 => ?_
      refine step_val (.slice (some ⟨w6.heap.size, 0, none⟩) 1 1) (w6.alloc (.cells #[.string ⟨E.toArray⟩] 9)) (by rfl) (by go_simp) ?_
      have hgA := only_alloc hg6 (.cells #[.string ⟨E.toArray⟩] 9)
      have hI7 := hI6.grown (only_alloc (only_refl w6 none) (.cells #[.string ⟨E.toArray⟩] 9))
      refine hK3.out _ _ ⟨old_cell hgA lB f0, old_cell hgA lB f1⟩ ?_
      simp only [Act.put, List.setIfInBounds_toArray, List.set_cons_zero, List.set_cons_succ]
      refine wpForce_cons fun K4 hK4 => ?_
      refine step_appAt (by rfl) (.tmp 13) (.tmp 21) 22 22 (by rfl) 9 (.string ⟨#[]⟩) 1 16 Tryd.underlying22 info9 rfl (.slice av O.length cv) O.length (O.map sv) 0 _ 1 [sv E] (by rfl) (by rfl) hI7.own (by omega) (srcS w6 _ E rfl) (by unfold maxLen; omega) (by omega) ?_
      intro vA wA ho hc hn _
      have hIA := hI7.app ho hc hn
      obtain ⟨fa, ca, rfl, _, _⟩ := ho.form
      have hBA := Blk.chg (Blk.grown HB.out hgA (by simp)) hc (fun e => own_ne hI7.own (Blk.grown HB.out hgA (by simp)) (by decide) e)
      refine hK4.out _ _ ⟨(res35 hBA).1, (res35 hBA).2.1⟩ ?_
      clear hBA
      simp only [Act.put, List.setIfInBounds_toArray, List.set_cons_zero, List.set_cons_succ]
      refine wpForce_one ?_
      have HIA := hide hIA
      clear ho hc hn hIA hgA hI6 hI7 hg6 g6 hK1 hK2 hK3 hK4 K1 K2 K3 K4
      go_wp2
      refine NoPanic.normal ?_
      go_wp2_with fail
      go_roundw
      case rel => exact ⟨k + 1, by go_num, by omega, by rw [HTK.out]; exact HIA.out⟩
      case measure => simp [intOf]; omega
    · obtain rfl : k = vs.length := by omega
      have q0 : decide ((vs.length : Int) < (vs.length : Int)) = false := decide_eq_false (by omega)
      rw [List.take_length] at HOO
      go_wp2_with fail
      go_ret
      exact ⟨.slice av O.length cv, rfl, by rw [HOO.out]; exact HI.out.own, HI.out.gr⟩

set_option maxHeartbeats 4000000 in
theorem rlist_any (vs : List V) (v : Value) (w : World) (hw : WF vs) (hnm : NM vs) (ho : Own w 35 4 v vs.length (vcs vs) 0) :
    Calls Tryd.prog 21 #[envV v] w (LsPost w (listF vs)) := by
  have hl := hw.len
  have HW := hide hw
  have HNM := hide hnm
  have HI0 := hide (OutAt.start ho)
  obtain ⟨a, cap, rfl, _, _⟩ := ho.form
  clear hw hnm ho
  unfold envV
  go_enter Tryd.func21, Tryd.ntmps21
  obtain ⟨d0, d1, d2⟩ := res27 HI0.out.env.blk
  have lb := Blk.lt HI0.out.env.blk
  go_wp2_with fail
  go_loopw [3, 4] (fun v3 v9 wr => ∃ k : Nat, v9 = .int .i64 k ∧ k ≤ vs.length ∧ OutAt w wr w.heap.size (.slice a vs.length cap) vs v3 (listF (vs.take k))) (fun _ v9 _ => vs.length - (intOf v9).toNat)
  case atStart => exact ⟨0, rfl, Nat.zero_le _, HI0.out⟩
  case round =>
    obtain ⟨k, rfl, hk, hI⟩ := hrel
    have hol := list_len (vs.take k)
    rw [List.length_take] at hol
    obtain ⟨O, hO⟩ : ∃ O, listF (vs.take k) = O := ⟨_, rfl⟩
    rw [hO] at hI hol
    have HOO := hide hO
    clear hO
    have HI := hide hI
    obtain ⟨av, cv, rfl, _, _⟩ := hI.own.form
    clear hI d0 d1 d2 lb
    obtain ⟨d0, d1, d2⟩ := res27 HI.out.env.blk
    have lb := Blk.lt HI.out.env.blk
    by_cases hlt : k < vs.length
    · have q0 : decide ((k : Int) < (vs.length : Int)) = true := decide_eq_true (by omega)
      have hib : (0 : Int) ≤ k ∧ (k : Int) < (vs.length : Int) := by omega
      obtain ⟨g, og, kg, hv1, _, hg1, hcs⟩ := v_cells HI.out.env.own (by omega)
      injection hv1 with hv1 _ hv1'
      subst hv1
      clear hv1'
      obtain ⟨c0, c1, c2, c3⟩ := hcs k hlt
      have HVL := hide (HW.out.vl _ (List.getElem_mem hlt))
      have HNN := hide (HNM.out _ (List.getElem_mem hlt))
      have HTK := hide (show listF (vs.take (k + 1)) = listF (vs.take k) ++ [lineT vs[k]] by rw [List.take_succ_eq_append_getElem hlt, list_snoc])
      obtain ⟨x, hx⟩ : ∃ x, vs[k] = x := ⟨_, rfl⟩
      rw [hx] at c0 c1 c2 c3 HVL HNN HTK
      have HX := hide hx
      clear hcs hx
      obtain ⟨xn, xv, xx, xr⟩ := x
      unfold lineT at HTK
      simp only [] at c0 c1 c2 c3 HVL HNN HTK
      have hn1 := sz xn
      have hb1 : xn.length ≤ 140737488355328 := HNN.out
      have hb2 : xv.length ≤ 1024 := HVL.out
      have hql := quoteF_len xv
      have HCT := hide (eq_cat xn (quoteF xv))
      have Hq := hide (fun W => rquote_any xv W (by omega))
      unfold sv at Hq
      rw [HOO.out] at HTK
      obtain ⟨E, hE⟩ : ∃ E, xn ++ [61] ++ quoteF xv = E := ⟨_, rfl⟩
      rw [hE] at HCT HTK
      clear hE
      obtain ⟨Q, hQ⟩ : ∃ Q, quoteF xv = Q := ⟨_, rfl⟩
      rw [hQ] at HCT hql Hq
      have hv1 := sz Q
      clear hQ
      have hsz1 : (ByteArray.mk xn.toArray ++ ByteArray.mk #[61]).size = xn.length + 1 := by simp [ByteArray.size]
      go_upto_region 5 with (fail)
      refine wp_region_perm [0, 1, 2, 3, 4, 5, 6, 7, 8, 9, 10, 11, 12, 13] [14, 15, 16, 17, 18] (by kernel_rfl) (by kernel_rfl) (fun w' => w'.cell? ⟨w.heap.size, 0, none⟩ = some (.slice (some ⟨g, og, none⟩) vs.length cap) ∧ w'.cell? ⟨g, og + k * 4, none⟩ = some (.string ⟨xn.toArray⟩) ∧ w'.cell? ⟨g, og + k * 4 + 1, none⟩ = some (.string ⟨xv.toArray⟩)) ⟨d0, c0, c1⟩ ?_
      simp only [pick, List.getElem?_cons_zero, List.getElem?_cons_succ]
      refine wpTake_cons ?_ (by rfl) ?_ ?_
      rotate_left
      · (intro W9 hSW; obtain ⟨j0, j1, j2⟩ := hSW; go_simp; try with_reducible rfl)
      simp only [Act.put, List.setIfInBounds_toArray, List.set_cons_zero, List.set_cons_succ]
      refine wpTake_cons ?_ (by rfl) ?_ ?_
      rotate_left
      · (intro W9 hSW; obtain ⟨j0, j1, j2⟩ := hSW; go_simp; try with_reducible rfl)
      simp only [Act.put, List.setIfInBounds_toArray, List.set_cons_zero, List.set_cons_succ]
      refine wpTake_cons ?_ (by rfl) ?_ ?_
      rotate_left
      · (intro W9 hSW; obtain ⟨j0, j1, j2⟩ := hSW; go_simp; try with_reducible rfl)
      simp only [Act.put, List.setIfInBounds_toArray, List.set_cons_zero, List.set_cons_succ]
      refine wpTake_cons ?_ (by rfl) ?_ ?_
      rotate_left
      · (intro W9 hSW; obtain ⟨j0, j1, j2⟩ := hSW; go_simp; try with_reducible rfl)
      simp only [Act.put, List.setIfInBounds_toArray, List.set_cons_zero, List.set_cons_succ]
      refine wpTake_cons ?_ (by rfl) ?_ ?_
      rotate_left
      · (intro W9 hSW; obtain ⟨j0, j1, j2⟩ := hSW; go_simp; try with_reducible rfl)
      simp only [Act.put, List.setIfInBounds_toArray, List.set_cons_zero, List.set_cons_succ]
      refine wpTake_cons ?_ (by rfl) ?_ ?_
      rotate_left
      · (intro W9 hSW; obtain ⟨j0, j1, j2⟩ := hSW; go_simp; try with_reducible rfl)
      simp only [Act.put, List.setIfInBounds_toArray, List.set_cons_zero, List.set_cons_succ]
      refine wpTake_cons ?_ (by rfl) ?_ ?_
      rotate_left
      · (intro W9 hSW; obtain ⟨j0, j1, j2⟩ := hSW; go_simp; try with_reducible rfl)
      simp only [Act.put, List.setIfInBounds_toArray, List.set_cons_zero, List.set_cons_succ]
      refine wpTake_concat ⟨xn.toArray⟩ ⟨#[61]⟩ (by rfl) (by rfl) (by rw [hn1]; show _ + 1 ≤ _; omega) ?_
      simp only [Act.put, List.setIfInBounds_toArray, List.set_cons_zero, List.set_cons_succ]
      refine wpTake_cons ?_ (by rfl) ?_ ?_
      rotate_left
      · (intro W9 hSW; obtain ⟨j0, j1, j2⟩ := hSW; go_simp; try with_reducible rfl)
      simp only [Act.put, List.setIfInBounds_toArray, List.set_cons_zero, List.set_cons_succ]
      refine wpTake_cons ?_ (by rfl) ?_ ?_
      rotate_left
      · (intro W9 hSW; obtain ⟨j0, j1, j2⟩ := hSW; go_simp; try with_reducible rfl)
      simp only [Act.put, List.setIfInBounds_toArray, List.set_cons_zero, List.set_cons_succ]
      refine wpTake_cons ?_ (by rfl) ?_ ?_
      rotate_left
      · (intro W9 hSW; obtain ⟨j0, j1, j2⟩ := hSW; go_simp; try with_reducible rfl)
      simp only [Act.put, List.setIfInBounds_toArray, List.set_cons_zero, List.set_cons_succ]
      refine wpTake_cons ?_ (by rfl) ?_ ?_
      rotate_left
      · (intro W9 hSW; obtain ⟨j0, j1, j2⟩ := hSW; go_simp; try with_reducible rfl)
      simp only [Act.put, List.setIfInBounds_toArray, List.set_cons_zero, List.set_cons_succ]
      refine wpTake_cons ?_ (by rfl) ?_ ?_
      rotate_left
      · (intro W9 hSW; obtain ⟨j0, j1, j2⟩ := hSW; go_simp; try with_reducible rfl)
      simp only [Act.put, List.setIfInBounds_toArray, List.set_cons_zero, List.set_cons_succ]
      refine wpTake_cons ?_ (by rfl) ?_ ?_
      rotate_left
      · (intro W9 hSW; obtain ⟨j0, j1, j2⟩ := hSW; go_simp; try with_reducible rfl)
      simp only [Act.put, List.setIfInBounds_toArray, List.set_cons_zero, List.set_cons_succ]
      refine wpTake_nil ?_
      refine wpForce_cons fun K1 hK1 => ?_
      refine step_call (by rfl) (by simp [execOp, resolve, invoke, go_sem]) (Hq.out _) ?_
      intro w6 g6
      have hI6 := HI.out.grown (none_trans (only_drew (only_refl _ none)) g6)
      have hg6 := none_trans (only_drew (only_refl wr none)) g6
      refine hK1.out _ _ ⟨old_cell hg6 lb d0, old_cell hg6 hg1 c0, old_cell hg6 hg1 c1⟩ ?_
      simp only [Act.put, List.setIfInBounds_toArray, List.set_cons_zero, List.set_cons_succ]
      refine wpForce_cons fun K2 hK2 => ?_
      refine step_concat (⟨xn.toArray⟩ ++ ⟨#[61]⟩) ⟨Q.toArray⟩ (by rfl) (by rfl) (by rw [hsz1, hv1]; omega) ?_
      rw [HCT.out]
      refine hK2.out _ _ ⟨old_cell hg6 lb d0, old_cell hg6 hg1 c0, old_cell hg6 hg1 c1⟩ ?_
      simp only [Act.put, List.setIfInBounds_toArray, List.set_cons_zero, List.set_cons_succ]
      refine wpForce_cons fun K3 hK3 => ?_
      refine step_val (.slice (some ⟨w6.heap.size, 0, none⟩) 1 1) (w6.alloc (.cells #[.string ⟨E.toArray⟩] 9)) (by rfl) (by go_simp) ?_
      have hgA := only_alloc hg6 (.cells #[.string ⟨E.toArray⟩] 9)
      have hI7 := hI6.grown (only_alloc (only_refl w6 none) (.cells #[.string ⟨E.toArray⟩] 9))
      refine hK3.out _ _ ⟨old_cell hgA lb d0, old_cell hgA hg1 c0, old_cell hgA hg1 c1⟩ ?_
      simp only [Act.put, List.setIfInBounds_toArray, List.set_cons_zero, List.set_cons_succ]
      refine wpForce_cons fun K4 hK4 => ?_
      refine step_appAt (by rfl) (.tmp 12) (.tmp 28) 22 22 (by rfl) 9 (.string ⟨#[]⟩) 1 16 Tryd.underlying22 info9 rfl (.slice av O.length cv) O.length (O.map sv) 0 _ 1 [sv E] (by rfl) (by rfl) hI7.own (by omega) (srcS w6 _ E rfl) (by unfold maxLen; omega) (by omega) ?_
      intro vA wA ho hc hn _
      have hIA := hI7.app ho hc hn
      obtain ⟨fa, ca, rfl, _, _⟩ := ho.form
      have hS2 : wA.cell? ⟨w.heap.size, 0, none⟩ = some (.slice (some ⟨g, og, none⟩) vs.length cap) := (res27 hIA.env.blk).1
      have hS3 : wA.cell? ⟨g, og + k * 4, none⟩ = some (.string ⟨xn.toArray⟩) ∧ wA.cell? ⟨g, og + k * 4 + 1, none⟩ = some (.string ⟨xv.toArray⟩) := by
        obtain ⟨g2, o2, k2, hv2, _, _, hcs2⟩ := v_cells hIA.env.own (by omega)
        injection hv2 with hv2 _ _
        injection hv2 with hv2
        injection hv2 with e1 e2
        subst e1 e2
        have h0 := hcs2 k hlt
        rw [HX.out] at h0
        exact ⟨h0.1, h0.2.1⟩
      refine hK4.out _ _ ⟨hS2, hS3.1, hS3.2⟩ ?_
      clear hS2 hS3
      simp only [Act.put, List.setIfInBounds_toArray, List.set_cons_zero, List.set_cons_succ]
      refine wpForce_one ?_
      have HIA := hide hIA
      clear ho hc hn hIA hgA hI6 hI7 hg6 g6 hK1 hK2 hK3 hK4 K1 K2 K3 K4
      go_wp2
      refine NoPanic.normal ?_
      go_wp2_with fail
      go_roundw
      case rel => exact ⟨k + 1, by go_num, by omega, by rw [HTK.out]; exact HIA.out⟩
      case measure => simp [intOf]; omega
    · obtain rfl : k = vs.length := by omega
      have q0 : decide ((vs.length : Int) < (vs.length : Int)) = false := decide_eq_false (by omega)
      rw [List.take_length] at HOO
      go_wp2_with fail
      go_ret
      exact ⟨.slice av O.length cv, rfl, by rw [HOO.out]; exact HI.out.own, HI.out.gr⟩

end Go.Proofs.YtdcfpklohleoiaaDoor
