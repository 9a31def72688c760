/- The document's Unset. -/
import Derived.Test.YtdcfpklohleoiaaDoorU
namespace Go.Proofs.YtdcfpklohleoiaaDoor
open Go.RowKit
set_option maxRecDepth 100000

structure UnAt (w wr : World) (v : Value) (vO : Value) (O : List V) : Prop where
  g : w.grownBy wr none
  env : Blk wr w.heap.size 27 #[v, .slice none 0 0, .string ⟨#[]⟩]
  res : Blk wr (w.heap.size + 1) 27 #[.slice none 0 0, .slice none 0 0, .string ⟨#[]⟩]
  out : Own wr 35 4 vO O.length (vcs O) 0
  far : ∀ b, vO.ownBlock = some b → w.heap.size + 2 ≤ b
theorem UnAt.add {w wr w' : World} {v v' : Value} {x : V} {vO : Value} {O : List V} (h : UnAt w wr v vO O) (o : Obj)
    (ho : Own w' 35 4 v' (O.length + 1) (vcs O ++ vcs [x]) 0) (hc : Chg (fun b => vO.ownBlock = some b) (wr.alloc o) w') (hn : ∀ b, v'.ownBlock = some b → vO.ownBlock = some b ∨ (wr.alloc o).heap.size ≤ b) : UnAt w w' v v' (O ++ [x]) := by
  have hc' : Chg (fun b => vO.ownBlock = some b) wr w' := (Chg.alloc (Chg.refl _ wr) o).trans hc (fun _ _ h => h)
  have hlt := Blk.lt h.res
  refine ⟨((Chg.of_grown h.g (fun k hk => by cases hk)).trans hc' (fun _ _ h => h)).grown (fun k hk hS => by have := h.far k hS; omega), Blk.chg h.env hc' (fun e => by have := h.far _ e; omega), Blk.chg h.res hc' (fun e => by have := h.far _ e; omega), by rw [vcs_app, List.length_append]; exact ho, fun b hb => ?_⟩
  rcases hn b hb with h1 | h1
  · exact h.far b h1
  · rw [World.size_alloc] at h1; omega
theorem UnAt.two {w wr : World} {v : Value} {vs : List V} {vO : Value} {O : List V} (h : UnAt w wr v vO O) (ho : Own w 35 4 v vs.length (vcs vs) 0) : Two w wr v vs := ⟨h.g, h.env, h.res, ho.none_ h.g⟩
theorem Two.un {w wr : World} {v : Value} {vs : List V} (h : Two w wr v vs) : UnAt w wr v (.slice none 0 0) [] := ⟨h.g, h.env, h.res, Own.nil _ _ _ _, fun b hb => by cases hb⟩
theorem del_cons (a : V) (l : List V) (m : List UInt8) : delF (a :: l) m = (if a.n = m then [] else [a]) ++ delF l m := by
  unfold delF
  rw [List.filter_cons]
  by_cases h : a.n = m
  · rw [if_pos h, show (!(a.n == m)) = false by simp [h]]; rfl
  · rw [if_neg h, show (!(a.n == m)) = true by simp [h]]; rfl
theorem look_r {vs : List V} (hs : Srt vs) {m : List UInt8} {k : Nat} (hk : k < vs.length) (he : vs[k].n = m) : lookV vs m = vs[k] := by
  have := look_of_mem hs (List.getElem_mem hk)
  rw [he] at this
  unfold lookV
  rw [this]; rfl
theorem look_nr {vs : List V} (hs : Srt vs) {m : List UInt8} (h : ∀ j (hj : j < vs.length), vs[j].n = m → vs[j].r = false) : (lookV vs m).r = false := by
  cases hf : foundB vs m with
  | false => rw [(put_new hs m hf).1]
  | true =>
    obtain ⟨_, hidx, hu⟩ := put_same hs m hf
    rw [← hu]
    exact h _ hidx (by rw [hu, lookV_n])

set_option maxHeartbeats 4000000 in
theorem runset_any (vs : List V) (m : List UInt8) (v : Value) (w : World) (hw : WF vs) (ho : Own w 35 4 v vs.length (vcs vs) 0) (hm : m.length ≤ 9223372036854775807) :
    Calls Tryd.prog 28 #[envV v, sv m] w (EnvPost w (unsetF vs m)) := by
  have hl := hw.len
  have h1 := sz m
  have Hn := hide (fun W => rname_any m W hm)
  have HW := hide hw
  have HO := hide ho
  obtain ⟨a, cap, rfl, _, _⟩ := ho.form
  have HC := hide (fun k (hk : k < vs.length) => (show ∃ g off, a = some ⟨g, off, none⟩ ∧ g < w.heap.size ∧ w.cell? ⟨g, off + k * 4, none⟩ = some (.string ⟨(vs[k]).n.toArray⟩) ∧ w.cell? ⟨g, off + k * 4 + 1, none⟩ = some (.string ⟨(vs[k]).v.toArray⟩) ∧ w.cell? ⟨g, off + k * 4 + 2, none⟩ = some (.bool (vs[k]).x) ∧ w.cell? ⟨g, off + k * 4 + 3, none⟩ = some (.bool (vs[k]).r) by
    obtain ⟨g, off, cap2, hv, _, hg, hcs⟩ := v_cells ho (by omega)
    injection hv with hv1 hv2 hv3
    exact ⟨g, off, hv1, hg, hcs k hk⟩))
  unfold sv at Hn
  obtain ⟨R, hR⟩ : ∃ R, unsetF vs m = R := ⟨_, rfl⟩
  rw [hR]
  have HR := hide hR
  clear hw hR ho
  unfold sv envV
  cases hN : nameB m with
  | false =>
    have Hn := hide (fun W => by have := Hn.out W; rw [hN] at this; exact this)
    have hr : R = (vs, 1) := by rw [← HR.out]; unfold unsetF; rw [if_pos hN]
    have HN := hide hN
    clear hN
    subst hr
    go_enter Tryd.func28, Tryd.ntmps28
    go_wp2_with fail
    refine (Hn.out _).mono ?_
    rintro e w1 ⟨rfl, g1⟩
    have HT := hide (Two.grown (Two.start HO.out) g1)
    clear g1
    obtain ⟨d0, d1, d2⟩ := res27 HT.out.env
    obtain ⟨r0, r1, r2⟩ := res27 HT.out.res
    have z0 := Blk.frozen HT.out.res 0
    have z1 := Blk.frozen HT.out.res 1
    have z2 := Blk.frozen HT.out.res 2
    have lb3 := Blk.lt HT.out.env
    have lb6 := Blk.lt HT.out.res
    go_wp2_with fail
    have hff := fin27 HT.out.res (.slice a vs.length cap) (.slice none 0 0) (.string ⟨#[]⟩)
    have hgg := gr27 HT.out.g (b := w.heap.size + 1) (by omega) (.slice a vs.length cap) (.slice none 0 0) (.string ⟨#[]⟩)
    have hoo := far27 HT.out.own (own_ne HT.out.own HT.out.res (by decide)) (.slice a vs.length cap) (.slice none 0 0) (.string ⟨#[]⟩)
    generalize ((w1.setCell ⟨w.heap.size + 1, 0, none⟩ (.slice a vs.length cap)).setCell ⟨w.heap.size + 1, 1, none⟩ (.slice none 0 0)).setCell ⟨w.heap.size + 1, 2, none⟩ (.string ⟨#[]⟩) = W9 at hff hgg hoo ⊢
    obtain ⟨f0, f1, f2⟩ := res27 hff
    refine bodyPost_ret (v := .tuple #[.agg #[.slice a vs.length cap, .slice none 0 0, .string ⟨#[]⟩], .int .i64 1]) (by simp [results, Tryd.results28, go_sem, f0, f1, f2]) rfl ?_
    exact ⟨_, rfl, hoo, hgg⟩
  | true =>
    have Hn := hide (fun W => by have := Hn.out W; rw [hN] at this; exact this)
    have HN := hide hN
    clear hN
    go_enter Tryd.func28, Tryd.ntmps28
    go_wp2_with fail
    refine (Hn.out _).mono ?_
    rintro e w1 ⟨rfl, g1⟩
    have HT := hide (Two.grown (Two.start HO.out) g1)
    clear g1
    obtain ⟨d0, d1, d2⟩ := res27 HT.out.env
    obtain ⟨r0, r1, r2⟩ := res27 HT.out.res
    have z0 := Blk.frozen HT.out.res 0
    have z1 := Blk.frozen HT.out.res 1
    have z2 := Blk.frozen HT.out.res 2
    have lb3 := Blk.lt HT.out.env
    have lb6 := Blk.lt HT.out.res
    go_wp2_with fail
    clear d0 d1 d2 r0 r1 r2 z0 z1 z2 lb3 lb6
    go_loopw [7, 8] (fun v7 v8 wr => ∃ (k : Nat) (O : List V), v8 = .int .i64 k ∧ k ≤ vs.length ∧ O.length ≤ k ∧ O ++ delF (vs.drop k) m = delF vs m ∧ (∀ j (hj : j < vs.length), j < k → vs[j].n = m → vs[j].r = false) ∧ UnAt w wr (.slice a vs.length cap) v7 O) (fun _ v8 _ => vs.length - (intOf v8).toNat)
    case atStart => exact ⟨0, [], rfl, Nat.zero_le _, Nat.le_refl _, rfl, fun j _ h => absurd h (Nat.not_lt_zero _), HT.out.un⟩
    case round =>
      obtain ⟨k, O, rfl, hk, hO, hinv, hno, hP⟩ := hrel
      have HNO := hide hno
      have HP := hide hP
      clear hno
      obtain ⟨a5, c5, rfl, _, _⟩ := hP.out.form
      clear hP
      obtain ⟨d0, d1, d2⟩ := res27 HP.out.env
      obtain ⟨r0, r1, r2⟩ := res27 HP.out.res
      have z0 := Blk.frozen HP.out.res 0
      have z1 := Blk.frozen HP.out.res 1
      have z2 := Blk.frozen HP.out.res 2
      have z3 := Blk.frozen HP.out.env 0
      have lb3 := Blk.lt HP.out.env
      have lb6 := Blk.lt HP.out.res
      by_cases hlt : k < vs.length
      · have q0 : decide ((k : Int) < (vs.length : Int)) = true := decide_eq_true (by omega)
        have hib : (0 : Int) ≤ k ∧ (k : Int) < (vs.length : Int) := by omega
        obtain ⟨g, off, hae, hg, c0, c1, c2, c3⟩ := HC.out k hlt
        subst hae
        have hgs : g < wr.heap.size := Nat.lt_of_lt_of_le hg HP.out.g.size
        have c0 := old_cell HP.out.g hg c0
        have c1 := old_cell HP.out.g hg c1
        have c2 := old_cell HP.out.g hg c2
        have c3 := old_cell HP.out.g hg c3
        rw [drop_at hlt, del_cons] at hinv
        obtain ⟨x, hx⟩ : ∃ x, vs[k] = x := ⟨_, rfl⟩
        rw [hx] at c0 c1 c2 c3 hinv
        have HX := hide hx
        clear hx
        obtain ⟨xn, xv, xx, xr⟩ := x
        simp only [] at c0 c1 c2 c3 hinv
        by_cases he : xn = m
        · have q1 : (xn == m) = true := by rw [he]; simp
          rw [if_pos he] at hinv
          have HI := hide (show O ++ delF (vs.drop (k + 1)) m = delF vs m from hinv)
          have HL := hide (look_r (m := m) HW.out.srt hlt (by rw [HX.out]; exact he))
          have HQ := hide he
          clear hinv he
          cases xr with
          | true =>
            have hr : R = (vs, 21) := by rw [← HR.out]; unfold unsetF; rw [if_neg (by rw [HN.out]; exact Bool.noConfusion), if_pos (by rw [HL.out, HX.out])]
            subst hr
            have HT9 := hide (HP.out.two HO.out)
            go_wp2_with fail
            have hff := fin27 HT9.out.res (.slice (some ⟨g, off, none⟩) vs.length cap) (.slice none 0 0) (.string ⟨#[]⟩)
            have hgg := gr27 HT9.out.g (b := w.heap.size + 1) (by omega) (.slice (some ⟨g, off, none⟩) vs.length cap) (.slice none 0 0) (.string ⟨#[]⟩)
            have hoo := far27 HT9.out.own (own_ne HT9.out.own HT9.out.res (by decide)) (.slice (some ⟨g, off, none⟩) vs.length cap) (.slice none 0 0) (.string ⟨#[]⟩)
            generalize ((wr.setCell ⟨w.heap.size + 1, 0, none⟩ (.slice (some ⟨g, off, none⟩) vs.length cap)).setCell ⟨w.heap.size + 1, 1, none⟩ (.slice none 0 0)).setCell ⟨w.heap.size + 1, 2, none⟩ (.string ⟨#[]⟩) = W9 at hff hgg hoo ⊢
            obtain ⟨f0, f1, f2⟩ := res27 hff
            refine bodyPost_ret (v := .tuple #[.agg #[.slice (some ⟨g, off, none⟩) vs.length cap, .slice none 0 0, .string ⟨#[]⟩], .int .i64 21]) (by simp [results, Tryd.results28, go_sem, f0, f1, f2]) rfl ?_
            exact ⟨_, rfl, hoo, hgg⟩
          | false =>
            go_wp2_with fail
            go_roundw
            case rel => exact ⟨k + 1, O, by go_num, by omega, by omega, HI.out, fun j hj hjk he => by
              by_cases hjk2 : j < k
              · exact HNO.out j hj hjk2 he
              · obtain rfl : j = k := by omega
                rw [HX.out], HP.out⟩
            case measure => simp [intOf]; omega
        · have q1 : (xn == m) = false := beq_eq_false_iff_ne.2 he
          rw [if_neg he] at hinv
          have HI := hide (show O ++ [⟨xn, xv, xx, xr⟩] ++ delF (vs.drop (k + 1)) m = delF vs m by simpa using hinv)
          have HQ := hide he
          clear hinv he
          go_wp2_with (at_builtin; refine wpList_appAt 35 (.agg #[.string ⟨#[]⟩, .string ⟨#[]⟩, .bool false, .bool false]) 4 40 Tryd.underlying25 info35 rfl _ O.length (vcs O) 0 _ 1 (vcs [⟨xn, xv, xx, xr⟩]) rfl rfl (Own.alloc HP.out.out _) (by omega) (src1 _ _ ⟨xn, xv, xx, xr⟩ rfl) (by unfold maxLen; omega) (by omega) ?_; intro vA wA ho hc hn _; (have HPA := hide (HP.out.add _ ho hc hn)); clear ho hc hn)
          go_roundw
          case rel => exact ⟨k + 1, _, by go_num, by omega, by rw [List.length_append, List.length_singleton]; omega, HI.out, fun j hj hjk he => by
            by_cases hjk2 : j < k
            · exact HNO.out j hj hjk2 he
            · obtain rfl : j = k := by omega
              rw [HX.out] at he
              exact absurd he HQ.out, HPA.out⟩
          case measure => simp [intOf]; omega
      · obtain rfl : k = vs.length := by omega
        have q0 : decide ((vs.length : Int) < (vs.length : Int)) = false := decide_eq_false (by omega)
        rw [List.drop_eq_nil_of_le (Nat.le_refl _)] at hinv
        have HI := hide (show O = delF vs m by simpa [delF] using hinv)
        clear hinv
        have hr : R = (delF vs m, 0) := by rw [← HR.out]; unfold unsetF; rw [if_neg (by rw [HN.out]; exact Bool.noConfusion), if_neg (by rw [look_nr HW.out.srt (fun j hj he => HNO.out j hj hj he)]; exact Bool.noConfusion)]
        rw [← HI.out] at hr
        subst hr
        go_wp2_with fail
        have hff := fin27 (Blk.far HP.out.res (p := ⟨w.heap.size, 0, none⟩) (by show w.heap.size + 1 ≠ w.heap.size; omega) (.slice a5 O.length c5)) (.slice a5 O.length c5) (.slice none 0 0) (.string ⟨#[]⟩)
        have hgg := gr27 (none_setCell HP.out.g (p := ⟨w.heap.size, 0, none⟩) (Nat.le_refl _) (.slice a5 O.length c5)) (b := w.heap.size + 1) (by omega) (.slice a5 O.length c5) (.slice none 0 0) (.string ⟨#[]⟩)
        have hoo := far27 (Own.far HP.out.out (p := ⟨w.heap.size, 0, none⟩) (fun e => by have := HP.out.far _ e; simp only [] at this; omega) (.slice a5 O.length c5)) (b := w.heap.size + 1) (fun e => by have := HP.out.far _ e; omega) (.slice a5 O.length c5) (.slice none 0 0) (.string ⟨#[]⟩)
        generalize (((wr.setCell ⟨w.heap.size, 0, none⟩ (.slice a5 O.length c5)).setCell ⟨w.heap.size + 1, 0, none⟩ (.slice a5 O.length c5)).setCell ⟨w.heap.size + 1, 1, none⟩ (.slice none 0 0)).setCell ⟨w.heap.size + 1, 2, none⟩ (.string ⟨#[]⟩) = W9 at hff hgg hoo ⊢
        obtain ⟨f0, f1, f2⟩ := res27 hff
        refine bodyPost_ret (v := .tuple #[.agg #[.slice a5 O.length c5, .slice none 0 0, .string ⟨#[]⟩], .int .i64 0]) (by simp [results, Tryd.results28, go_sem, f0, f1, f2]) rfl ?_
        exact ⟨_, rfl, hoo, hgg⟩

end Go.Proofs.YtdcfpklohleoiaaDoor
