/- Unset, Get. -/
import Derived.Test.YtdcfpklohleoiaaDoorI
namespace Go.Proofs.YtdcfpklohleoiaaDoor
open Go.RowKit
set_option maxRecDepth 100000

set_option maxHeartbeats 4000000 in
theorem unset_any (vs : List V) (m : List UInt8) (v : Value) (w : World) (hw : WF vs) (ho : Own w 35 4 v vs.length (vcs vs) 0) (hm : m.length ≤ 9223372036854775807) :
    Calls Tryd.prog 14 #[envV v, sv m] w (EnvPost w (unsetF vs m)) := by
  have hmf : ∀ (fn : Fn) (first cap : Array Value) (w : World), (Instr.makeFunc fn first cap).run Tryd.prog w = .ok (.func fn first cap) w := fun _ _ _ _ => rfl
  have hl := hw.len
  have h1 := sz m
  have Hn := hide (fun W => name_any m W hm)
  have Hx := hide (fun W (hW : Own W 35 4 v vs.length (vcs vs) 0) => fixed_any vs m v W hw hW)
  have Hc := hide (fun W (hW : Own W 35 4 v vs.length (vcs vs) 0) => clone_any vs v W (by omega) hW)
  have Hd := hide (fun v W nb (hW : Own W 35 4 v vs.length (vcs vs) 0) hb hne => delete_any vs m nb v W (by omega) hW hb hne)
  have HO := hide ho
  obtain ⟨a, cap, rfl, _, _⟩ := ho.form
  unfold sv at Hn
  unfold sv envV at Hx
  obtain ⟨R, hR⟩ : ∃ R, unsetF vs m = R := ⟨_, rfl⟩
  rw [hR]
  have HR := hide hR
  clear ho hw hR
  unfold sv envV
  cases hN : nameB m with
  | false =>
    have Hn := hide (fun W => by have := Hn.out W; rw [hN] at this; exact this)
    have hr : R = (vs, 1) := by rw [← HR.out]; unfold unsetF; rw [if_pos hN]
    clear hN
    subst hr
    go_enter Tryd.func14, Tryd.ntmps14
    go_wp2_with fail
    refine (Hn.out _).mono ?_
    rintro e w1 ⟨rfl, g1⟩
    have hG := none_trans (only_alloc (only_alloc (only_alloc (only_refl w none) (.cells #[.slice a vs.length cap, .slice none 0 0, .string ⟨#[]⟩] 27)) (.cells #[.string ⟨m.toArray⟩] 9)) (.cells #[.slice none 0 0, .slice none 0 0, .string ⟨#[]⟩] 27)) g1
    have hb2 := Blk.grown (((Blk.new w 27 #[.slice a vs.length cap, .slice none 0 0, .string ⟨#[]⟩]).alloc (.cells #[.string ⟨m.toArray⟩] 9)).alloc (.cells #[.slice none 0 0, .slice none 0 0, .string ⟨#[]⟩] 27)) g1 (by simp)
    have hb3 := Blk.grown ((Blk.new (w.alloc (.cells #[.slice a vs.length cap, .slice none 0 0, .string ⟨#[]⟩] 27)) 9 #[.string ⟨m.toArray⟩]).alloc (.cells #[.slice none 0 0, .slice none 0 0, .string ⟨#[]⟩] 27)) g1 (by simp)
    have hb4 := Blk.grown (Blk.new ((w.alloc (.cells #[.slice a vs.length cap, .slice none 0 0, .string ⟨#[]⟩] 27)).alloc (.cells #[.string ⟨m.toArray⟩] 9)) 27 #[.slice none 0 0, .slice none 0 0, .string ⟨#[]⟩]) g1 (by simp)
    rw [World.size_alloc] at hb3
    rw [World.size_alloc, World.size_alloc] at hb4
    have HB2 := hide hb2
    have HB3 := hide hb3
    have HB4 := hide hb4
    have HG := hide hG
    have HO1 := hide (HO.out.none_ hG)
    clear hG g1 hb2 hb3 hb4
    obtain ⟨d0, d1, d2⟩ := res27 HB2.out
    obtain ⟨e0, e1, e2⟩ := res27 HB4.out
    have n0 := Blk.cell HB3.out 0
    have z0 := Blk.frozen HB4.out 0
    have z1 := Blk.frozen HB4.out 1
    have z2 := Blk.frozen HB4.out 2
    have zz0 := Blk.frozen HB2.out 0
    have lb2 := Blk.lt HB2.out
    have lb3 := Blk.lt HB3.out
    have lb4 := Blk.lt HB4.out
    go_wp2_with fail
    have hff := fin27 HB4.out (.slice a vs.length cap) (.slice none 0 0) (.string ⟨#[]⟩)
    have hgg := gr27 HG.out (b := w.heap.size + 1 + 1) (by omega) (.slice a vs.length cap) (.slice none 0 0) (.string ⟨#[]⟩)
    have hoo := far27 HO1.out (b := w.heap.size + 1 + 1) (fun e => by have := HO.out.lt e; omega) (.slice a vs.length cap) (.slice none 0 0) (.string ⟨#[]⟩)
    generalize ((w1.setCell ⟨w.heap.size + 1 + 1, 0, none⟩ (.slice a vs.length cap)).setCell ⟨w.heap.size + 1 + 1, 1, none⟩ (.slice none 0 0)).setCell ⟨w.heap.size + 1 + 1, 2, none⟩ (.string ⟨#[]⟩) = W9 at hff hgg hoo ⊢
    obtain ⟨f0, f1, f2⟩ := res27 hff
    refine bodyPost_ret (v := .tuple #[.agg #[.slice a vs.length cap, .slice none 0 0, .string ⟨#[]⟩], .int .i64 1]) (by simp [results, Tryd.results14, go_sem, f0, f1, f2]) rfl ?_
    exact ⟨_, rfl, hoo, hgg⟩
  | true =>
    have Hn := hide (fun W => by have := Hn.out W; rw [hN] at this; exact this)
    have HN := hide hN
    clear hN
    cases hX : (lookV vs m).r with
    | true =>
      have Hx := hide (fun W hW => by have := Hx.out W hW; rw [hX] at this; exact this)
      have hr : R = (vs, 21) := by rw [← HR.out]; unfold unsetF; rw [if_neg (by rw [HN.out]; exact Bool.noConfusion), if_pos hX]
      clear hX
      subst hr
      go_enter Tryd.func14, Tryd.ntmps14
      go_wp2_with fail
      refine (Hn.out _).mono ?_
      rintro e w1 ⟨rfl, g1⟩
      have hG := none_trans (only_alloc (only_alloc (only_alloc (only_refl w none) (.cells #[.slice a vs.length cap, .slice none 0 0, .string ⟨#[]⟩] 27)) (.cells #[.string ⟨m.toArray⟩] 9)) (.cells #[.slice none 0 0, .slice none 0 0, .string ⟨#[]⟩] 27)) g1
      have hb2 := Blk.grown (((Blk.new w 27 #[.slice a vs.length cap, .slice none 0 0, .string ⟨#[]⟩]).alloc (.cells #[.string ⟨m.toArray⟩] 9)).alloc (.cells #[.slice none 0 0, .slice none 0 0, .string ⟨#[]⟩] 27)) g1 (by simp)
      have hb3 := Blk.grown ((Blk.new (w.alloc (.cells #[.slice a vs.length cap, .slice none 0 0, .string ⟨#[]⟩] 27)) 9 #[.string ⟨m.toArray⟩]).alloc (.cells #[.slice none 0 0, .slice none 0 0, .string ⟨#[]⟩] 27)) g1 (by simp)
      have hb4 := Blk.grown (Blk.new ((w.alloc (.cells #[.slice a vs.length cap, .slice none 0 0, .string ⟨#[]⟩] 27)).alloc (.cells #[.string ⟨m.toArray⟩] 9)) 27 #[.slice none 0 0, .slice none 0 0, .string ⟨#[]⟩]) g1 (by simp)
      rw [World.size_alloc] at hb3
      rw [World.size_alloc, World.size_alloc] at hb4
      have HB2 := hide hb2
      have HB3 := hide hb3
      have HB4 := hide hb4
      have HG := hide hG
      have HO1 := hide (HO.out.none_ hG)
      clear hG g1 hb2 hb3 hb4
      obtain ⟨d0, d1, d2⟩ := res27 HB2.out
      obtain ⟨e0, e1, e2⟩ := res27 HB4.out
      have n0 := Blk.cell HB3.out 0
      have z0 := Blk.frozen HB4.out 0
      have z1 := Blk.frozen HB4.out 1
      have z2 := Blk.frozen HB4.out 2
      have zz0 := Blk.frozen HB2.out 0
      have lb2 := Blk.lt HB2.out
      have lb3 := Blk.lt HB3.out
      have lb4 := Blk.lt HB4.out
      go_wp2_with fail
      refine (Hx.out _ HO1.out).mono ?_
      rintro e w2 ⟨rfl, g2⟩
      have HB2b := hide (Blk.grown HB2.out g2 (by simp))
      have HB3b := hide (Blk.grown HB3.out g2 (by simp))
      have HB4b := hide (Blk.grown HB4.out g2 (by simp))
      have HGb := hide (none_trans HG.out g2)
      have HO1b := hide (HO1.out.none_ g2)
      clear g2
      clear d0 d1 d2 e0 e1 e2 n0 z0 z1 z2 zz0 lb2 lb3 lb4
      obtain ⟨d0, d1, d2⟩ := res27 HB2b.out
      obtain ⟨e0, e1, e2⟩ := res27 HB4b.out
      have n0 := Blk.cell HB3b.out 0
      have z0 := Blk.frozen HB4b.out 0
      have z1 := Blk.frozen HB4b.out 1
      have z2 := Blk.frozen HB4b.out 2
      have zz0 := Blk.frozen HB2b.out 0
      have lb2 := Blk.lt HB2b.out
      have lb3 := Blk.lt HB3b.out
      have lb4 := Blk.lt HB4b.out
      go_wp2_with fail
      have hff := fin27 HB4b.out (.slice a vs.length cap) (.slice none 0 0) (.string ⟨#[]⟩)
      have hgg := gr27 HGb.out (b := w.heap.size + 1 + 1) (by omega) (.slice a vs.length cap) (.slice none 0 0) (.string ⟨#[]⟩)
      have hoo := far27 HO1b.out (b := w.heap.size + 1 + 1) (fun e => by have := HO.out.lt e; omega) (.slice a vs.length cap) (.slice none 0 0) (.string ⟨#[]⟩)
      generalize ((w2.setCell ⟨w.heap.size + 1 + 1, 0, none⟩ (.slice a vs.length cap)).setCell ⟨w.heap.size + 1 + 1, 1, none⟩ (.slice none 0 0)).setCell ⟨w.heap.size + 1 + 1, 2, none⟩ (.string ⟨#[]⟩) = W9 at hff hgg hoo ⊢
      obtain ⟨f0, f1, f2⟩ := res27 hff
      refine bodyPost_ret (v := .tuple #[.agg #[.slice a vs.length cap, .slice none 0 0, .string ⟨#[]⟩], .int .i64 21]) (by simp [results, Tryd.results14, go_sem, f0, f1, f2]) rfl ?_
      exact ⟨_, rfl, hoo, hgg⟩
    | false =>
      have Hx := hide (fun W hW => by have := Hx.out W hW; rw [hX] at this; exact this)
      have hr : R = (delF vs m, 0) := by rw [← HR.out]; unfold unsetF; rw [if_neg (by rw [HN.out]; exact Bool.noConfusion), if_neg (by rw [hX]; exact Bool.noConfusion)]
      clear hX
      subst hr
      go_enter Tryd.func14, Tryd.ntmps14
      go_wp2_with fail
      refine (Hn.out _).mono ?_
      rintro e w1 ⟨rfl, g1⟩
      have hG := none_trans (only_alloc (only_alloc (only_alloc (only_refl w none) (.cells #[.slice a vs.length cap, .slice none 0 0, .string ⟨#[]⟩] 27)) (.cells #[.string ⟨m.toArray⟩] 9)) (.cells #[.slice none 0 0, .slice none 0 0, .string ⟨#[]⟩] 27)) g1
      have hb2 := Blk.grown (((Blk.new w 27 #[.slice a vs.length cap, .slice none 0 0, .string ⟨#[]⟩]).alloc (.cells #[.string ⟨m.toArray⟩] 9)).alloc (.cells #[.slice none 0 0, .slice none 0 0, .string ⟨#[]⟩] 27)) g1 (by simp)
      have hb3 := Blk.grown ((Blk.new (w.alloc (.cells #[.slice a vs.length cap, .slice none 0 0, .string ⟨#[]⟩] 27)) 9 #[.string ⟨m.toArray⟩]).alloc (.cells #[.slice none 0 0, .slice none 0 0, .string ⟨#[]⟩] 27)) g1 (by simp)
      have hb4 := Blk.grown (Blk.new ((w.alloc (.cells #[.slice a vs.length cap, .slice none 0 0, .string ⟨#[]⟩] 27)).alloc (.cells #[.string ⟨m.toArray⟩] 9)) 27 #[.slice none 0 0, .slice none 0 0, .string ⟨#[]⟩]) g1 (by simp)
      rw [World.size_alloc] at hb3
      rw [World.size_alloc, World.size_alloc] at hb4
      have HB2 := hide hb2
      have HB3 := hide hb3
      have HB4 := hide hb4
      have HG := hide hG
      have HO1 := hide (HO.out.none_ hG)
      clear hG g1 hb2 hb3 hb4
      obtain ⟨d0, d1, d2⟩ := res27 HB2.out
      obtain ⟨e0, e1, e2⟩ := res27 HB4.out
      have n0 := Blk.cell HB3.out 0
      have z0 := Blk.frozen HB4.out 0
      have z1 := Blk.frozen HB4.out 1
      have z2 := Blk.frozen HB4.out 2
      have zz0 := Blk.frozen HB2.out 0
      have lb2 := Blk.lt HB2.out
      have lb3 := Blk.lt HB3.out
      have lb4 := Blk.lt HB4.out
      go_wp2_with fail
      refine (Hx.out _ HO1.out).mono ?_
      rintro e w2 ⟨rfl, g2⟩
      have HB2b := hide (Blk.grown HB2.out g2 (by simp))
      have HB3b := hide (Blk.grown HB3.out g2 (by simp))
      have HB4b := hide (Blk.grown HB4.out g2 (by simp))
      have HGb := hide (none_trans HG.out g2)
      have HO1b := hide (HO1.out.none_ g2)
      clear g2
      clear d0 d1 d2 e0 e1 e2 n0 z0 z1 z2 zz0 lb2 lb3 lb4
      obtain ⟨d0, d1, d2⟩ := res27 HB2b.out
      obtain ⟨e0, e1, e2⟩ := res27 HB4b.out
      have n0 := Blk.cell HB3b.out 0
      have z0 := Blk.frozen HB4b.out 0
      have z1 := Blk.frozen HB4b.out 1
      have z2 := Blk.frozen HB4b.out 2
      have zz0 := Blk.frozen HB2b.out 0
      have lb2 := Blk.lt HB2b.out
      have lb3 := Blk.lt HB3b.out
      have lb4 := Blk.lt HB4b.out
      go_wp2_with fail
      refine (Hc.out _ HO1b.out).mono ?_
      rintro e w3 ⟨v3, rfl, ho3, hn3, g2⟩
      have HO3 := hide ho3
      have hs2 := Blk.lt HB4b.out
      have HN3 := hide (show ∀ b, v3.ownBlock = some b → w.heap.size + 1 + 1 < b from fun b hb => by have := hn3 b hb; omega)
      clear ho3 hn3 hs2
      have HB2c := hide (Blk.grown HB2b.out g2 (by simp))
      have HB3c := hide (Blk.grown HB3b.out g2 (by simp))
      have HB4c := hide (Blk.grown HB4b.out g2 (by simp))
      have HGc := hide (none_trans HGb.out g2)
      have HO1c := hide (HO1b.out.none_ g2)
      clear g2
      clear d0 d1 d2 e0 e1 e2 n0 z0 z1 z2 zz0 lb2 lb3 lb4
      obtain ⟨d0, d1, d2⟩ := res27 HB2c.out
      obtain ⟨e0, e1, e2⟩ := res27 HB4c.out
      have n0 := Blk.cell HB3c.out 0
      have z0 := Blk.frozen HB4c.out 0
      have z1 := Blk.frozen HB4c.out 1
      have z2 := Blk.frozen HB4c.out 2
      have zz0 := Blk.frozen HB2c.out 0
      have lb2 := Blk.lt HB2c.out
      have lb3 := Blk.lt HB3c.out
      have lb4 := Blk.lt HB4c.out
      go_wp2_with fail
      refine (Hd.out v3 _ (w.heap.size + 1) HO3.out HB3c.out (fun e => by have := HN3.out _ e; omega)).mono ?_
      rintro e w4 ⟨v4, rfl, ho4, hn4, hc4⟩
      have hn4' : ∀ b, v4.ownBlock = some b → w.heap.size + 1 + 1 < b := fun b hb => by
        rcases hn4 b hb with h | h
        · exact HN3.out b h
        · omega
      have hb2 := Blk.chg HB2c.out hc4 (fun e => by have h8 : w.heap.size + 1 + 1 < w.heap.size := HN3.out _ e; omega)
      have hb3 := Blk.chg HB3c.out hc4 (fun e => by have h8 : w.heap.size + 1 + 1 < w.heap.size + 1 := HN3.out _ e; omega)
      have hb4 := Blk.chg HB4c.out hc4 (fun e => by have h8 : w.heap.size + 1 + 1 < w.heap.size + 1 + 1 := HN3.out _ e; omega)
      have hg4 : w.grownBy w4 none := ((Chg.of_grown HGc.out (fun k hk => by cases hk) : Chg nobody w w3).trans hc4 (fun i hi hb => by have := HN3.out i hb; omega)).grown (fun _ _ h => h)
      obtain ⟨a4, cap4, rfl, _, _⟩ := ho4.form
      have k0 := Blk.cell hb2 0
      have kz := Blk.frozen hb2 0
      have kl := Blk.lt hb2
      have HB2d := hide (hb2.set_ 0 (.slice a4 (delF vs m).length cap4))
      have HB3d := hide (hb3.far (p := ⟨w.heap.size, 0, none⟩) (by show w.heap.size + 1 ≠ w.heap.size; omega) (.slice a4 (delF vs m).length cap4))
      have HB4d := hide (hb4.far (p := ⟨w.heap.size, 0, none⟩) (by show w.heap.size + 1 + 1 ≠ w.heap.size; omega) (.slice a4 (delF vs m).length cap4))
      have HGd := hide (none_setCell hg4 (p := ⟨w.heap.size, 0, none⟩) (Nat.le_refl _) (.slice a4 (delF vs m).length cap4))
      have HOd := hide (ho4.far (p := ⟨w.heap.size, 0, none⟩) (fun e => by have h8 : w.heap.size + 1 + 1 < w.heap.size := hn4' _ e; omega) (.slice a4 (delF vs m).length cap4))
      have HN4 := hide hn4'
      clear ho4 hn4 hc4 hn4' hb2 hb3 hb4 hg4
      clear d0 d1 d2 e0 e1 e2 n0 z0 z1 z2 zz0 lb2 lb3 lb4
      go_upto_region 6 with (fail)
      generalize w4.setCell ⟨w.heap.size, 0, none⟩ (.slice a4 (delF vs m).length cap4) = W at HB2d HB3d HB4d HGd HOd ⊢
      clear k0 kz kl
      obtain ⟨d0, d1, d2⟩ := res27 HB2d.out
      obtain ⟨e0, e1, e2⟩ := res27 HB4d.out
      have n0 := Blk.cell HB3d.out 0
      have z0 := Blk.frozen HB4d.out 0
      have z1 := Blk.frozen HB4d.out 1
      have z2 := Blk.frozen HB4d.out 2
      have zz0 := Blk.frozen HB2d.out 0
      have lb2 := Blk.lt HB2d.out
      have lb3 := Blk.lt HB3d.out
      have lb4 := Blk.lt HB4d.out
      go_wp2_with fail
      have hff := fin27 HB4d.out (.slice a4 (delF vs m).length cap4) (.slice none 0 0) (.string ⟨#[]⟩)
      have hgg := gr27 HGd.out (b := w.heap.size + 1 + 1) (by omega) (.slice a4 (delF vs m).length cap4) (.slice none 0 0) (.string ⟨#[]⟩)
      have hoo := far27 HOd.out (b := w.heap.size + 1 + 1) (fun e => by have h8 : w.heap.size + 1 + 1 < w.heap.size + 1 + 1 := HN4.out _ e; omega) (.slice a4 (delF vs m).length cap4) (.slice none 0 0) (.string ⟨#[]⟩)
      generalize ((W.setCell ⟨w.heap.size + 1 + 1, 0, none⟩ (.slice a4 (delF vs m).length cap4)).setCell ⟨w.heap.size + 1 + 1, 1, none⟩ (.slice none 0 0)).setCell ⟨w.heap.size + 1 + 1, 2, none⟩ (.string ⟨#[]⟩) = W9 at hff hgg hoo ⊢
      obtain ⟨f0, f1, f2⟩ := res27 hff
      refine bodyPost_ret (v := .tuple #[.agg #[.slice a4 (delF vs m).length cap4, .slice none 0 0, .string ⟨#[]⟩], .int .i64 0]) (by simp [results, Tryd.results14, go_sem, f0, f1, f2]) rfl ?_
      exact ⟨_, rfl, hoo, hgg⟩

def getV (vs : List V) (m : List UInt8) : List UInt8 := (lookV vs m).v
set_option maxHeartbeats 2000000 in
theorem get_any (vs : List V) (m : List UInt8) (v : Value) (w : World) (hw : WF vs) (ho : Own w 35 4 v vs.length (vcs vs) 0) :
    Calls Tryd.prog 11 #[envV v, sv m] w fun e w' => e = .returned (.tuple #[sv (getV vs m), .bool (foundB vs m)]) ∧ w.grownBy w' none := by
  have hl := hw.len
  have Hf := hide (fun W (hW : Own W 35 4 v vs.length (vcs vs) 0) => find_any vs m v W hw.srt (by omega) hW)
  have HO := hide ho
  obtain ⟨a, cap, rfl, _, _⟩ := ho.form
  unfold sv envV at Hf
  cases hf : foundB vs m with
  | false =>
    have hr : getV vs m = [] := by unfold getV; rw [(put_new hw.srt m hf).1]
    rw [hr]
    have Hf := hide (fun W hW => by have := Hf.out W hW; rw [hf] at this; exact this)
    clear ho hf hr
    unfold sv envV
    go_enter Tryd.func11, Tryd.ntmps11
    go_wp2_with fail
    refine (Hf.out _ (HO.out.alloc _)).mono ?_
    rintro e w1 ⟨rfl, g1⟩
    go_wp2_with fail
    go_ret2
    exact ⟨rfl, none_trans (only_alloc (only_refl w none) _) g1⟩
  | true =>
    obtain ⟨_, hidx, hat⟩ := put_same hw.srt m hf
    have Hf := hide (fun W hW => by have := Hf.out W hW; rw [hf] at this; exact this)
    obtain ⟨g, off, cap2, hv, _, hg, hcs⟩ := v_cells ho (by omega)
    injection hv with hv1 hv2 hv3
    subst hv1; subst hv3
    obtain ⟨c0, c1, c2, c3⟩ := hcs _ hidx
    rw [hat] at c0 c1 c2 c3
    obtain ⟨r, hr⟩ : ∃ r, getV vs m = r := ⟨_, rfl⟩
    have c1 : w.cell? ⟨g, off + idxF m vs * 4 + 1, none⟩ = some (.string ⟨r.toArray⟩) := by rw [← hr]; exact c1
    rw [hr]
    obtain ⟨ix, hix⟩ : ∃ ix, idxF m vs = ix := ⟨_, rfl⟩
    have Hf := hide (fun W hW => by have := Hf.out W hW; rw [hix] at this; exact this)
    rw [hix] at c1 hidx
    have hib : (0 : Int) ≤ ix ∧ (ix : Int) < (vs.length : Int) := by omega
    have C1 := hide c1
    clear ho hf hr hcs hat c0 c1 c2 c3 hix
    unfold sv envV
    go_enter Tryd.func11, Tryd.ntmps11
    go_wp2_with fail
    refine (Hf.out _ (HO.out.alloc _)).mono ?_
    rintro e w1 ⟨rfl, g1⟩
    have hG := none_trans (only_alloc (only_refl w none) (.cells #[.slice (some ⟨g, off, none⟩) vs.length cap, .slice none 0 0, .string ⟨#[]⟩] 27)) g1
    have c1 := old_cell hG hg C1.out
    obtain ⟨d0, d1, d2⟩ := res27 (Blk.grown (Blk.new w 27 #[.slice (some ⟨g, off, none⟩) vs.length cap, .slice none 0 0, .string ⟨#[]⟩]) g1 (by simp))
    have hg1 : g < w1.heap.size := Nat.lt_of_lt_of_le hg hG.size
    have HG := hide hG
    clear hG g1
    go_wp2_with fail
    go_ret2
    exact ⟨rfl, HG.out⟩

end Go.Proofs.YtdcfpklohleoiaaDoor
