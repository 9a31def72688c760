/- one: the env with the name in it. -/
import Derived.Test.YtdcfpklohleoiaaDoorF
import Derived.BigRegion
namespace Go.Proofs.YtdcfpklohleoiaaDoor
open Go.RowKit Go.Lib
set_option maxRecDepth 100000

theorem fin27 {w : World} {b : Nat} {x y z : Value} (h : Blk w b 27 #[x, y, z]) (x' y' z' : Value) : Blk (((w.setCell ⟨b, 0, none⟩ x').setCell ⟨b, 1, none⟩ y').setCell ⟨b, 2, none⟩ z') b 27 #[x', y', z'] := ((Blk.set_ h 0 _).set_ 1 _).set_ 2 _
theorem gr27 {w0 w : World} {b : Nat} (h : w0.grownBy w none) (hb : w0.heap.size ≤ b) (x' y' z' : Value) : w0.grownBy (((w.setCell ⟨b, 0, none⟩ x').setCell ⟨b, 1, none⟩ y').setCell ⟨b, 2, none⟩ z') none := none_setCell (none_setCell (none_setCell h (p := ⟨b, 0, none⟩) hb _) (p := ⟨b, 1, none⟩) hb _) (p := ⟨b, 2, none⟩) hb _
theorem far27 {w : World} {e : TypeId} {size n k : Nat} {v : Value} {xs : List Value} (h : Own w e size v n xs k) {b : Nat} (hb : v.ownBlock ≠ some b) (x' y' z' : Value) : Own (((w.setCell ⟨b, 0, none⟩ x').setCell ⟨b, 1, none⟩ y').setCell ⟨b, 2, none⟩ z') e size v n xs k := ((h.far (p := ⟨b, 0, none⟩) hb _).far (p := ⟨b, 1, none⟩) hb _).far (p := ⟨b, 2, none⟩) hb _

set_option maxHeartbeats 4000000 in
theorem one_found (vs : List V) (m : List UInt8) (v : Value) (w : World) (hw : WF vs) (ho : Own w 35 4 v vs.length (vcs vs) 0) (hf : foundB vs m = true) :
    Calls Tryd.prog 33 #[envV v, sv m] w (OnePost w vs m) := by
  have hl := hw.len
  have Hf := hide (fun W (hW : Own W 35 4 v vs.length (vcs vs) 0) => find_any vs m v W hw.srt (by omega) hW)
  have Hc := hide (fun W (hW : Own W 35 4 v vs.length (vcs vs) 0) => clone_any vs v W (by omega) hW)
  have HO := hide ho
  obtain ⟨hps, hidx, _⟩ := put_same hw.srt m hf
  obtain ⟨a, cap, rfl, _, _⟩ := ho.form
  unfold sv envV at Hf
  obtain ⟨ix, hix⟩ : ∃ ix, idxF m vs = ix := ⟨_, rfl⟩
  have Hf := hide (fun W hW => by have := Hf.out W hW; rw [hf, hix] at this; exact this)
  rw [hix] at hidx
  have HIX := hide hix
  have HPS := hide hps
  have hib : (0 : Int) ≤ ix ∧ (ix : Int) < (vs.length : Int) := by omega
  clear ho hf hix hps
  unfold sv envV
  go_enter Tryd.func33, Tryd.ntmps33
  go_wp2_with fail
  refine (Hf.out _ (HO.out.alloc2 _ _)).mono ?_
  rintro e w1 ⟨rfl, g1⟩
  have hG := none_trans (only_alloc (only_alloc (only_refl w none) (.cells #[.slice a vs.length cap, .slice none 0 0, .string ⟨#[]⟩] 27)) (.cells #[.slice none 0 0, .slice none 0 0, .string ⟨#[]⟩] 27)) g1
  have hb2 := Blk.grown ((Blk.new w 27 #[.slice a vs.length cap, .slice none 0 0, .string ⟨#[]⟩]).alloc (.cells #[.slice none 0 0, .slice none 0 0, .string ⟨#[]⟩] 27)) g1 (by simp)
  have hb4 := Blk.grown (Blk.new (w.alloc (.cells #[.slice a vs.length cap, .slice none 0 0, .string ⟨#[]⟩] 27)) 27 #[.slice none 0 0, .slice none 0 0, .string ⟨#[]⟩]) g1 (by simp)
  rw [World.size_alloc] at hb4
  have HB2 := hide hb2
  have HB4 := hide hb4
  obtain ⟨d0, d1, d2⟩ := res27 hb2
  have z0 := Blk.frozen hb2 0
  have lb2 := Blk.lt hb2
  have HG := hide hG
  have HO1 := hide (HO.out.none_ hG)
  clear hG g1 hb2 hb4
  go_wp2_with fail
  refine (Hc.out _ HO1.out).mono ?_
  rintro e w2 ⟨v2, rfl, ho2, hn2, g2⟩
  obtain ⟨g, off, cap2, rfl, _, _, hg, _⟩ := ho2.some_ (by omega)
  have hgn : w1.heap.size ≤ g := hn2 g rfl
  have hs1 : w.heap.size + 1 < w1.heap.size := Blk.lt HB4.out
  have hb2 := (Blk.grown HB2.out g2 (by simp)).set_ 0 (.slice (some ⟨g, off, none⟩) vs.length cap2)
  have hb4 := (Blk.grown HB4.out g2 (by simp)).far (p := ⟨w.heap.size, 0, none⟩) (by show w.heap.size + 1 ≠ w.heap.size; omega) (.slice (some ⟨g, off, none⟩) vs.length cap2)
  have ho3 := ho2.far (p := ⟨w.heap.size, 0, none⟩) (fun e => by simp [Value.ownBlock] at e; omega) (.slice (some ⟨g, off, none⟩) vs.length cap2)
  have hG2 := none_setCell (none_trans HG.out g2) (p := ⟨w.heap.size, 0, none⟩) (Nat.le_refl _) (.slice (some ⟨g, off, none⟩) vs.length cap2)
  have k0 := Blk.cell (Blk.grown HB2.out g2 (by simp)) 0
  have kz0 := Blk.frozen (Blk.grown HB2.out g2 (by simp)) 0
  have kl := Blk.lt (Blk.grown HB2.out g2 (by simp))
  have HB2' := hide hb2
  have HB4' := hide hb4
  have HO3 := hide ho3
  have HG2 := hide hG2
  have Hgn : w.heap.size + 1 < g := by omega
  clear hb2 hb4 ho3 hG2 ho2 hn2 g2 hgn d0 d1 d2 z0 lb2 hs1 hg
  go_wp2_with fail
  generalize w2.setCell ⟨w.heap.size, 0, none⟩ (.slice (some ⟨g, off, none⟩) vs.length cap2) = W at HB2' HB4' HO3 HG2 ⊢
  obtain ⟨d0, d1, d2⟩ := res27 HB2'.out
  obtain ⟨e0, e1, e2⟩ := res27 HB4'.out
  have z0 := Blk.frozen HB4'.out 0
  have z1 := Blk.frozen HB4'.out 1
  have z2 := Blk.frozen HB4'.out 2
  have lb2 := Blk.lt HB2'.out
  have lb4 := Blk.lt HB4'.out
  clear k0 kz0 kl
  go_region
  go_wp2_with fail
  have hff := (fin27 HB4'.out (.slice (some ⟨g, off, none⟩) vs.length cap2) (.slice none 0 0) (.string ⟨#[]⟩)).drew
  have hgg := only_drew (gr27 HG2.out (b := w.heap.size + 1) (by omega) (.slice (some ⟨g, off, none⟩) vs.length cap2) (.slice none 0 0) (.string ⟨#[]⟩))
  have hoo := Own.drew (far27 HO3.out (b := w.heap.size + 1) (fun e => by simp [Value.ownBlock] at e; omega) (.slice (some ⟨g, off, none⟩) vs.length cap2) (.slice none 0 0) (.string ⟨#[]⟩))
  generalize (((W.setCell ⟨w.heap.size + 1, 0, none⟩ (.slice (some ⟨g, off, none⟩) vs.length cap2)).setCell ⟨w.heap.size + 1, 1, none⟩ (.slice none 0 0)).setCell ⟨w.heap.size + 1, 2, none⟩ (.string ⟨#[]⟩)).drew = W9 at hff hgg hoo ⊢
  obtain ⟨f0, f1, f2⟩ := res27 hff
  refine bodyPost_ret (v := .tuple #[.agg #[.slice (some ⟨g, off, none⟩) vs.length cap2, .slice none 0 0, .string ⟨#[]⟩], .pointer (some ⟨g, off + ix * 4, none⟩), .int .i64 0]) (by simp [results, Tryd.results33, go_sem, f0, f1, f2]) rfl ?_
  refine ⟨g, off, cap2, ?_, ?_, by omega, hgg⟩
  · rw [HPS.out, HIX.out]; rfl
  · rw [HPS.out]; exact hoo

set_option maxHeartbeats 4000000 in
theorem one_new (vs : List V) (m : List UInt8) (v : Value) (w : World) (hw : WF vs) (ho : Own w 35 4 v vs.length (vcs vs) 0) (hf : foundB vs m = false) (h40 : vs.length < 40) :
    Calls Tryd.prog 33 #[envV v, sv m] w (OnePost w vs m) := by
  have hl := hw.len
  have Hf := hide (fun W (hW : Own W 35 4 v vs.length (vcs vs) 0) => find_any vs m v W hw.srt (by omega) hW)
  have Hc := hide (fun W (hW : Own W 35 4 v vs.length (vcs vs) 0) => clone_any vs v W (by omega) hW)
  have HO := hide ho
  have hps := (put_new hw.srt m hf).2
  have hidx := idx_le m vs
  have Hi := hide (fun v W xb (hO : Own W 35 4 v vs.length (vcs vs) 0) (hx : Blk W xb 35 (⟨m, [], false, false⟩ : V).cells.toArray) (hne : v.ownBlock ≠ some xb) => insert_any vs ⟨m, [], false, false⟩ v (idxF m vs) xb W (by omega) hidx hO hx hne)
  have q4 : decide ((40 : Int) ≤ (vs.length : Int)) = false := decide_eq_false (by omega)
  obtain ⟨a, cap, rfl, _, _⟩ := ho.form
  unfold sv envV at Hf
  obtain ⟨ix, hix⟩ : ∃ ix, idxF m vs = ix := ⟨_, rfl⟩
  have Hf := hide (fun W hW => by have := Hf.out W hW; rw [hf, hix] at this; exact this)
  rw [hix] at hidx Hi hps
  have HIX := hide hix
  have HPS := hide hps
  have hib : (0 : Int) ≤ ix ∧ (ix : Int) < ((vs.length + 1 : Nat) : Int) := by omega
  have hib2 : (0 : Int) ≤ ix ∧ (ix : Int) < (vs.length : Int) + 1 := by omega
  clear ho hf hix hps
  unfold sv envV
  go_enter Tryd.func33, Tryd.ntmps33
  go_wp2_with fail
  refine (Hf.out _ (HO.out.alloc2 _ _)).mono ?_
  rintro e w1 ⟨rfl, g1⟩
  have hG := none_trans (only_alloc (only_alloc (only_refl w none) (.cells #[.slice a vs.length cap, .slice none 0 0, .string ⟨#[]⟩] 27)) (.cells #[.slice none 0 0, .slice none 0 0, .string ⟨#[]⟩] 27)) g1
  have hb2 := Blk.grown ((Blk.new w 27 #[.slice a vs.length cap, .slice none 0 0, .string ⟨#[]⟩]).alloc (.cells #[.slice none 0 0, .slice none 0 0, .string ⟨#[]⟩] 27)) g1 (by simp)
  have hb4 := Blk.grown (Blk.new (w.alloc (.cells #[.slice a vs.length cap, .slice none 0 0, .string ⟨#[]⟩] 27)) 27 #[.slice none 0 0, .slice none 0 0, .string ⟨#[]⟩]) g1 (by simp)
  rw [World.size_alloc] at hb4
  have HB2 := hide hb2
  have HB4 := hide hb4
  obtain ⟨d0, d1, d2⟩ := res27 hb2
  have z0 := Blk.frozen hb2 0
  have lb2 := Blk.lt hb2
  have HG := hide hG
  have HO1 := hide (HO.out.none_ hG)
  clear hG g1 hb2 hb4
  go_wp2_with fail
  refine (Hc.out _ HO1.out).mono ?_
  rintro e w2 ⟨v2, rfl, ho2, hn2, g2⟩
  obtain ⟨a2, cap1, rfl, _, _⟩ := ho2.form
  have hs1 : w.heap.size + 1 < w1.heap.size := Blk.lt HB4.out
  have hs2 := g2.size
  have hnew : ∀ b, (Value.slice a2 vs.length cap1).ownBlock = some b → w.heap.size + 1 < b := fun b hb => by have := hn2 b hb; omega
  have hb2 := (Blk.grown HB2.out g2 (by simp)).set_ 0 (.slice a2 vs.length cap1)
  have hb4 := (Blk.grown HB4.out g2 (by simp)).far (p := ⟨w.heap.size, 0, none⟩) (by show w.heap.size + 1 ≠ w.heap.size; omega) (.slice a2 vs.length cap1)
  have ho3 := ho2.far (p := ⟨w.heap.size, 0, none⟩) (fun e => by have h8 : w.heap.size + 1 < w.heap.size := hnew _ e; omega) (.slice a2 vs.length cap1)
  have hG2 := none_setCell (none_trans HG.out g2) (p := ⟨w.heap.size, 0, none⟩) (Nat.le_refl _) (.slice a2 vs.length cap1)
  have k0 := Blk.cell (Blk.grown HB2.out g2 (by simp)) 0
  have kz0 := Blk.frozen (Blk.grown HB2.out g2 (by simp)) 0
  have kl := Blk.lt (Blk.grown HB2.out g2 (by simp))
  have HB2' := hide hb2
  have HB4' := hide hb4
  have HO3 := hide ho3
  have HG2 := hide hG2
  have HNW := hide hnew
  clear hb2 hb4 ho3 hG2 ho2 hn2 g2 d0 d1 d2 z0 lb2 hs1 hs2 hnew
  go_upto_region 6 with (fail)
  generalize w2.setCell ⟨w.heap.size, 0, none⟩ (.slice a2 vs.length cap1) = W at HB2' HB4' HO3 HG2 ⊢
  obtain ⟨d0, d1, d2⟩ := res27 HB2'.out
  have z0 := Blk.frozen HB2'.out 0
  have lb2 := Blk.lt HB2'.out
  have lb4 := Blk.lt HB4'.out
  clear k0 kz0 kl
  go_wp2_with fail
  refine (Hi.out _ _ W.heap.size (HO3.out.alloc _) (Blk.new W 35 _) (fun e => by have := HO3.out.lt e; omega)).mono ?_
  rintro e w4 ⟨v4, rfl, ho4, hn4, hc4⟩
  have hlen : (vs.take ix ++ (⟨m, [], false, false⟩ : V) :: vs.drop ix).length = vs.length + 1 := by rw [List.length_append, List.length_take, List.length_cons, List.length_drop]; omega
  rw [hlen] at ho4
  obtain ⟨g, off, cap2, rfl, _, _, hg, _⟩ := ho4.some_ (by omega)
  have Hgn : w.heap.size + 1 < g := by
    rcases hn4 g rfl with h | h
    · exact HNW.out g h
    · rw [World.size_alloc] at h; omega
  have hb2a := Blk.chg (HB2'.out.alloc (.cells #[.string ⟨m.toArray⟩, .string ⟨#[]⟩, .bool false, .bool false] 35)) hc4 (fun e => by have h8 : w.heap.size + 1 < w.heap.size := HNW.out _ e; omega)
  have hb4a := Blk.chg (HB4'.out.alloc (.cells #[.string ⟨m.toArray⟩, .string ⟨#[]⟩, .bool false, .bool false] 35)) hc4 (fun e => by have h8 : w.heap.size + 1 < w.heap.size + 1 := HNW.out _ e; omega)
  have hg4 : w.grownBy w4 none := (((Chg.of_grown HG2.out (fun k hk => by cases hk) : Chg nobody w W).alloc _).trans hc4 (fun i hi hb => by have := HNW.out i hb; omega)).grown (fun _ _ h => h)
  have hb2 := hb2a.set_ 0 (.slice (some ⟨g, off, none⟩) (vs.length + 1) cap2)
  have hb4 := hb4a.far (p := ⟨w.heap.size, 0, none⟩) (by show w.heap.size + 1 ≠ w.heap.size; omega) (.slice (some ⟨g, off, none⟩) (vs.length + 1) cap2)
  have ho5 := ho4.far (p := ⟨w.heap.size, 0, none⟩) (fun e => by simp [Value.ownBlock] at e; omega) (.slice (some ⟨g, off, none⟩) (vs.length + 1) cap2)
  have hG5 := none_setCell hg4 (p := ⟨w.heap.size, 0, none⟩) (Nat.le_refl _) (.slice (some ⟨g, off, none⟩) (vs.length + 1) cap2)
  have k0 := Blk.cell hb2a 0
  have kz0 := Blk.frozen hb2a 0
  have kl := Blk.lt hb2a
  clear HB2' HB4' HO3 HG2
  have HB2' := hide hb2
  have HB4' := hide hb4
  have HO3 := hide ho5
  have HG2 := hide hG5
  have Hlen := hide hlen
  clear hb2 hb4 ho5 hG5 ho4 hn4 hc4 hg4 d0 d1 d2 z0 lb2 lb4 hg hb2a hb4a hlen
  go_wp2_with fail
  generalize w4.setCell ⟨w.heap.size, 0, none⟩ (.slice (some ⟨g, off, none⟩) (vs.length + 1) cap2) = W at HB2' HB4' HO3 HG2 ⊢
  obtain ⟨d0, d1, d2⟩ := res27 HB2'.out
  obtain ⟨e0, e1, e2⟩ := res27 HB4'.out
  have z0 := Blk.frozen HB4'.out 0
  have z1 := Blk.frozen HB4'.out 1
  have z2 := Blk.frozen HB4'.out 2
  have lb2 := Blk.lt HB2'.out
  have lb4 := Blk.lt HB4'.out
  clear k0 kz0 kl
  go_region
  go_wp2_with fail
  have hff := (fin27 HB4'.out (.slice (some ⟨g, off, none⟩) (vs.length + 1) cap2) (.slice none 0 0) (.string ⟨#[]⟩)).drew
  have hgg := only_drew (gr27 HG2.out (b := w.heap.size + 1) (by omega) (.slice (some ⟨g, off, none⟩) (vs.length + 1) cap2) (.slice none 0 0) (.string ⟨#[]⟩))
  have hoo := Own.drew (far27 HO3.out (b := w.heap.size + 1) (fun e => by simp [Value.ownBlock] at e; omega) (.slice (some ⟨g, off, none⟩) (vs.length + 1) cap2) (.slice none 0 0) (.string ⟨#[]⟩))
  generalize (((W.setCell ⟨w.heap.size + 1, 0, none⟩ (.slice (some ⟨g, off, none⟩) (vs.length + 1) cap2)).setCell ⟨w.heap.size + 1, 1, none⟩ (.slice none 0 0)).setCell ⟨w.heap.size + 1, 2, none⟩ (.string ⟨#[]⟩)).drew = W9 at hff hgg hoo ⊢
  obtain ⟨f0, f1, f2⟩ := res27 hff
  refine bodyPost_ret (v := .tuple #[.agg #[.slice (some ⟨g, off, none⟩) (vs.length + 1) cap2, .slice none 0 0, .string ⟨#[]⟩], .pointer (some ⟨g, off + ix * 4, none⟩), .int .i64 0]) (by simp [results, Tryd.results33, go_sem, f0, f1, f2]) rfl ?_
  refine ⟨g, off, cap2, ?_, ?_, by omega, hgg⟩
  · rw [HPS.out, HIX.out, Hlen.out]; rfl
  · rw [HPS.out, Hlen.out]; exact hoo
theorem one_any (vs : List V) (m : List UInt8) (v : Value) (w : World) (hw : WF vs) (ho : Own w 35 4 v vs.length (vcs vs) 0) (hn : ¬ (foundB vs m = false ∧ 40 ≤ vs.length)) :
    Calls Tryd.prog 33 #[envV v, sv m] w (OnePost w vs m) := by
  cases hf : foundB vs m with
  | true => exact one_found vs m v w hw ho hf
  | false => exact one_new vs m v w hw ho hf (by have : ¬ 40 ≤ vs.length := fun h => hn ⟨hf, h⟩; omega)

end Go.Proofs.YtdcfpklohleoiaaDoor
