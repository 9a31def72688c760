/- The document's Mark, Get. -/
import Derived.Test.YtdcfpklohleoiaaDoorU
namespace Go.Proofs.YtdcfpklohleoiaaDoor
open Go.RowKit
set_option maxRecDepth 100000

set_option maxHeartbeats 4000000 in
theorem rmark_any (vs : List V) (m : List UInt8) (ex ro : Bool) (v : Value) (w : World) (hw : WF vs) (ho : Own w 35 4 v vs.length (vcs vs) 0) (hm : m.length ≤ 9223372036854775807) :
    Calls Tryd.prog 29 #[envV v, sv m, .bool ex, .bool ro] w (EnvPost w (markF vs m ex ro)) := by
  have hl := hw.len
  have h1 := sz m
  have Hn := hide (fun W => rname_any m W hm)
  have Hat := hide (fun W (hW : Own W 35 4 v vs.length (vcs vs) 0) => at_any vs m v W hw.srt (by omega) hW)
  have Hput := hide (fun u W (hW : Own W 35 4 v vs.length (vcs vs) 0) => put_all vs u v W hw.srt (by omega) hW)
  have HW := hide hw
  have HO := hide ho
  obtain ⟨a, cap, rfl, _, _⟩ := ho.form
  unfold sv at Hn
  unfold sv envV at Hat
  unfold envV at Hput
  obtain ⟨R, hR⟩ : ∃ R, markF vs m ex ro = R := ⟨_, rfl⟩
  rw [hR]
  have HR := hide hR
  clear hw hR
  unfold sv envV
  cases hN : nameB m with
  | false =>
    clear ho
    have Hn := hide (fun W => by have := Hn.out W; rw [hN] at this; exact this)
    have hr : R = (vs, 1) := by rw [← HR.out]; unfold markF; rw [if_pos hN]
    have HN := hide hN
    clear hN
    subst hr
    go_enter Tryd.func29, Tryd.ntmps29
    go_wp2_with fail
    refine (Hn.out _).mono ?_
    rintro e w1 ⟨rfl, g1⟩
    have HT := hide (Two.grown (Two.start HO.out) g1)
    clear g1
    obtain ⟨d0, d1, d2⟩ := res27 HT.out.env
    obtain ⟨r0, r1, r2⟩ := res27 HT.out.res
    have z0 := Blk.frozen HT.out.res 0
    have z1 := Blk.frozen HT.out.res 1
    have z2 := Blk.frozen HT.out.res 2
    have lb3 := Blk.lt HT.out.env
    have lb6 := Blk.lt HT.out.res
    go_wp2_with fail
    have hff := fin27 HT.out.res (.slice a vs.length cap) (.slice none 0 0) (.string ⟨#[]⟩)
    have hgg := gr27 HT.out.g (b := w.heap.size + 1) (by omega) (.slice a vs.length cap) (.slice none 0 0) (.string ⟨#[]⟩)
    have hoo := far27 HT.out.own (own_ne HT.out.own HT.out.res (by decide)) (.slice a vs.length cap) (.slice none 0 0) (.string ⟨#[]⟩)
    generalize ((w1.setCell ⟨w.heap.size + 1, 0, none⟩ (.slice a vs.length cap)).setCell ⟨w.heap.size + 1, 1, none⟩ (.slice none 0 0)).setCell ⟨w.heap.size + 1, 2, none⟩ (.string ⟨#[]⟩) = W9 at hff hgg hoo ⊢
    obtain ⟨f0, f1, f2⟩ := res27 hff
    refine bodyPost_ret (v := .tuple #[.agg #[.slice a vs.length cap, .slice none 0 0, .string ⟨#[]⟩], .int .i64 1]) (by simp [results, Tryd.results29, go_sem, f0, f1, f2]) rfl ?_
    exact ⟨_, rfl, hoo, hgg⟩
  | true =>
    have Hn := hide (fun W => by have := Hn.out W; rw [hN] at this; exact this)
    have HN := hide hN
    clear hN
    cases hf : foundB vs m with
    | true =>
      obtain ⟨hat, hidx, hux⟩ := at_found HW.out.srt hf
      obtain ⟨g, off, cap2, hv, _, hg, hcs⟩ := v_cells ho (by omega)
      injection hv with hv1 hv2 hv3
      subst hv1; subst hv3
      obtain ⟨c0, c1, c2, c3⟩ := hcs _ hidx
      rw [hux] at c0 c1 c2 c3
      obtain ⟨U, hU⟩ : ∃ U, lookV vs m = U := ⟨_, rfl⟩
      obtain ⟨ix, hix⟩ : ∃ ix, idxF m vs = ix := ⟨_, rfl⟩
      rw [hix] at hat hidx c0 c1 c2 c3
      rw [hU] at c0 c1 c2 c3
      have Hat := hide (fun W hW => by have := Hat.out W hW; rw [hat] at this; exact this)
      obtain ⟨un, uv, ux, ur⟩ := U
      simp only [] at c0 c1 c2 c3
      have C0 := hide c0
      have C1 := hide c1
      have C2 := hide c2
      have C3 := hide c3
      have HU := hide hU
      have HF := hide hf
      have q0 : decide ((0 : Int) ≤ (ix : Int)) = true := decide_eq_true (by omega)
      have q1 : decide ((ix : Int) < 0) = false := decide_eq_false (by omega)
      have hib : (0 : Int) ≤ ix ∧ (ix : Int) < (vs.length : Int) := by omega
      clear ho hcs c0 c1 c2 c3 hux hat hix hU hf
      cases ux with
      | true =>
        cases ur with
        | true =>
          have hr : R = (putF vs ⟨un, uv, true, true⟩, 0) := by rw [← HR.out]; unfold markF; rw [if_neg (by rw [HN.out]; exact Bool.noConfusion), if_neg (fun h => by rw [HF.out] at h; cases h.1), HU.out]; rfl
          subst hr
          go_enter Tryd.func29, Tryd.ntmps29
          go_wp2_with fail
          refine (Hn.out _).mono ?_
          rintro e w1 ⟨rfl, g1⟩
          have HT := hide (Two.grown (Two.start HO.out) g1)
          clear g1
          obtain ⟨d0, d1, d2⟩ := res27 HT.out.env
          obtain ⟨r0, r1, r2⟩ := res27 HT.out.res
          have z0 := Blk.frozen HT.out.res 0
          have z1 := Blk.frozen HT.out.res 1
          have z2 := Blk.frozen HT.out.res 2
          have lb3 := Blk.lt HT.out.env
          have lb6 := Blk.lt HT.out.res
          go_wp2_with fail
          refine (Hat.out _ (HT.out.own.alloc _)).mono ?_
          rintro e w2 ⟨rfl, g2⟩
          have HT2 := hide ((HT.out.alloc (.cells #[.string ⟨m.toArray⟩, .string ⟨#[]⟩, .bool false, .bool false] 35)).grown g2)
          have HX := hide (Blk.grown (Blk.new w1 35 #[.string ⟨m.toArray⟩, .string ⟨#[]⟩, .bool false, .bool false]) g2 (by simp))
          have lx : w.heap.size + 1 < w1.heap.size := Blk.lt HT.out.res
          have lw := g2.size
          clear g2
          clear d0 d1 d2 r0 r1 r2 z0 z1 z2 lb3 lb6
          obtain ⟨d0, d1, d2⟩ := res27 HT2.out.env
          obtain ⟨r0, r1, r2⟩ := res27 HT2.out.res
          have z0 := Blk.frozen HT2.out.res 0
          have z1 := Blk.frozen HT2.out.res 1
          have z2 := Blk.frozen HT2.out.res 2
          have lb3 := Blk.lt HT2.out.env
          have lb6 := Blk.lt HT2.out.res
          obtain ⟨x0, x1, x2, x3⟩ := res35 HX.out
          have lbx := Blk.lt HX.out
          have y0 := Blk.frozen HX.out 0
          have y1 := Blk.frozen HX.out 1
          have y2 := Blk.frozen HX.out 2
          have y3 := Blk.frozen HX.out 3
          have hgw : g < w2.heap.size := Nat.lt_of_lt_of_le hg HT2.out.g.size
          have c0 := old_cell HT2.out.g hg C0.out
          have c1 := old_cell HT2.out.g hg C1.out
          have c2 := old_cell HT2.out.g hg C2.out
          have c3 := old_cell HT2.out.g hg C3.out
          go_upto_region 10 with fail
          have HX3 := hide (fin35 HX.out (.string ⟨un.toArray⟩) (.string ⟨uv.toArray⟩) (.bool true) (.bool true))
          have HT3 := hide ((((HT2.out.set HO.out (p := ⟨w1.heap.size, 0, none⟩) lx (.string ⟨un.toArray⟩)).set HO.out (p := ⟨w1.heap.size, 1, none⟩) lx (.string ⟨uv.toArray⟩)).set HO.out (p := ⟨w1.heap.size, 2, none⟩) lx (.bool true)).set HO.out (p := ⟨w1.heap.size, 3, none⟩) lx (.bool true))
          generalize (((w2.setCell ⟨w1.heap.size, 0, none⟩ (.string ⟨un.toArray⟩)).setCell ⟨w1.heap.size, 1, none⟩ (.string ⟨uv.toArray⟩)).setCell ⟨w1.heap.size, 2, none⟩ (.bool true)).setCell ⟨w1.heap.size, 3, none⟩ (.bool true) = W3 at HX3 HT3 ⊢
          clear c0 c1 c2 c3 hgw x0 x1 x2 x3 lbx y0 y1 y2 y3
          clear d0 d1 d2 r0 r1 r2 z0 z1 z2 lb3 lb6
          obtain ⟨d0, d1, d2⟩ := res27 HT3.out.env
          obtain ⟨r0, r1, r2⟩ := res27 HT3.out.res
          have z0 := Blk.frozen HT3.out.res 0
          have z1 := Blk.frozen HT3.out.res 1
          have z2 := Blk.frozen HT3.out.res 2
          have lb3 := Blk.lt HT3.out.env
          have lb6 := Blk.lt HT3.out.res
          obtain ⟨x0, x1, x2, x3⟩ := res35 HX3.out
          have lbx := Blk.lt HX3.out
          have y0 := Blk.frozen HX3.out 0
          have y1 := Blk.frozen HX3.out 1
          have y2 := Blk.frozen HX3.out 2
          have y3 := Blk.frozen HX3.out 3
          go_wp2_with fail
          have HT4 := hide ((HT3.out.set HO.out (p := ⟨w1.heap.size, 2, none⟩) lx (.bool true)).set HO.out (p := ⟨w1.heap.size, 3, none⟩) lx (.bool true))
          refine (Hput.out ⟨un, uv, true, true⟩ _ HT4.out.own).mono ?_
          rintro e w5 ⟨v5, rfl, ho5, g5⟩
          obtain ⟨a5, c5, rfl, _, _⟩ := ho5.form
          have HT5 := hide (HT4.out.grown g5)
          have HO5 := hide ho5
          clear ho5 g5 x0 x1 x2 x3 lbx y0 y1 y2 y3
          clear d0 d1 d2 r0 r1 r2 z0 z1 z2 lb3 lb6
          obtain ⟨d0, d1, d2⟩ := res27 HT5.out.env
          obtain ⟨r0, r1, r2⟩ := res27 HT5.out.res
          have z0 := Blk.frozen HT5.out.res 0
          have z1 := Blk.frozen HT5.out.res 1
          have z2 := Blk.frozen HT5.out.res 2
          have lb3 := Blk.lt HT5.out.env
          have lb6 := Blk.lt HT5.out.res
          unfold envV
          go_wp2_with fail
          have hff := fin27 HT5.out.res (.slice a5 (putF vs ⟨un, uv, true, true⟩).length c5) (.slice none 0 0) (.string ⟨#[]⟩)
          have hgg := gr27 HT5.out.g (b := w.heap.size + 1) (by omega) (.slice a5 (putF vs ⟨un, uv, true, true⟩).length c5) (.slice none 0 0) (.string ⟨#[]⟩)
          have hoo := far27 HO5.out (own_ne HO5.out HT5.out.res (by decide)) (.slice a5 (putF vs ⟨un, uv, true, true⟩).length c5) (.slice none 0 0) (.string ⟨#[]⟩)
          generalize ((w5.setCell ⟨w.heap.size + 1, 0, none⟩ (.slice a5 (putF vs ⟨un, uv, true, true⟩).length c5)).setCell ⟨w.heap.size + 1, 1, none⟩ (.slice none 0 0)).setCell ⟨w.heap.size + 1, 2, none⟩ (.string ⟨#[]⟩) = W9 at hff hgg hoo ⊢
          obtain ⟨f0, f1, f2⟩ := res27 hff
          refine bodyPost_ret (v := .tuple #[.agg #[.slice a5 (putF vs ⟨un, uv, true, true⟩).length c5, .slice none 0 0, .string ⟨#[]⟩], .int .i64 0]) (by simp [results, Tryd.results29, go_sem, f0, f1, f2]) rfl ?_
          exact ⟨_, rfl, hoo, hgg⟩
        | false =>
          have hr : R = (putF vs ⟨un, uv, true, ro⟩, 0) := by rw [← HR.out]; unfold markF; rw [if_neg (by rw [HN.out]; exact Bool.noConfusion), if_neg (fun h => by rw [HF.out] at h; cases h.1), HU.out]; rfl
          subst hr
          go_enter Tryd.func29, Tryd.ntmps29
          go_wp2_with fail
          refine (Hn.out _).mono ?_
          rintro e w1 ⟨rfl, g1⟩
          have HT := hide (Two.grown (Two.start HO.out) g1)
          clear g1
          obtain ⟨d0, d1, d2⟩ := res27 HT.out.env
          obtain ⟨r0, r1, r2⟩ := res27 HT.out.res
          have z0 := Blk.frozen HT.out.res 0
          have z1 := Blk.frozen HT.out.res 1
          have z2 := Blk.frozen HT.out.res 2
          have lb3 := Blk.lt HT.out.env
          have lb6 := Blk.lt HT.out.res
          go_wp2_with fail
          refine (Hat.out _ (HT.out.own.alloc _)).mono ?_
          rintro e w2 ⟨rfl, g2⟩
          have HT2 := hide ((HT.out.alloc (.cells #[.string ⟨m.toArray⟩, .string ⟨#[]⟩, .bool false, .bool false] 35)).grown g2)
          have HX := hide (Blk.grown (Blk.new w1 35 #[.string ⟨m.toArray⟩, .string ⟨#[]⟩, .bool false, .bool false]) g2 (by simp))
          have lx : w.heap.size + 1 < w1.heap.size := Blk.lt HT.out.res
          have lw := g2.size
          clear g2
          clear d0 d1 d2 r0 r1 r2 z0 z1 z2 lb3 lb6
          obtain ⟨d0, d1, d2⟩ := res27 HT2.out.env
          obtain ⟨r0, r1, r2⟩ := res27 HT2.out.res
          have z0 := Blk.frozen HT2.out.res 0
          have z1 := Blk.frozen HT2.out.res 1
          have z2 := Blk.frozen HT2.out.res 2
          have lb3 := Blk.lt HT2.out.env
          have lb6 := Blk.lt HT2.out.res
          obtain ⟨x0, x1, x2, x3⟩ := res35 HX.out
          have lbx := Blk.lt HX.out
          have y0 := Blk.frozen HX.out 0
          have y1 := Blk.frozen HX.out 1
          have y2 := Blk.frozen HX.out 2
          have y3 := Blk.frozen HX.out 3
          have hgw : g < w2.heap.size := Nat.lt_of_lt_of_le hg HT2.out.g.size
          have c0 := old_cell HT2.out.g hg C0.out
          have c1 := old_cell HT2.out.g hg C1.out
          have c2 := old_cell HT2.out.g hg C2.out
          have c3 := old_cell HT2.out.g hg C3.out
          go_upto_region 10 with fail
          have HX3 := hide (fin35 HX.out (.string ⟨un.toArray⟩) (.string ⟨uv.toArray⟩) (.bool true) (.bool false))
          have HT3 := hide ((((HT2.out.set HO.out (p := ⟨w1.heap.size, 0, none⟩) lx (.string ⟨un.toArray⟩)).set HO.out (p := ⟨w1.heap.size, 1, none⟩) lx (.string ⟨uv.toArray⟩)).set HO.out (p := ⟨w1.heap.size, 2, none⟩) lx (.bool true)).set HO.out (p := ⟨w1.heap.size, 3, none⟩) lx (.bool false))
          generalize (((w2.setCell ⟨w1.heap.size, 0, none⟩ (.string ⟨un.toArray⟩)).setCell ⟨w1.heap.size, 1, none⟩ (.string ⟨uv.toArray⟩)).setCell ⟨w1.heap.size, 2, none⟩ (.bool true)).setCell ⟨w1.heap.size, 3, none⟩ (.bool false) = W3 at HX3 HT3 ⊢
          clear c0 c1 c2 c3 hgw x0 x1 x2 x3 lbx y0 y1 y2 y3
          clear d0 d1 d2 r0 r1 r2 z0 z1 z2 lb3 lb6
          obtain ⟨d0, d1, d2⟩ := res27 HT3.out.env
          obtain ⟨r0, r1, r2⟩ := res27 HT3.out.res
          have z0 := Blk.frozen HT3.out.res 0
          have z1 := Blk.frozen HT3.out.res 1
          have z2 := Blk.frozen HT3.out.res 2
          have lb3 := Blk.lt HT3.out.env
          have lb6 := Blk.lt HT3.out.res
          obtain ⟨x0, x1, x2, x3⟩ := res35 HX3.out
          have lbx := Blk.lt HX3.out
          have y0 := Blk.frozen HX3.out 0
          have y1 := Blk.frozen HX3.out 1
          have y2 := Blk.frozen HX3.out 2
          have y3 := Blk.frozen HX3.out 3
          go_wp2_with fail
          have HT4 := hide ((HT3.out.set HO.out (p := ⟨w1.heap.size, 2, none⟩) lx (.bool true)).set HO.out (p := ⟨w1.heap.size, 3, none⟩) lx (.bool ro))
          refine (Hput.out ⟨un, uv, true, ro⟩ _ HT4.out.own).mono ?_
          rintro e w5 ⟨v5, rfl, ho5, g5⟩
          obtain ⟨a5, c5, rfl, _, _⟩ := ho5.form
          have HT5 := hide (HT4.out.grown g5)
          have HO5 := hide ho5
          clear ho5 g5 x0 x1 x2 x3 lbx y0 y1 y2 y3
          clear d0 d1 d2 r0 r1 r2 z0 z1 z2 lb3 lb6
          obtain ⟨d0, d1, d2⟩ := res27 HT5.out.env
          obtain ⟨r0, r1, r2⟩ := res27 HT5.out.res
          have z0 := Blk.frozen HT5.out.res 0
          have z1 := Blk.frozen HT5.out.res 1
          have z2 := Blk.frozen HT5.out.res 2
          have lb3 := Blk.lt HT5.out.env
          have lb6 := Blk.lt HT5.out.res
          unfold envV
          go_wp2_with fail
          have hff := fin27 HT5.out.res (.slice a5 (putF vs ⟨un, uv, true, ro⟩).length c5) (.slice none 0 0) (.string ⟨#[]⟩)
          have hgg := gr27 HT5.out.g (b := w.heap.size + 1) (by omega) (.slice a5 (putF vs ⟨un, uv, true, ro⟩).length c5) (.slice none 0 0) (.string ⟨#[]⟩)
          have hoo := far27 HO5.out (own_ne HO5.out HT5.out.res (by decide)) (.slice a5 (putF vs ⟨un, uv, true, ro⟩).length c5) (.slice none 0 0) (.string ⟨#[]⟩)
          generalize ((w5.setCell ⟨w.heap.size + 1, 0, none⟩ (.slice a5 (putF vs ⟨un, uv, true, ro⟩).length c5)).setCell ⟨w.heap.size + 1, 1, none⟩ (.slice none 0 0)).setCell ⟨w.heap.size + 1, 2, none⟩ (.string ⟨#[]⟩) = W9 at hff hgg hoo ⊢
          obtain ⟨f0, f1, f2⟩ := res27 hff
          refine bodyPost_ret (v := .tuple #[.agg #[.slice a5 (putF vs ⟨un, uv, true, ro⟩).length c5, .slice none 0 0, .string ⟨#[]⟩], .int .i64 0]) (by simp [results, Tryd.results29, go_sem, f0, f1, f2]) rfl ?_
          exact ⟨_, rfl, hoo, hgg⟩
      | false =>
        cases ur with
        | true =>
          have hr : R = (putF vs ⟨un, uv, ex, true⟩, 0) := by rw [← HR.out]; unfold markF; rw [if_neg (by rw [HN.out]; exact Bool.noConfusion), if_neg (fun h => by rw [HF.out] at h; cases h.1), HU.out]; rfl
          subst hr
          go_enter Tryd.func29, Tryd.ntmps29
          go_wp2_with fail
          refine (Hn.out _).mono ?_
          rintro e w1 ⟨rfl, g1⟩
          have HT := hide (Two.grown (Two.start HO.out) g1)
          clear g1
          obtain ⟨d0, d1, d2⟩ := res27 HT.out.env
          obtain ⟨r0, r1, r2⟩ := res27 HT.out.res
          have z0 := Blk.frozen HT.out.res 0
          have z1 := Blk.frozen HT.out.res 1
          have z2 := Blk.frozen HT.out.res 2
          have lb3 := Blk.lt HT.out.env
          have lb6 := Blk.lt HT.out.res
          go_wp2_with fail
          refine (Hat.out _ (HT.out.own.alloc _)).mono ?_
          rintro e w2 ⟨rfl, g2⟩
          have HT2 := hide ((HT.out.alloc (.cells #[.string ⟨m.toArray⟩, .string ⟨#[]⟩, .bool false, .bool false] 35)).grown g2)
          have HX := hide (Blk.grown (Blk.new w1 35 #[.string ⟨m.toArray⟩, .string ⟨#[]⟩, .bool false, .bool false]) g2 (by simp))
          have lx : w.heap.size + 1 < w1.heap.size := Blk.lt HT.out.res
          have lw := g2.size
          clear g2
          clear d0 d1 d2 r0 r1 r2 z0 z1 z2 lb3 lb6
          obtain ⟨d0, d1, d2⟩ := res27 HT2.out.env
          obtain ⟨r0, r1, r2⟩ := res27 HT2.out.res
          have z0 := Blk.frozen HT2.out.res 0
          have z1 := Blk.frozen HT2.out.res 1
          have z2 := Blk.frozen HT2.out.res 2
          have lb3 := Blk.lt HT2.out.env
          have lb6 := Blk.lt HT2.out.res
          obtain ⟨x0, x1, x2, x3⟩ := res35 HX.out
          have lbx := Blk.lt HX.out
          have y0 := Blk.frozen HX.out 0
          have y1 := Blk.frozen HX.out 1
          have y2 := Blk.frozen HX.out 2
          have y3 := Blk.frozen HX.out 3
          have hgw : g < w2.heap.size := Nat.lt_of_lt_of_le hg HT2.out.g.size
          have c0 := old_cell HT2.out.g hg C0.out
          have c1 := old_cell HT2.out.g hg C1.out
          have c2 := old_cell HT2.out.g hg C2.out
          have c3 := old_cell HT2.out.g hg C3.out
          go_upto_region 10 with fail
          have HX3 := hide (fin35 HX.out (.string ⟨un.toArray⟩) (.string ⟨uv.toArray⟩) (.bool false) (.bool true))
          have HT3 := hide ((((HT2.out.set HO.out (p := ⟨w1.heap.size, 0, none⟩) lx (.string ⟨un.toArray⟩)).set HO.out (p := ⟨w1.heap.size, 1, none⟩) lx (.string ⟨uv.toArray⟩)).set HO.out (p := ⟨w1.heap.size, 2, none⟩) lx (.bool false)).set HO.out (p := ⟨w1.heap.size, 3, none⟩) lx (.bool true))
          generalize (((w2.setCell ⟨w1.heap.size, 0, none⟩ (.string ⟨un.toArray⟩)).setCell ⟨w1.heap.size, 1, none⟩ (.string ⟨uv.toArray⟩)).setCell ⟨w1.heap.size, 2, none⟩ (.bool false)).setCell ⟨w1.heap.size, 3, none⟩ (.bool true) = W3 at HX3 HT3 ⊢
          clear c0 c1 c2 c3 hgw x0 x1 x2 x3 lbx y0 y1 y2 y3
          clear d0 d1 d2 r0 r1 r2 z0 z1 z2 lb3 lb6
          obtain ⟨d0, d1, d2⟩ := res27 HT3.out.env
          obtain ⟨r0, r1, r2⟩ := res27 HT3.out.res
          have z0 := Blk.frozen HT3.out.res 0
          have z1 := Blk.frozen HT3.out.res 1
          have z2 := Blk.frozen HT3.out.res 2
          have lb3 := Blk.lt HT3.out.env
          have lb6 := Blk.lt HT3.out.res
          obtain ⟨x0, x1, x2, x3⟩ := res35 HX3.out
          have lbx := Blk.lt HX3.out
          have y0 := Blk.frozen HX3.out 0
          have y1 := Blk.frozen HX3.out 1
          have y2 := Blk.frozen HX3.out 2
          have y3 := Blk.frozen HX3.out 3
          go_wp2_with fail
          have HT4 := hide ((HT3.out.set HO.out (p := ⟨w1.heap.size, 2, none⟩) lx (.bool ex)).set HO.out (p := ⟨w1.heap.size, 3, none⟩) lx (.bool true))
          refine (Hput.out ⟨un, uv, ex, true⟩ _ HT4.out.own).mono ?_
          rintro e w5 ⟨v5, rfl, ho5, g5⟩
          obtain ⟨a5, c5, rfl, _, _⟩ := ho5.form
          have HT5 := hide (HT4.out.grown g5)
          have HO5 := hide ho5
          clear ho5 g5 x0 x1 x2 x3 lbx y0 y1 y2 y3
          clear d0 d1 d2 r0 r1 r2 z0 z1 z2 lb3 lb6
          obtain ⟨d0, d1, d2⟩ := res27 HT5.out.env
          obtain ⟨r0, r1, r2⟩ := res27 HT5.out.res
          have z0 := Blk.frozen HT5.out.res 0
          have z1 := Blk.frozen HT5.out.res 1
          have z2 := Blk.frozen HT5.out.res 2
          have lb3 := Blk.lt HT5.out.env
          have lb6 := Blk.lt HT5.out.res
          unfold envV
          go_wp2_with fail
          have hff := fin27 HT5.out.res (.slice a5 (putF vs ⟨un, uv, ex, true⟩).length c5) (.slice none 0 0) (.string ⟨#[]⟩)
          have hgg := gr27 HT5.out.g (b := w.heap.size + 1) (by omega) (.slice a5 (putF vs ⟨un, uv, ex, true⟩).length c5) (.slice none 0 0) (.string ⟨#[]⟩)
          have hoo := far27 HO5.out (own_ne HO5.out HT5.out.res (by decide)) (.slice a5 (putF vs ⟨un, uv, ex, true⟩).length c5) (.slice none 0 0) (.string ⟨#[]⟩)
          generalize ((w5.setCell ⟨w.heap.size + 1, 0, none⟩ (.slice a5 (putF vs ⟨un, uv, ex, true⟩).length c5)).setCell ⟨w.heap.size + 1, 1, none⟩ (.slice none 0 0)).setCell ⟨w.heap.size + 1, 2, none⟩ (.string ⟨#[]⟩) = W9 at hff hgg hoo ⊢
          obtain ⟨f0, f1, f2⟩ := res27 hff
          refine bodyPost_ret (v := .tuple #[.agg #[.slice a5 (putF vs ⟨un, uv, ex, true⟩).length c5, .slice none 0 0, .string ⟨#[]⟩], .int .i64 0]) (by simp [results, Tryd.results29, go_sem, f0, f1, f2]) rfl ?_
          exact ⟨_, rfl, hoo, hgg⟩
        | false =>
          have hr : R = (putF vs ⟨un, uv, ex, ro⟩, 0) := by rw [← HR.out]; unfold markF; rw [if_neg (by rw [HN.out]; exact Bool.noConfusion), if_neg (fun h => by rw [HF.out] at h; cases h.1), HU.out]; rfl
          subst hr
          go_enter Tryd.func29, Tryd.ntmps29
          go_wp2_with fail
          refine (Hn.out _).mono ?_
          rintro e w1 ⟨rfl, g1⟩
          have HT := hide (Two.grown (Two.start HO.out) g1)
          clear g1
          obtain ⟨d0, d1, d2⟩ := res27 HT.out.env
          obtain ⟨r0, r1, r2⟩ := res27 HT.out.res
          have z0 := Blk.frozen HT.out.res 0
          have z1 := Blk.frozen HT.out.res 1
          have z2 := Blk.frozen HT.out.res 2
          have lb3 := Blk.lt HT.out.env
          have lb6 := Blk.lt HT.out.res
          go_wp2_with fail
          refine (Hat.out _ (HT.out.own.alloc _)).mono ?_
          rintro e w2 ⟨rfl, g2⟩
          have HT2 := hide ((HT.out.alloc (.cells #[.string ⟨m.toArray⟩, .string ⟨#[]⟩, .bool false, .bool false] 35)).grown g2)
          have HX := hide (Blk.grown (Blk.new w1 35 #[.string ⟨m.toArray⟩, .string ⟨#[]⟩, .bool false, .bool false]) g2 (by simp))
          have lx : w.heap.size + 1 < w1.heap.size := Blk.lt HT.out.res
          have lw := g2.size
          clear g2
          clear d0 d1 d2 r0 r1 r2 z0 z1 z2 lb3 lb6
          obtain ⟨d0, d1, d2⟩ := res27 HT2.out.env
          obtain ⟨r0, r1, r2⟩ := res27 HT2.out.res
          have z0 := Blk.frozen HT2.out.res 0
          have z1 := Blk.frozen HT2.out.res 1
          have z2 := Blk.frozen HT2.out.res 2
          have lb3 := Blk.lt HT2.out.env
          have lb6 := Blk.lt HT2.out.res
          obtain ⟨x0, x1, x2, x3⟩ := res35 HX.out
          have lbx := Blk.lt HX.out
          have y0 := Blk.frozen HX.out 0
          have y1 := Blk.frozen HX.out 1
          have y2 := Blk.frozen HX.out 2
          have y3 := Blk.frozen HX.out 3
          have hgw : g < w2.heap.size := Nat.lt_of_lt_of_le hg HT2.out.g.size
          have c0 := old_cell HT2.out.g hg C0.out
          have c1 := old_cell HT2.out.g hg C1.out
          have c2 := old_cell HT2.out.g hg C2.out
          have c3 := old_cell HT2.out.g hg C3.out
          go_upto_region 10 with fail
          have HX3 := hide (fin35 HX.out (.string ⟨un.toArray⟩) (.string ⟨uv.toArray⟩) (.bool false) (.bool false))
          have HT3 := hide ((((HT2.out.set HO.out (p := ⟨w1.heap.size, 0, none⟩) lx (.string ⟨un.toArray⟩)).set HO.out (p := ⟨w1.heap.size, 1, none⟩) lx (.string ⟨uv.toArray⟩)).set HO.out (p := ⟨w1.heap.size, 2, none⟩) lx (.bool false)).set HO.out (p := ⟨w1.heap.size, 3, none⟩) lx (.bool false))
          generalize (((w2.setCell ⟨w1.heap.size, 0, none⟩ (.string ⟨un.toArray⟩)).setCell ⟨w1.heap.size, 1, none⟩ (.string ⟨uv.toArray⟩)).setCell ⟨w1.heap.size, 2, none⟩ (.bool false)).setCell ⟨w1.heap.size, 3, none⟩ (.bool false) = W3 at HX3 HT3 ⊢
          clear c0 c1 c2 c3 hgw x0 x1 x2 x3 lbx y0 y1 y2 y3
          clear d0 d1 d2 r0 r1 r2 z0 z1 z2 lb3 lb6
          obtain ⟨d0, d1, d2⟩ := res27 HT3.out.env
          obtain ⟨r0, r1, r2⟩ := res27 HT3.out.res
          have z0 := Blk.frozen HT3.out.res 0
          have z1 := Blk.frozen HT3.out.res 1
          have z2 := Blk.frozen HT3.out.res 2
          have lb3 := Blk.lt HT3.out.env
          have lb6 := Blk.lt HT3.out.res
          obtain ⟨x0, x1, x2, x3⟩ := res35 HX3.out
          have lbx := Blk.lt HX3.out
          have y0 := Blk.frozen HX3.out 0
          have y1 := Blk.frozen HX3.out 1
          have y2 := Blk.frozen HX3.out 2
          have y3 := Blk.frozen HX3.out 3
          go_wp2_with fail
          have HT4 := hide ((HT3.out.set HO.out (p := ⟨w1.heap.size, 2, none⟩) lx (.bool ex)).set HO.out (p := ⟨w1.heap.size, 3, none⟩) lx (.bool ro))
          refine (Hput.out ⟨un, uv, ex, ro⟩ _ HT4.out.own).mono ?_
          rintro e w5 ⟨v5, rfl, ho5, g5⟩
          obtain ⟨a5, c5, rfl, _, _⟩ := ho5.form
          have HT5 := hide (HT4.out.grown g5)
          have HO5 := hide ho5
          clear ho5 g5 x0 x1 x2 x3 lbx y0 y1 y2 y3
          clear d0 d1 d2 r0 r1 r2 z0 z1 z2 lb3 lb6
          obtain ⟨d0, d1, d2⟩ := res27 HT5.out.env
          obtain ⟨r0, r1, r2⟩ := res27 HT5.out.res
          have z0 := Blk.frozen HT5.out.res 0
          have z1 := Blk.frozen HT5.out.res 1
          have z2 := Blk.frozen HT5.out.res 2
          have lb3 := Blk.lt HT5.out.env
          have lb6 := Blk.lt HT5.out.res
          unfold envV
          go_wp2_with fail
          have hff := fin27 HT5.out.res (.slice a5 (putF vs ⟨un, uv, ex, ro⟩).length c5) (.slice none 0 0) (.string ⟨#[]⟩)
          have hgg := gr27 HT5.out.g (b := w.heap.size + 1) (by omega) (.slice a5 (putF vs ⟨un, uv, ex, ro⟩).length c5) (.slice none 0 0) (.string ⟨#[]⟩)
          have hoo := far27 HO5.out (own_ne HO5.out HT5.out.res (by decide)) (.slice a5 (putF vs ⟨un, uv, ex, ro⟩).length c5) (.slice none 0 0) (.string ⟨#[]⟩)
          generalize ((w5.setCell ⟨w.heap.size + 1, 0, none⟩ (.slice a5 (putF vs ⟨un, uv, ex, ro⟩).length c5)).setCell ⟨w.heap.size + 1, 1, none⟩ (.slice none 0 0)).setCell ⟨w.heap.size + 1, 2, none⟩ (.string ⟨#[]⟩) = W9 at hff hgg hoo ⊢
          obtain ⟨f0, f1, f2⟩ := res27 hff
          refine bodyPost_ret (v := .tuple #[.agg #[.slice a5 (putF vs ⟨un, uv, ex, ro⟩).length c5, .slice none 0 0, .string ⟨#[]⟩], .int .i64 0]) (by simp [results, Tryd.results29, go_sem, f0, f1, f2]) rfl ?_
          exact ⟨_, rfl, hoo, hgg⟩
    | false =>
      have hat := at_none hf
      have hU := (put_new HW.out.srt m hf).1
      have Hat := hide (fun W hW => by have := Hat.out W hW; rw [hat] at this; exact this)
      have HU := hide hU
      have HF := hide hf
      have q0 : decide ((0 : Int) ≤ (-1 : Int)) = false := by decide
      have q1 : decide ((-1 : Int) < 0) = true := by decide
      clear ho hat hU hf
      by_cases h40 : 40 ≤ vs.length
      · have q4 : decide ((40 : Int) ≤ (vs.length : Int)) = true := decide_eq_true (by omega)
        have hr : R = (vs, 9) := by rw [← HR.out]; unfold markF; rw [if_neg (by rw [HN.out]; exact Bool.noConfusion), if_pos ⟨HF.out, h40⟩]
        subst hr
        go_enter Tryd.func29, Tryd.ntmps29
        go_wp2_with fail
        refine (Hn.out _).mono ?_
        rintro e w1 ⟨rfl, g1⟩
        have HT := hide (Two.grown (Two.start HO.out) g1)
        clear g1
        obtain ⟨d0, d1, d2⟩ := res27 HT.out.env
        obtain ⟨r0, r1, r2⟩ := res27 HT.out.res
        have z0 := Blk.frozen HT.out.res 0
        have z1 := Blk.frozen HT.out.res 1
        have z2 := Blk.frozen HT.out.res 2
        have lb3 := Blk.lt HT.out.env
        have lb6 := Blk.lt HT.out.res
        go_wp2_with fail
        refine (Hat.out _ (HT.out.own.alloc _)).mono ?_
        rintro e w2 ⟨rfl, g2⟩
        have HT2 := hide ((HT.out.alloc (.cells #[.string ⟨m.toArray⟩, .string ⟨#[]⟩, .bool false, .bool false] 35)).grown g2)
        have HX := hide (Blk.grown (Blk.new w1 35 #[.string ⟨m.toArray⟩, .string ⟨#[]⟩, .bool false, .bool false]) g2 (by simp))
        have lx : w.heap.size + 1 < w1.heap.size := Blk.lt HT.out.res
        have lw := g2.size
        clear g2
        clear d0 d1 d2 r0 r1 r2 z0 z1 z2 lb3 lb6
        obtain ⟨d0, d1, d2⟩ := res27 HT2.out.env
        obtain ⟨r0, r1, r2⟩ := res27 HT2.out.res
        have z0 := Blk.frozen HT2.out.res 0
        have z1 := Blk.frozen HT2.out.res 1
        have z2 := Blk.frozen HT2.out.res 2
        have lb3 := Blk.lt HT2.out.env
        have lb6 := Blk.lt HT2.out.res
        obtain ⟨x0, x1, x2, x3⟩ := res35 HX.out
        have lbx := Blk.lt HX.out
        have y0 := Blk.frozen HX.out 0
        have y1 := Blk.frozen HX.out 1
        have y2 := Blk.frozen HX.out 2
        have y3 := Blk.frozen HX.out 3
        go_wp2_with fail
        have hff := fin27 HT2.out.res (.slice a vs.length cap) (.slice none 0 0) (.string ⟨#[]⟩)
        have hgg := gr27 HT2.out.g (b := w.heap.size + 1) (by omega) (.slice a vs.length cap) (.slice none 0 0) (.string ⟨#[]⟩)
        have hoo := far27 HT2.out.own (own_ne HT2.out.own HT2.out.res (by decide)) (.slice a vs.length cap) (.slice none 0 0) (.string ⟨#[]⟩)
        generalize ((w2.setCell ⟨w.heap.size + 1, 0, none⟩ (.slice a vs.length cap)).setCell ⟨w.heap.size + 1, 1, none⟩ (.slice none 0 0)).setCell ⟨w.heap.size + 1, 2, none⟩ (.string ⟨#[]⟩) = W9 at hff hgg hoo ⊢
        obtain ⟨f0, f1, f2⟩ := res27 hff
        refine bodyPost_ret (v := .tuple #[.agg #[.slice a vs.length cap, .slice none 0 0, .string ⟨#[]⟩], .int .i64 9]) (by simp [results, Tryd.results29, go_sem, f0, f1, f2]) rfl ?_
        exact ⟨_, rfl, hoo, hgg⟩
      · have q4 : decide ((40 : Int) ≤ (vs.length : Int)) = false := decide_eq_false (by omega)
        have hr : R = (putF vs ⟨m, [], ex, ro⟩, 0) := by rw [← HR.out]; unfold markF; rw [if_neg (by rw [HN.out]; exact Bool.noConfusion), if_neg (fun h => h40 h.2), HU.out]; rfl
        subst hr
        go_enter Tryd.func29, Tryd.ntmps29
        go_wp2_with fail
        refine (Hn.out _).mono ?_
        rintro e w1 ⟨rfl, g1⟩
        have HT := hide (Two.grown (Two.start HO.out) g1)
        clear g1
        obtain ⟨d0, d1, d2⟩ := res27 HT.out.env
        obtain ⟨r0, r1, r2⟩ := res27 HT.out.res
        have z0 := Blk.frozen HT.out.res 0
        have z1 := Blk.frozen HT.out.res 1
        have z2 := Blk.frozen HT.out.res 2
        have lb3 := Blk.lt HT.out.env
        have lb6 := Blk.lt HT.out.res
        go_wp2_with fail
        refine (Hat.out _ (HT.out.own.alloc _)).mono ?_
        rintro e w2 ⟨rfl, g2⟩
        have HT2 := hide ((HT.out.alloc (.cells #[.string ⟨m.toArray⟩, .string ⟨#[]⟩, .bool false, .bool false] 35)).grown g2)
        have HX := hide (Blk.grown (Blk.new w1 35 #[.string ⟨m.toArray⟩, .string ⟨#[]⟩, .bool false, .bool false]) g2 (by simp))
        have lx : w.heap.size + 1 < w1.heap.size := Blk.lt HT.out.res
        have lw := g2.size
        clear g2
        clear d0 d1 d2 r0 r1 r2 z0 z1 z2 lb3 lb6
        obtain ⟨d0, d1, d2⟩ := res27 HT2.out.env
        obtain ⟨r0, r1, r2⟩ := res27 HT2.out.res
        have z0 := Blk.frozen HT2.out.res 0
        have z1 := Blk.frozen HT2.out.res 1
        have z2 := Blk.frozen HT2.out.res 2
        have lb3 := Blk.lt HT2.out.env
        have lb6 := Blk.lt HT2.out.res
        obtain ⟨x0, x1, x2, x3⟩ := res35 HX.out
        have lbx := Blk.lt HX.out
        have y0 := Blk.frozen HX.out 0
        have y1 := Blk.frozen HX.out 1
        have y2 := Blk.frozen HX.out 2
        have y3 := Blk.frozen HX.out 3
        go_wp2_with fail
        have HT4 := hide ((HT2.out.set HO.out (p := ⟨w1.heap.size, 2, none⟩) lx (.bool ex)).set HO.out (p := ⟨w1.heap.size, 3, none⟩) lx (.bool ro))
        refine (Hput.out ⟨m, [], ex, ro⟩ _ HT4.out.own).mono ?_
        rintro e w5 ⟨v5, rfl, ho5, g5⟩
        obtain ⟨a5, c5, rfl, _, _⟩ := ho5.form
        have HT5 := hide (HT4.out.grown g5)
        have HO5 := hide ho5
        clear ho5 g5 x0 x1 x2 x3 lbx y0 y1 y2 y3
        clear d0 d1 d2 r0 r1 r2 z0 z1 z2 lb3 lb6
        obtain ⟨d0, d1, d2⟩ := res27 HT5.out.env
        obtain ⟨r0, r1, r2⟩ := res27 HT5.out.res
        have z0 := Blk.frozen HT5.out.res 0
        have z1 := Blk.frozen HT5.out.res 1
        have z2 := Blk.frozen HT5.out.res 2
        have lb3 := Blk.lt HT5.out.env
        have lb6 := Blk.lt HT5.out.res
        unfold envV
        go_wp2_with fail
        have hff := fin27 HT5.out.res (.slice a5 (putF vs ⟨m, [], ex, ro⟩).length c5) (.slice none 0 0) (.string ⟨#[]⟩)
        have hgg := gr27 HT5.out.g (b := w.heap.size + 1) (by omega) (.slice a5 (putF vs ⟨m, [], ex, ro⟩).length c5) (.slice none 0 0) (.string ⟨#[]⟩)
        have hoo := far27 HO5.out (own_ne HO5.out HT5.out.res (by decide)) (.slice a5 (putF vs ⟨m, [], ex, ro⟩).length c5) (.slice none 0 0) (.string ⟨#[]⟩)
        generalize ((w5.setCell ⟨w.heap.size + 1, 0, none⟩ (.slice a5 (putF vs ⟨m, [], ex, ro⟩).length c5)).setCell ⟨w.heap.size + 1, 1, none⟩ (.slice none 0 0)).setCell ⟨w.heap.size + 1, 2, none⟩ (.string ⟨#[]⟩) = W9 at hff hgg hoo ⊢
        obtain ⟨f0, f1, f2⟩ := res27 hff
        refine bodyPost_ret (v := .tuple #[.agg #[.slice a5 (putF vs ⟨m, [], ex, ro⟩).length c5, .slice none 0 0, .string ⟨#[]⟩], .int .i64 0]) (by simp [results, Tryd.results29, go_sem, f0, f1, f2]) rfl ?_
        exact ⟨_, rfl, hoo, hgg⟩

set_option maxHeartbeats 2000000 in
theorem rget_any (vs : List V) (m : List UInt8) (v : Value) (w : World) (hw : WF vs) (ho : Own w 35 4 v vs.length (vcs vs) 0) :
    Calls Tryd.prog 30 #[envV v, sv m] w fun e w' => e = .returned (.tuple #[sv (getV vs m), .bool (foundB vs m)]) ∧ w.grownBy w' none := by
  have hl := hw.len
  have Hat := hide (fun W (hW : Own W 35 4 v vs.length (vcs vs) 0) => at_any vs m v W hw.srt (by omega) hW)
  have HO := hide ho
  have HW := hide hw
  obtain ⟨a, cap, rfl, _, _⟩ := ho.form
  unfold sv envV at Hat
  cases hf : foundB vs m with
  | false =>
    have hr : getV vs m = [] := by unfold getV; rw [(put_new hw.srt m hf).1]
    have hat := at_none hf
    rw [hr]
    have Hat := hide (fun W hW => by have := Hat.out W hW; rw [hat] at this; exact this)
    clear ho hf hr hat hw
    unfold sv envV
    go_enter Tryd.func30, Tryd.ntmps30
    go_wp2_with fail
    refine (Hat.out _ (HO.out.alloc _)).mono ?_
    rintro e w1 ⟨rfl, g1⟩
    go_wp2_with fail
    go_ret2
    exact ⟨rfl, none_trans (only_alloc (only_refl w none) _) g1⟩
  | true =>
    obtain ⟨hat, hidx, hux⟩ := at_found hw.srt hf
    have Hat := hide (fun W hW => by have := Hat.out W hW; rw [hat] at this; exact this)
    obtain ⟨g, off, cap2, hv, _, hg, hcs⟩ := v_cells ho (by omega)
    injection hv with hv1 hv2 hv3
    subst hv1; subst hv3
    obtain ⟨c0, c1, c2, c3⟩ := hcs _ hidx
    rw [hux] at c0 c1 c2 c3
    obtain ⟨r, hr⟩ : ∃ r, getV vs m = r := ⟨_, rfl⟩
    have c1 : w.cell? ⟨g, off + idxF m vs * 4 + 1, none⟩ = some (.string ⟨r.toArray⟩) := by rw [← hr]; exact c1
    rw [hr]
    obtain ⟨ix, hix⟩ : ∃ ix, idxF m vs = ix := ⟨_, rfl⟩
    have Hat := hide (fun W hW => by have := Hat.out W hW; rw [hix] at this; exact this)
    rw [hix] at c1 hidx
    have hib : (0 : Int) ≤ ix ∧ (ix : Int) < (vs.length : Int) := by omega
    have q1 : decide ((ix : Int) < 0) = false := decide_eq_false (by omega)
    have C1 := hide c1
    clear ho hf hr hcs hat c0 c1 c2 c3 hix hux hw
    unfold sv envV
    go_enter Tryd.func30, Tryd.ntmps30
    go_wp2_with fail
    refine (Hat.out _ (HO.out.alloc _)).mono ?_
    rintro e w1 ⟨rfl, g1⟩
    have hG := none_trans (only_alloc (only_refl w none) (.cells #[.slice (some ⟨g, off, none⟩) vs.length cap, .slice none 0 0, .string ⟨#[]⟩] 27)) g1
    have c1 := old_cell hG hg C1.out
    obtain ⟨d0, d1, d2⟩ := res27 (Blk.grown (Blk.new w 27 #[.slice (some ⟨g, off, none⟩) vs.length cap, .slice none 0 0, .string ⟨#[]⟩]) g1 (by simp))
    have hg1 : g < w1.heap.size := Nat.lt_of_lt_of_le hg hG.size
    have lb := Blk.lt (Blk.grown (Blk.new w 27 #[.slice (some ⟨g, off, none⟩) vs.length cap, .slice none 0 0, .string ⟨#[]⟩]) g1 (by simp))
    have HG := hide hG
    clear hG g1
    go_wp2_with fail
    go_ret2
    exact ⟨rfl, HG.out⟩

end Go.Proofs.YtdcfpklohleoiaaDoor
