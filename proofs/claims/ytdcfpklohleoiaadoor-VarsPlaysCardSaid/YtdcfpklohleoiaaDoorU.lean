/- The document's Set, Mark. -/
import Derived.Test.YtdcfpklohleoiaaDoorR
import Derived.Test.YtdcfpklohleoiaaDoorT
namespace Go.Proofs.YtdcfpklohleoiaaDoor
open Go.RowKit
set_option maxRecDepth 100000

structure Two (w W : World) (v : Value) (vs : List V) : Prop where
  g : w.grownBy W none
  env : Blk W w.heap.size 27 #[v, .slice none 0 0, .string ⟨#[]⟩]
  res : Blk W (w.heap.size + 1) 27 #[.slice none 0 0, .slice none 0 0, .string ⟨#[]⟩]
  own : Own W 35 4 v vs.length (vcs vs) 0
theorem Two.start {w : World} {v : Value} {vs : List V} (h : Own w 35 4 v vs.length (vcs vs) 0) : Two w ((w.alloc (.cells #[v, .slice none 0 0, .string ⟨#[]⟩] 27)).alloc (.cells #[.slice none 0 0, .slice none 0 0, .string ⟨#[]⟩] 27)) v vs :=
  ⟨only_alloc (only_alloc (only_refl w none) _) _, (Blk.new w 27 _).alloc _, Blk.new1 w _ 27 _, h.alloc2 _ _⟩
theorem Two.grown {w W W' : World} {v : Value} {vs : List V} (h : Two w W v vs) (hg : W.grownBy W' none) : Two w W' v vs :=
  ⟨none_trans h.g hg, Blk.grown h.env hg (by simp), Blk.grown h.res hg (by simp), h.own.none_ hg⟩
theorem Two.alloc {w W : World} {v : Value} {vs : List V} (h : Two w W v vs) (o : Obj) : Two w (W.alloc o) v vs :=
  ⟨only_alloc h.g o, h.env.alloc o, h.res.alloc o, h.own.alloc o⟩
theorem Two.set {w W : World} {v : Value} {vs : List V} (h : Two w W v vs) (h0 : Own w 35 4 v vs.length (vcs vs) 0) {p : Addr} (hp : w.heap.size + 1 < p.block) (u : Value) : Two w (W.setCell p u) v vs :=
  ⟨none_setCell h.g (by omega) u, Blk.far h.env (by omega) u, Blk.far h.res (by omega) u, h.own.far (fun e => by have := h0.lt e; omega) u⟩
theorem fin35 {w : World} {b : Nat} {x y z t : Value} (h : Blk w b 35 #[x, y, z, t]) (x' y' z' t' : Value) : Blk ((((w.setCell ⟨b, 0, none⟩ x').setCell ⟨b, 1, none⟩ y').setCell ⟨b, 2, none⟩ z').setCell ⟨b, 3, none⟩ t') b 35 #[x', y', z', t'] := (((Blk.set_ h 0 _).set_ 1 _).set_ 2 _).set_ 3 _
theorem at_neg {vs : List V} {m : List UInt8} (h : foundB vs m = false) : atF vs m = -1 := at_none h

set_option maxHeartbeats 4000000 in
theorem rset_any (vs : List V) (m : List UInt8) (val : List UInt8) (v : Value) (w : World) (hw : WF vs) (ho : Own w 35 4 v vs.length (vcs vs) 0) (hm : m.length ≤ 9223372036854775807) (hval : val.length ≤ 9223372036854775807) :
    Calls Tryd.prog 27 #[envV v, sv m, sv val] w (EnvPost w (setF vs m val)) := by
  have hl := hw.len
  have h1 := sz m
  have Hn := hide (fun W => rname_any m W hm)
  have Hat := hide (fun W (hW : Own W 35 4 v vs.length (vcs vs) 0) => at_any vs m v W hw.srt (by omega) hW)
  have Hput := hide (fun u W (hW : Own W 35 4 v vs.length (vcs vs) 0) => put_all vs u v W hw.srt (by omega) hW)
  have HW := hide hw
  have HO := hide ho
  obtain ⟨a, cap, rfl, _, _⟩ := ho.form
  unfold sv at Hn
  unfold sv envV at Hat
  unfold envV at Hput
  obtain ⟨R, hR⟩ : ∃ R, setF vs m val = R := ⟨_, rfl⟩
  rw [hR]
  have HR := hide hR
  have h2 := sz val
  clear hw hR
  unfold sv envV
  cases hN : nameB m with
  | false =>
    clear ho
    have Hn := hide (fun W => by have := Hn.out W; rw [hN] at this; exact this)
    have hr : R = (vs, 1) := by rw [← HR.out]; unfold setF; rw [if_pos hN]
    have HN := hide hN
    clear hN
    subst hr
    go_enter Tryd.func27, Tryd.ntmps27
    go_wp2_with fail
    refine (Hn.out _).mono ?_
    rintro e w1 ⟨rfl, g1⟩
    have HT := hide (Two.grown (Two.start HO.out) g1)
    clear g1
    obtain ⟨d0, d1, d2⟩ := res27 HT.out.env
    obtain ⟨r0, r1, r2⟩ := res27 HT.out.res
    have z0 := Blk.frozen HT.out.res 0
    have z1 := Blk.frozen HT.out.res 1
    have z2 := Blk.frozen HT.out.res 2
    have lb3 := Blk.lt HT.out.env
    have lb6 := Blk.lt HT.out.res
    go_wp2_with fail
    have hff := fin27 HT.out.res (.slice a vs.length cap) (.slice none 0 0) (.string ⟨#[]⟩)
    have hgg := gr27 HT.out.g (b := w.heap.size + 1) (by omega) (.slice a vs.length cap) (.slice none 0 0) (.string ⟨#[]⟩)
    have hoo := far27 HT.out.own (own_ne HT.out.own HT.out.res (by decide)) (.slice a vs.length cap) (.slice none 0 0) (.string ⟨#[]⟩)
    generalize ((w1.setCell ⟨w.heap.size + 1, 0, none⟩ (.slice a vs.length cap)).setCell ⟨w.heap.size + 1, 1, none⟩ (.slice none 0 0)).setCell ⟨w.heap.size + 1, 2, none⟩ (.string ⟨#[]⟩) = W9 at hff hgg hoo ⊢
    obtain ⟨f0, f1, f2⟩ := res27 hff
    refine bodyPost_ret (v := .tuple #[.agg #[.slice a vs.length cap, .slice none 0 0, .string ⟨#[]⟩], .int .i64 1]) (by simp [results, Tryd.results27, go_sem, f0, f1, f2]) rfl ?_
    exact ⟨_, rfl, hoo, hgg⟩
  | true =>
    have Hn := hide (fun W => by have := Hn.out W; rw [hN] at this; exact this)
    have HN := hide hN
    clear hN
    cases hf : foundB vs m with
    | true =>
      obtain ⟨hat, hidx, hux⟩ := at_found HW.out.srt hf
      obtain ⟨g, off, cap2, hv, _, hg, hcs⟩ := v_cells ho (by omega)
      injection hv with hv1 hv2 hv3
      subst hv1; subst hv3
      obtain ⟨c0, c1, c2, c3⟩ := hcs _ hidx
      rw [hux] at c0 c1 c2 c3
      obtain ⟨U, hU⟩ : ∃ U, lookV vs m = U := ⟨_, rfl⟩
      obtain ⟨ix, hix⟩ : ∃ ix, idxF m vs = ix := ⟨_, rfl⟩
      rw [hix] at hat hidx c0 c1 c2 c3
      rw [hU] at c0 c1 c2 c3
      have Hat := hide (fun W hW => by have := Hat.out W hW; rw [hat] at this; exact this)
      obtain ⟨un, uv, ux, ur⟩ := U
      simp only [] at c0 c1 c2 c3
      have C0 := hide c0
      have C1 := hide c1
      have C2 := hide c2
      have C3 := hide c3
      have HU := hide hU
      have HF := hide hf
      have q0 : decide ((0 : Int) ≤ (ix : Int)) = true := decide_eq_true (by omega)
      have q1 : decide ((ix : Int) < 0) = false := decide_eq_false (by omega)
      have hib : (0 : Int) ≤ ix ∧ (ix : Int) < (vs.length : Int) := by omega
      clear ho hcs c0 c1 c2 c3 hux hat hix hU hf
      cases ur with
      | true =>
        have hr : R = (vs, 21) := by rw [← HR.out]; unfold setF; rw [if_neg (by rw [HN.out]; exact Bool.noConfusion), if_pos (by rw [HU.out])]
        subst hr
        go_enter Tryd.func27, Tryd.ntmps27
        go_wp2_with fail
        refine (Hn.out _).mono ?_
        rintro e w1 ⟨rfl, g1⟩
        have HT := hide (Two.grown (Two.start HO.out) g1)
        clear g1
        obtain ⟨d0, d1, d2⟩ := res27 HT.out.env
        obtain ⟨r0, r1, r2⟩ := res27 HT.out.res
        have z0 := Blk.frozen HT.out.res 0
        have z1 := Blk.frozen HT.out.res 1
        have z2 := Blk.frozen HT.out.res 2
        have lb3 := Blk.lt HT.out.env
        have lb6 := Blk.lt HT.out.res
        go_wp2_with fail
        refine (Hat.out _ (HT.out.own.alloc _)).mono ?_
        rintro e w2 ⟨rfl, g2⟩
        have HT2 := hide ((HT.out.alloc (.cells #[.string ⟨m.toArray⟩, .string ⟨#[]⟩, .bool false, .bool false] 35)).grown g2)
        have HX := hide (Blk.grown (Blk.new w1 35 #[.string ⟨m.toArray⟩, .string ⟨#[]⟩, .bool false, .bool false]) g2 (by simp))
        have lx : w.heap.size + 1 < w1.heap.size := Blk.lt HT.out.res
        have lw := g2.size
        clear g2
        clear d0 d1 d2 r0 r1 r2 z0 z1 z2 lb3 lb6
        obtain ⟨d0, d1, d2⟩ := res27 HT2.out.env
        obtain ⟨r0, r1, r2⟩ := res27 HT2.out.res
        have z0 := Blk.frozen HT2.out.res 0
        have z1 := Blk.frozen HT2.out.res 1
        have z2 := Blk.frozen HT2.out.res 2
        have lb3 := Blk.lt HT2.out.env
        have lb6 := Blk.lt HT2.out.res
        obtain ⟨x0, x1, x2, x3⟩ := res35 HX.out
        have lbx := Blk.lt HX.out
        have y0 := Blk.frozen HX.out 0
        have y1 := Blk.frozen HX.out 1
        have y2 := Blk.frozen HX.out 2
        have y3 := Blk.frozen HX.out 3
        have hgw : g < w2.heap.size := Nat.lt_of_lt_of_le hg HT2.out.g.size
        have c0 := old_cell HT2.out.g hg C0.out
        have c1 := old_cell HT2.out.g hg C1.out
        have c2 := old_cell HT2.out.g hg C2.out
        have c3 := old_cell HT2.out.g hg C3.out
        go_upto_region 8 with fail
        have HX3 := hide (fin35 HX.out (.string ⟨un.toArray⟩) (.string ⟨uv.toArray⟩) (.bool ux) (.bool true))
        have HT3 := hide ((((HT2.out.set HO.out (p := ⟨w1.heap.size, 0, none⟩) lx (.string ⟨un.toArray⟩)).set HO.out (p := ⟨w1.heap.size, 1, none⟩) lx (.string ⟨uv.toArray⟩)).set HO.out (p := ⟨w1.heap.size, 2, none⟩) lx (.bool ux)).set HO.out (p := ⟨w1.heap.size, 3, none⟩) lx (.bool true))
        generalize (((w2.setCell ⟨w1.heap.size, 0, none⟩ (.string ⟨un.toArray⟩)).setCell ⟨w1.heap.size, 1, none⟩ (.string ⟨uv.toArray⟩)).setCell ⟨w1.heap.size, 2, none⟩ (.bool ux)).setCell ⟨w1.heap.size, 3, none⟩ (.bool true) = W3 at HX3 HT3 ⊢
        clear c0 c1 c2 c3 hgw x0 x1 x2 x3 lbx y0 y1 y2 y3
        clear d0 d1 d2 r0 r1 r2 z0 z1 z2 lb3 lb6
        obtain ⟨d0, d1, d2⟩ := res27 HT3.out.env
        obtain ⟨r0, r1, r2⟩ := res27 HT3.out.res
        have z0 := Blk.frozen HT3.out.res 0
        have z1 := Blk.frozen HT3.out.res 1
        have z2 := Blk.frozen HT3.out.res 2
        have lb3 := Blk.lt HT3.out.env
        have lb6 := Blk.lt HT3.out.res
        obtain ⟨x0, x1, x2, x3⟩ := res35 HX3.out
        have lbx := Blk.lt HX3.out
        have y0 := Blk.frozen HX3.out 0
        have y1 := Blk.frozen HX3.out 1
        have y2 := Blk.frozen HX3.out 2
        have y3 := Blk.frozen HX3.out 3
        go_wp2_with fail
        have hff := fin27 HT3.out.res (.slice (some ⟨g, off, none⟩) vs.length cap) (.slice none 0 0) (.string ⟨#[]⟩)
        have hgg := gr27 HT3.out.g (b := w.heap.size + 1) (by omega) (.slice (some ⟨g, off, none⟩) vs.length cap) (.slice none 0 0) (.string ⟨#[]⟩)
        have hoo := far27 HT3.out.own (own_ne HT3.out.own HT3.out.res (by decide)) (.slice (some ⟨g, off, none⟩) vs.length cap) (.slice none 0 0) (.string ⟨#[]⟩)
        generalize ((W3.setCell ⟨w.heap.size + 1, 0, none⟩ (.slice (some ⟨g, off, none⟩) vs.length cap)).setCell ⟨w.heap.size + 1, 1, none⟩ (.slice none 0 0)).setCell ⟨w.heap.size + 1, 2, none⟩ (.string ⟨#[]⟩) = W9 at hff hgg hoo ⊢
        obtain ⟨f0, f1, f2⟩ := res27 hff
        refine bodyPost_ret (v := .tuple #[.agg #[.slice (some ⟨g, off, none⟩) vs.length cap, .slice none 0 0, .string ⟨#[]⟩], .int .i64 21]) (by simp [results, Tryd.results27, go_sem, f0, f1, f2]) rfl ?_
        exact ⟨_, rfl, hoo, hgg⟩
      | false =>
        by_cases hlong : 1024 < val.length
        · have qL : decide ((1024 : Int) < (val.length : Int)) = true := decide_eq_true (by omega)
          have hr : R = (vs, 10) := by rw [← HR.out]; unfold setF; rw [if_neg (by rw [HN.out]; exact Bool.noConfusion), if_neg (by rw [HU.out]; exact Bool.noConfusion), if_pos hlong]
          subst hr
          go_enter Tryd.func27, Tryd.ntmps27
          go_wp2_with fail
          refine (Hn.out _).mono ?_
          rintro e w1 ⟨rfl, g1⟩
          have HT := hide (Two.grown (Two.start HO.out) g1)
          clear g1
          obtain ⟨d0, d1, d2⟩ := res27 HT.out.env
          obtain ⟨r0, r1, r2⟩ := res27 HT.out.res
          have z0 := Blk.frozen HT.out.res 0
          have z1 := Blk.frozen HT.out.res 1
          have z2 := Blk.frozen HT.out.res 2
          have lb3 := Blk.lt HT.out.env
          have lb6 := Blk.lt HT.out.res
          go_wp2_with fail
          refine (Hat.out _ (HT.out.own.alloc _)).mono ?_
          rintro e w2 ⟨rfl, g2⟩
          have HT2 := hide ((HT.out.alloc (.cells #[.string ⟨m.toArray⟩, .string ⟨#[]⟩, .bool false, .bool false] 35)).grown g2)
          have HX := hide (Blk.grown (Blk.new w1 35 #[.string ⟨m.toArray⟩, .string ⟨#[]⟩, .bool false, .bool false]) g2 (by simp))
          have lx : w.heap.size + 1 < w1.heap.size := Blk.lt HT.out.res
          have lw := g2.size
          clear g2
          clear d0 d1 d2 r0 r1 r2 z0 z1 z2 lb3 lb6
          obtain ⟨d0, d1, d2⟩ := res27 HT2.out.env
          obtain ⟨r0, r1, r2⟩ := res27 HT2.out.res
          have z0 := Blk.frozen HT2.out.res 0
          have z1 := Blk.frozen HT2.out.res 1
          have z2 := Blk.frozen HT2.out.res 2
          have lb3 := Blk.lt HT2.out.env
          have lb6 := Blk.lt HT2.out.res
          obtain ⟨x0, x1, x2, x3⟩ := res35 HX.out
          have lbx := Blk.lt HX.out
          have y0 := Blk.frozen HX.out 0
          have y1 := Blk.frozen HX.out 1
          have y2 := Blk.frozen HX.out 2
          have y3 := Blk.frozen HX.out 3
          have hgw : g < w2.heap.size := Nat.lt_of_lt_of_le hg HT2.out.g.size
          have c0 := old_cell HT2.out.g hg C0.out
          have c1 := old_cell HT2.out.g hg C1.out
          have c2 := old_cell HT2.out.g hg C2.out
          have c3 := old_cell HT2.out.g hg C3.out
          go_upto_region 8 with fail
          have HX3 := hide (fin35 HX.out (.string ⟨un.toArray⟩) (.string ⟨uv.toArray⟩) (.bool ux) (.bool false))
          have HT3 := hide ((((HT2.out.set HO.out (p := ⟨w1.heap.size, 0, none⟩) lx (.string ⟨un.toArray⟩)).set HO.out (p := ⟨w1.heap.size, 1, none⟩) lx (.string ⟨uv.toArray⟩)).set HO.out (p := ⟨w1.heap.size, 2, none⟩) lx (.bool ux)).set HO.out (p := ⟨w1.heap.size, 3, none⟩) lx (.bool false))
          generalize (((w2.setCell ⟨w1.heap.size, 0, none⟩ (.string ⟨un.toArray⟩)).setCell ⟨w1.heap.size, 1, none⟩ (.string ⟨uv.toArray⟩)).setCell ⟨w1.heap.size, 2, none⟩ (.bool ux)).setCell ⟨w1.heap.size, 3, none⟩ (.bool false) = W3 at HX3 HT3 ⊢
          clear c0 c1 c2 c3 hgw x0 x1 x2 x3 lbx y0 y1 y2 y3
          clear d0 d1 d2 r0 r1 r2 z0 z1 z2 lb3 lb6
          obtain ⟨d0, d1, d2⟩ := res27 HT3.out.env
          obtain ⟨r0, r1, r2⟩ := res27 HT3.out.res
          have z0 := Blk.frozen HT3.out.res 0
          have z1 := Blk.frozen HT3.out.res 1
          have z2 := Blk.frozen HT3.out.res 2
          have lb3 := Blk.lt HT3.out.env
          have lb6 := Blk.lt HT3.out.res
          obtain ⟨x0, x1, x2, x3⟩ := res35 HX3.out
          have lbx := Blk.lt HX3.out
          have y0 := Blk.frozen HX3.out 0
          have y1 := Blk.frozen HX3.out 1
          have y2 := Blk.frozen HX3.out 2
          have y3 := Blk.frozen HX3.out 3
          go_wp2_with fail
          have hff := fin27 HT3.out.res (.slice (some ⟨g, off, none⟩) vs.length cap) (.slice none 0 0) (.string ⟨#[]⟩)
          have hgg := gr27 HT3.out.g (b := w.heap.size + 1) (by omega) (.slice (some ⟨g, off, none⟩) vs.length cap) (.slice none 0 0) (.string ⟨#[]⟩)
          have hoo := far27 HT3.out.own (own_ne HT3.out.own HT3.out.res (by decide)) (.slice (some ⟨g, off, none⟩) vs.length cap) (.slice none 0 0) (.string ⟨#[]⟩)
          generalize ((W3.setCell ⟨w.heap.size + 1, 0, none⟩ (.slice (some ⟨g, off, none⟩) vs.length cap)).setCell ⟨w.heap.size + 1, 1, none⟩ (.slice none 0 0)).setCell ⟨w.heap.size + 1, 2, none⟩ (.string ⟨#[]⟩) = W9 at hff hgg hoo ⊢
          obtain ⟨f0, f1, f2⟩ := res27 hff
          refine bodyPost_ret (v := .tuple #[.agg #[.slice (some ⟨g, off, none⟩) vs.length cap, .slice none 0 0, .string ⟨#[]⟩], .int .i64 10]) (by simp [results, Tryd.results27, go_sem, f0, f1, f2]) rfl ?_
          exact ⟨_, rfl, hoo, hgg⟩
        · have qL : decide ((1024 : Int) < (val.length : Int)) = false := decide_eq_false (by omega)
          have hr : R = (putF vs ⟨un, val, ux, false⟩, 0) := by rw [← HR.out]; unfold setF; rw [if_neg (by rw [HN.out]; exact Bool.noConfusion), if_neg (by rw [HU.out]; exact Bool.noConfusion), if_neg hlong, if_neg (fun h => by rw [HF.out] at h; cases h.1), HU.out]
          subst hr
          go_enter Tryd.func27, Tryd.ntmps27
          go_wp2_with fail
          refine (Hn.out _).mono ?_
          rintro e w1 ⟨rfl, g1⟩
          have HT := hide (Two.grown (Two.start HO.out) g1)
          clear g1
          obtain ⟨d0, d1, d2⟩ := res27 HT.out.env
          obtain ⟨r0, r1, r2⟩ := res27 HT.out.res
          have z0 := Blk.frozen HT.out.res 0
          have z1 := Blk.frozen HT.out.res 1
          have z2 := Blk.frozen HT.out.res 2
          have lb3 := Blk.lt HT.out.env
          have lb6 := Blk.lt HT.out.res
          go_wp2_with fail
          refine (Hat.out _ (HT.out.own.alloc _)).mono ?_
          rintro e w2 ⟨rfl, g2⟩
          have HT2 := hide ((HT.out.alloc (.cells #[.string ⟨m.toArray⟩, .string ⟨#[]⟩, .bool false, .bool false] 35)).grown g2)
          have HX := hide (Blk.grown (Blk.new w1 35 #[.string ⟨m.toArray⟩, .string ⟨#[]⟩, .bool false, .bool false]) g2 (by simp))
          have lx : w.heap.size + 1 < w1.heap.size := Blk.lt HT.out.res
          have lw := g2.size
          clear g2
          clear d0 d1 d2 r0 r1 r2 z0 z1 z2 lb3 lb6
          obtain ⟨d0, d1, d2⟩ := res27 HT2.out.env
          obtain ⟨r0, r1, r2⟩ := res27 HT2.out.res
          have z0 := Blk.frozen HT2.out.res 0
          have z1 := Blk.frozen HT2.out.res 1
          have z2 := Blk.frozen HT2.out.res 2
          have lb3 := Blk.lt HT2.out.env
          have lb6 := Blk.lt HT2.out.res
          obtain ⟨x0, x1, x2, x3⟩ := res35 HX.out
          have lbx := Blk.lt HX.out
          have y0 := Blk.frozen HX.out 0
          have y1 := Blk.frozen HX.out 1
          have y2 := Blk.frozen HX.out 2
          have y3 := Blk.frozen HX.out 3
          have hgw : g < w2.heap.size := Nat.lt_of_lt_of_le hg HT2.out.g.size
          have c0 := old_cell HT2.out.g hg C0.out
          have c1 := old_cell HT2.out.g hg C1.out
          have c2 := old_cell HT2.out.g hg C2.out
          have c3 := old_cell HT2.out.g hg C3.out
          go_upto_region 8 with fail
          have HX3 := hide (fin35 HX.out (.string ⟨un.toArray⟩) (.string ⟨uv.toArray⟩) (.bool ux) (.bool false))
          have HT3 := hide ((((HT2.out.set HO.out (p := ⟨w1.heap.size, 0, none⟩) lx (.string ⟨un.toArray⟩)).set HO.out (p := ⟨w1.heap.size, 1, none⟩) lx (.string ⟨uv.toArray⟩)).set HO.out (p := ⟨w1.heap.size, 2, none⟩) lx (.bool ux)).set HO.out (p := ⟨w1.heap.size, 3, none⟩) lx (.bool false))
          generalize (((w2.setCell ⟨w1.heap.size, 0, none⟩ (.string ⟨un.toArray⟩)).setCell ⟨w1.heap.size, 1, none⟩ (.string ⟨uv.toArray⟩)).setCell ⟨w1.heap.size, 2, none⟩ (.bool ux)).setCell ⟨w1.heap.size, 3, none⟩ (.bool false) = W3 at HX3 HT3 ⊢
          clear c0 c1 c2 c3 hgw x0 x1 x2 x3 lbx y0 y1 y2 y3
          clear d0 d1 d2 r0 r1 r2 z0 z1 z2 lb3 lb6
          obtain ⟨d0, d1, d2⟩ := res27 HT3.out.env
          obtain ⟨r0, r1, r2⟩ := res27 HT3.out.res
          have z0 := Blk.frozen HT3.out.res 0
          have z1 := Blk.frozen HT3.out.res 1
          have z2 := Blk.frozen HT3.out.res 2
          have lb3 := Blk.lt HT3.out.env
          have lb6 := Blk.lt HT3.out.res
          obtain ⟨x0, x1, x2, x3⟩ := res35 HX3.out
          have lbx := Blk.lt HX3.out
          have y0 := Blk.frozen HX3.out 0
          have y1 := Blk.frozen HX3.out 1
          have y2 := Blk.frozen HX3.out 2
          have y3 := Blk.frozen HX3.out 3
          go_wp2_with fail
          have HT4 := hide (HT3.out.set HO.out (p := ⟨w1.heap.size, 1, none⟩) lx (.string ⟨val.toArray⟩))
          refine (Hput.out ⟨un, val, ux, false⟩ _ HT4.out.own).mono ?_
          rintro e w5 ⟨v5, rfl, ho5, g5⟩
          obtain ⟨a5, c5, rfl, _, _⟩ := ho5.form
          have HT5 := hide (HT4.out.grown g5)
          have HO5 := hide ho5
          clear ho5 g5 x0 x1 x2 x3 lbx y0 y1 y2 y3
          clear d0 d1 d2 r0 r1 r2 z0 z1 z2 lb3 lb6
          obtain ⟨d0, d1, d2⟩ := res27 HT5.out.env
          obtain ⟨r0, r1, r2⟩ := res27 HT5.out.res
          have z0 := Blk.frozen HT5.out.res 0
          have z1 := Blk.frozen HT5.out.res 1
          have z2 := Blk.frozen HT5.out.res 2
          have lb3 := Blk.lt HT5.out.env
          have lb6 := Blk.lt HT5.out.res
          unfold envV
          go_wp2_with fail
          have hff := fin27 HT5.out.res (.slice a5 (putF vs ⟨un, val, ux, false⟩).length c5) (.slice none 0 0) (.string ⟨#[]⟩)
          have hgg := gr27 HT5.out.g (b := w.heap.size + 1) (by omega) (.slice a5 (putF vs ⟨un, val, ux, false⟩).length c5) (.slice none 0 0) (.string ⟨#[]⟩)
          have hoo := far27 HO5.out (own_ne HO5.out HT5.out.res (by decide)) (.slice a5 (putF vs ⟨un, val, ux, false⟩).length c5) (.slice none 0 0) (.string ⟨#[]⟩)
          generalize ((w5.setCell ⟨w.heap.size + 1, 0, none⟩ (.slice a5 (putF vs ⟨un, val, ux, false⟩).length c5)).setCell ⟨w.heap.size + 1, 1, none⟩ (.slice none 0 0)).setCell ⟨w.heap.size + 1, 2, none⟩ (.string ⟨#[]⟩) = W9 at hff hgg hoo ⊢
          obtain ⟨f0, f1, f2⟩ := res27 hff
          refine bodyPost_ret (v := .tuple #[.agg #[.slice a5 (putF vs ⟨un, val, ux, false⟩).length c5, .slice none 0 0, .string ⟨#[]⟩], .int .i64 0]) (by simp [results, Tryd.results27, go_sem, f0, f1, f2]) rfl ?_
          exact ⟨_, rfl, hoo, hgg⟩
    | false =>
      have hat := at_none hf
      have hU := (put_new HW.out.srt m hf).1
      have Hat := hide (fun W hW => by have := Hat.out W hW; rw [hat] at this; exact this)
      have HU := hide hU
      have HF := hide hf
      have q0 : decide ((0 : Int) ≤ (-1 : Int)) = false := by decide
      have q1 : decide ((-1 : Int) < 0) = true := by decide
      clear ho hat hU hf
      by_cases hlong : 1024 < val.length
      · have qL : decide ((1024 : Int) < (val.length : Int)) = true := decide_eq_true (by omega)
        have hr : R = (vs, 10) := by rw [← HR.out]; unfold setF; rw [if_neg (by rw [HN.out]; exact Bool.noConfusion), if_neg (by rw [HU.out]; exact Bool.noConfusion), if_pos hlong]
        subst hr
        go_enter Tryd.func27, Tryd.ntmps27
        go_wp2_with fail
        refine (Hn.out _).mono ?_
        rintro e w1 ⟨rfl, g1⟩
        have HT := hide (Two.grown (Two.start HO.out) g1)
        clear g1
        obtain ⟨d0, d1, d2⟩ := res27 HT.out.env
        obtain ⟨r0, r1, r2⟩ := res27 HT.out.res
        have z0 := Blk.frozen HT.out.res 0
        have z1 := Blk.frozen HT.out.res 1
        have z2 := Blk.frozen HT.out.res 2
        have lb3 := Blk.lt HT.out.env
        have lb6 := Blk.lt HT.out.res
        go_wp2_with fail
        refine (Hat.out _ (HT.out.own.alloc _)).mono ?_
        rintro e w2 ⟨rfl, g2⟩
        have HT2 := hide ((HT.out.alloc (.cells #[.string ⟨m.toArray⟩, .string ⟨#[]⟩, .bool false, .bool false] 35)).grown g2)
        have HX := hide (Blk.grown (Blk.new w1 35 #[.string ⟨m.toArray⟩, .string ⟨#[]⟩, .bool false, .bool false]) g2 (by simp))
        have lx : w.heap.size + 1 < w1.heap.size := Blk.lt HT.out.res
        have lw := g2.size
        clear g2
        clear d0 d1 d2 r0 r1 r2 z0 z1 z2 lb3 lb6
        obtain ⟨d0, d1, d2⟩ := res27 HT2.out.env
        obtain ⟨r0, r1, r2⟩ := res27 HT2.out.res
        have z0 := Blk.frozen HT2.out.res 0
        have z1 := Blk.frozen HT2.out.res 1
        have z2 := Blk.frozen HT2.out.res 2
        have lb3 := Blk.lt HT2.out.env
        have lb6 := Blk.lt HT2.out.res
        obtain ⟨x0, x1, x2, x3⟩ := res35 HX.out
        have lbx := Blk.lt HX.out
        have y0 := Blk.frozen HX.out 0
        have y1 := Blk.frozen HX.out 1
        have y2 := Blk.frozen HX.out 2
        have y3 := Blk.frozen HX.out 3
        go_wp2_with fail
        have hff := fin27 HT2.out.res (.slice a vs.length cap) (.slice none 0 0) (.string ⟨#[]⟩)
        have hgg := gr27 HT2.out.g (b := w.heap.size + 1) (by omega) (.slice a vs.length cap) (.slice none 0 0) (.string ⟨#[]⟩)
        have hoo := far27 HT2.out.own (own_ne HT2.out.own HT2.out.res (by decide)) (.slice a vs.length cap) (.slice none 0 0) (.string ⟨#[]⟩)
        generalize ((w2.setCell ⟨w.heap.size + 1, 0, none⟩ (.slice a vs.length cap)).setCell ⟨w.heap.size + 1, 1, none⟩ (.slice none 0 0)).setCell ⟨w.heap.size + 1, 2, none⟩ (.string ⟨#[]⟩) = W9 at hff hgg hoo ⊢
        obtain ⟨f0, f1, f2⟩ := res27 hff
        refine bodyPost_ret (v := .tuple #[.agg #[.slice a vs.length cap, .slice none 0 0, .string ⟨#[]⟩], .int .i64 10]) (by simp [results, Tryd.results27, go_sem, f0, f1, f2]) rfl ?_
        exact ⟨_, rfl, hoo, hgg⟩
      · have qL : decide ((1024 : Int) < (val.length : Int)) = false := decide_eq_false (by omega)
        by_cases h40 : 40 ≤ vs.length
        · have q4 : decide ((40 : Int) ≤ (vs.length : Int)) = true := decide_eq_true (by omega)
          have hr : R = (vs, 9) := by rw [← HR.out]; unfold setF; rw [if_neg (by rw [HN.out]; exact Bool.noConfusion), if_neg (by rw [HU.out]; exact Bool.noConfusion), if_neg hlong, if_pos ⟨HF.out, h40⟩]
          subst hr
          go_enter Tryd.func27, Tryd.ntmps27
          go_wp2_with fail
          refine (Hn.out _).mono ?_
          rintro e w1 ⟨rfl, g1⟩
          have HT := hide (Two.grown (Two.start HO.out) g1)
          clear g1
          obtain ⟨d0, d1, d2⟩ := res27 HT.out.env
          obtain ⟨r0, r1, r2⟩ := res27 HT.out.res
          have z0 := Blk.frozen HT.out.res 0
          have z1 := Blk.frozen HT.out.res 1
          have z2 := Blk.frozen HT.out.res 2
          have lb3 := Blk.lt HT.out.env
          have lb6 := Blk.lt HT.out.res
          go_wp2_with fail
          refine (Hat.out _ (HT.out.own.alloc _)).mono ?_
          rintro e w2 ⟨rfl, g2⟩
          have HT2 := hide ((HT.out.alloc (.cells #[.string ⟨m.toArray⟩, .string ⟨#[]⟩, .bool false, .bool false] 35)).grown g2)
          have HX := hide (Blk.grown (Blk.new w1 35 #[.string ⟨m.toArray⟩, .string ⟨#[]⟩, .bool false, .bool false]) g2 (by simp))
          have lx : w.heap.size + 1 < w1.heap.size := Blk.lt HT.out.res
          have lw := g2.size
          clear g2
          clear d0 d1 d2 r0 r1 r2 z0 z1 z2 lb3 lb6
          obtain ⟨d0, d1, d2⟩ := res27 HT2.out.env
          obtain ⟨r0, r1, r2⟩ := res27 HT2.out.res
          have z0 := Blk.frozen HT2.out.res 0
          have z1 := Blk.frozen HT2.out.res 1
          have z2 := Blk.frozen HT2.out.res 2
          have lb3 := Blk.lt HT2.out.env
          have lb6 := Blk.lt HT2.out.res
          obtain ⟨x0, x1, x2, x3⟩ := res35 HX.out
          have lbx := Blk.lt HX.out
          have y0 := Blk.frozen HX.out 0
          have y1 := Blk.frozen HX.out 1
          have y2 := Blk.frozen HX.out 2
          have y3 := Blk.frozen HX.out 3
          go_wp2_with fail
          have hff := fin27 HT2.out.res (.slice a vs.length cap) (.slice none 0 0) (.string ⟨#[]⟩)
          have hgg := gr27 HT2.out.g (b := w.heap.size + 1) (by omega) (.slice a vs.length cap) (.slice none 0 0) (.string ⟨#[]⟩)
          have hoo := far27 HT2.out.own (own_ne HT2.out.own HT2.out.res (by decide)) (.slice a vs.length cap) (.slice none 0 0) (.string ⟨#[]⟩)
          generalize ((w2.setCell ⟨w.heap.size + 1, 0, none⟩ (.slice a vs.length cap)).setCell ⟨w.heap.size + 1, 1, none⟩ (.slice none 0 0)).setCell ⟨w.heap.size + 1, 2, none⟩ (.string ⟨#[]⟩) = W9 at hff hgg hoo ⊢
          obtain ⟨f0, f1, f2⟩ := res27 hff
          refine bodyPost_ret (v := .tuple #[.agg #[.slice a vs.length cap, .slice none 0 0, .string ⟨#[]⟩], .int .i64 9]) (by simp [results, Tryd.results27, go_sem, f0, f1, f2]) rfl ?_
          exact ⟨_, rfl, hoo, hgg⟩
        · have q4 : decide ((40 : Int) ≤ (vs.length : Int)) = false := decide_eq_false (by omega)
          have hr : R = (putF vs ⟨m, val, false, false⟩, 0) := by rw [← HR.out]; unfold setF; rw [if_neg (by rw [HN.out]; exact Bool.noConfusion), if_neg (by rw [HU.out]; exact Bool.noConfusion), if_neg hlong, if_neg (fun h => h40 h.2), HU.out]
          subst hr
          go_enter Tryd.func27, Tryd.ntmps27
          go_wp2_with fail
          refine (Hn.out _).mono ?_
          rintro e w1 ⟨rfl, g1⟩
          have HT := hide (Two.grown (Two.start HO.out) g1)
          clear g1
          obtain ⟨d0, d1, d2⟩ := res27 HT.out.env
          obtain ⟨r0, r1, r2⟩ := res27 HT.out.res
          have z0 := Blk.frozen HT.out.res 0
          have z1 := Blk.frozen HT.out.res 1
          have z2 := Blk.frozen HT.out.res 2
          have lb3 := Blk.lt HT.out.env
          have lb6 := Blk.lt HT.out.res
          go_wp2_with fail
          refine (Hat.out _ (HT.out.own.alloc _)).mono ?_
          rintro e w2 ⟨rfl, g2⟩
          have HT2 := hide ((HT.out.alloc (.cells #[.string ⟨m.toArray⟩, .string ⟨#[]⟩, .bool false, .bool false] 35)).grown g2)
          have HX := hide (Blk.grown (Blk.new w1 35 #[.string ⟨m.toArray⟩, .string ⟨#[]⟩, .bool false, .bool false]) g2 (by simp))
          have lx : w.heap.size + 1 < w1.heap.size := Blk.lt HT.out.res
          have lw := g2.size
          clear g2
          clear d0 d1 d2 r0 r1 r2 z0 z1 z2 lb3 lb6
          obtain ⟨d0, d1, d2⟩ := res27 HT2.out.env
          obtain ⟨r0, r1, r2⟩ := res27 HT2.out.res
          have z0 := Blk.frozen HT2.out.res 0
          have z1 := Blk.frozen HT2.out.res 1
          have z2 := Blk.frozen HT2.out.res 2
          have lb3 := Blk.lt HT2.out.env
          have lb6 := Blk.lt HT2.out.res
          obtain ⟨x0, x1, x2, x3⟩ := res35 HX.out
          have lbx := Blk.lt HX.out
          have y0 := Blk.frozen HX.out 0
          have y1 := Blk.frozen HX.out 1
          have y2 := Blk.frozen HX.out 2
          have y3 := Blk.frozen HX.out 3
          go_wp2_with fail
          have HT4 := hide (HT2.out.set HO.out (p := ⟨w1.heap.size, 1, none⟩) lx (.string ⟨val.toArray⟩))
          refine (Hput.out ⟨m, val, false, false⟩ _ HT4.out.own).mono ?_
          rintro e w5 ⟨v5, rfl, ho5, g5⟩
          obtain ⟨a5, c5, rfl, _, _⟩ := ho5.form
          have HT5 := hide (HT4.out.grown g5)
          have HO5 := hide ho5
          clear ho5 g5 x0 x1 x2 x3 lbx y0 y1 y2 y3
          clear d0 d1 d2 r0 r1 r2 z0 z1 z2 lb3 lb6
          obtain ⟨d0, d1, d2⟩ := res27 HT5.out.env
          obtain ⟨r0, r1, r2⟩ := res27 HT5.out.res
          have z0 := Blk.frozen HT5.out.res 0
          have z1 := Blk.frozen HT5.out.res 1
          have z2 := Blk.frozen HT5.out.res 2
          have lb3 := Blk.lt HT5.out.env
          have lb6 := Blk.lt HT5.out.res
          unfold envV
          go_wp2_with fail
          have hff := fin27 HT5.out.res (.slice a5 (putF vs ⟨m, val, false, false⟩).length c5) (.slice none 0 0) (.string ⟨#[]⟩)
          have hgg := gr27 HT5.out.g (b := w.heap.size + 1) (by omega) (.slice a5 (putF vs ⟨m, val, false, false⟩).length c5) (.slice none 0 0) (.string ⟨#[]⟩)
          have hoo := far27 HO5.out (own_ne HO5.out HT5.out.res (by decide)) (.slice a5 (putF vs ⟨m, val, false, false⟩).length c5) (.slice none 0 0) (.string ⟨#[]⟩)
          generalize ((w5.setCell ⟨w.heap.size + 1, 0, none⟩ (.slice a5 (putF vs ⟨m, val, false, false⟩).length c5)).setCell ⟨w.heap.size + 1, 1, none⟩ (.slice none 0 0)).setCell ⟨w.heap.size + 1, 2, none⟩ (.string ⟨#[]⟩) = W9 at hff hgg hoo ⊢
          obtain ⟨f0, f1, f2⟩ := res27 hff
          refine bodyPost_ret (v := .tuple #[.agg #[.slice a5 (putF vs ⟨m, val, false, false⟩).length c5, .slice none 0 0, .string ⟨#[]⟩], .int .i64 0]) (by simp [results, Tryd.results27, go_sem, f0, f1, f2]) rfl ?_
          exact ⟨_, rfl, hoo, hgg⟩

end Go.Proofs.YtdcfpklohleoiaaDoor
