/- The walk of VarsSound. -/
import Derived.Test.YtdcfpklohleoiaaDoorZA
import Derived.Test.YtdcfpklohleoiaaDoorY
import Derived.Test.YtdcfpklohleoiaaDoorN
import Derived.Deep.RegionWith
namespace Go.Proofs.YtdcfpklohleoiaaDoor
open Go.RowKit
set_option maxRecDepth 100000

structure OpV where
  k : Int
  n : List UInt8
  v : List UInt8
  a : Bool
  b : Bool
def OpV.ok (o : OpV) : Prop := o.n.length ≤ 9223372036854775807 ∧ o.v.length ≤ 9223372036854775807
/-- A slice of these steps. -/
def OpL (w : World) (a : Option Addr) (os : List OpV) : Prop := ∀ i (h : i < os.length), ∃ b off, a = some ⟨b, off, none⟩ ∧ b < w.heap.size ∧
  w.cell? ⟨b, off + i * 5, none⟩ = some (.int .i64 (os[i]).k) ∧ w.cell? ⟨b, off + i * 5 + 1, none⟩ = some (.string ⟨(os[i]).n.toArray⟩) ∧ w.cell? ⟨b, off + i * 5 + 2, none⟩ = some (.string ⟨(os[i]).v.toArray⟩) ∧ w.cell? ⟨b, off + i * 5 + 3, none⟩ = some (.bool (os[i]).a) ∧ w.cell? ⟨b, off + i * 5 + 4, none⟩ = some (.bool (os[i]).b)
theorem StrL.grown {w w' : World} {a : Option Addr} {ss : List (List UInt8)} (h : StrL w a ss) (hg : w.grownBy w' none) : StrL w' a ss := fun i hi => by
  obtain ⟨b, off, ha, hb, hc⟩ := h i hi
  exact ⟨b, off, ha, Nat.lt_of_lt_of_le hb hg.size, old_cell hg hb hc⟩
theorem StrL.take {w : World} {a : Option Addr} {ss : List (List UInt8)} (h : StrL w a ss) (n : Nat) : StrL w a (ss.take n) := fun i hi => by
  rw [List.length_take] at hi
  obtain ⟨b, off, ha, hb, hc⟩ := h i (by omega)
  exact ⟨b, off, ha, hb, by rw [List.getElem_take]; exact hc⟩
theorem OpL.grown {w w' : World} {a : Option Addr} {os : List OpV} (h : OpL w a os) (hg : w.grownBy w' none) : OpL w' a os := fun i hi => by
  obtain ⟨b, off, ha, hb, h0, h1, h2, h3, h4⟩ := h i hi
  exact ⟨b, off, ha, Nat.lt_of_lt_of_le hb hg.size, old_cell hg hb h0, old_cell hg hb h1, old_cell hg hb h2, old_cell hg hb h3, old_cell hg hb h4⟩

theorem keeps_get {vs : List V} (h : Srt vs) (K : Int) (n val : List UInt8) (A B : Bool) {a : V} (ha : a ∈ vs) (hr : a.r = true) : foundB (doF vs K n val A B) a.n = true ∧ getV (doF vs K n val A B) a.n = a.v := by
  obtain ⟨b, hb, hv⟩ := do_keeps h K n val A B ha hr
  exact ⟨by unfold foundB; rw [hb]; rfl, by unfold getV lookV; rw [hb]; exact hv⟩
structure CutR (w wc : World) (bx : Nat) (vx : Value) (D : List V) (wb : Nat) (v : Value) (vs : List V) : Prop where
  x : EnvAt wc bx vx D
  o : EnvAt wc wb v vs
  g : w.grownBy wc none
section
variable {w w3 : World} {u1 u2 v : Value} {D vs : List V} {wb b b' : Nat} {p q r p' q' r' : Value}
theorem wy0 (ho : Own w3 35 4 u1 D.length (vcs D) 0) (hE : EnvAt w3 wb v vs) (hg : w.grownBy w3 none) (Y : Obj) : CutR w ((w3.alloc (.cells #[u1, .slice none 0 0, .string ⟨#[]⟩] 27)).alloc Y) w3.heap.size u1 D wb v vs :=
  ⟨⟨(Blk.new w3 27 _).alloc Y, (ho.alloc _).alloc Y⟩, (hE.alloc _).alloc Y, only_alloc (only_alloc hg _) Y⟩
theorem wy1 (ho : Own w3 35 4 u1 D.length (vcs D) 0) (hE : EnvAt w3 wb v vs) (hg : w.grownBy w3 none) (Y : Obj) : CutR w ((w3.alloc Y).alloc (.cells #[u1, .slice none 0 0, .string ⟨#[]⟩] 27)) (w3.heap.size + 1) u1 D wb v vs :=
  ⟨⟨Blk.new1 w3 Y 27 _, (ho.alloc _).alloc _⟩, (hE.alloc _).alloc _, only_alloc (only_alloc hg _) _⟩
theorem EnvAt.far3 (hE : EnvAt w3 wb v vs) (hb : Blk w3 b 27 #[p, q, r]) (hne : wb ≠ b) (u : Value) : EnvAt (((w3.setCell ⟨b, 0, none⟩ u).setCell ⟨b, 1, none⟩ (.slice none 0 0)).setCell ⟨b, 2, none⟩ (.string ⟨#[]⟩)) wb v vs :=
  ⟨Blk.far (p := ⟨b, 2, none⟩) (Blk.far (p := ⟨b, 1, none⟩) (Blk.far (p := ⟨b, 0, none⟩) hE.blk hne u) hne _) hne _, far27 hE.own (own_ne hE.own hb (by decide)) _ _ _⟩
theorem wy2 (hb : Blk w3 b 27 #[p, q, r]) (ho : Own w3 35 4 u1 D.length (vcs D) 0) (hE : EnvAt w3 wb v vs) (hne : wb ≠ b) (hg : w.grownBy w3 none) (hs : w.heap.size ≤ b) (Y : Obj) :
    CutR w ((((w3.setCell ⟨b, 0, none⟩ u1).setCell ⟨b, 1, none⟩ (.slice none 0 0)).setCell ⟨b, 2, none⟩ (.string ⟨#[]⟩)).alloc Y) b u1 D wb v vs :=
  ⟨(EnvAt.put hb ho).alloc Y, (hE.far3 hb hne u1).alloc Y, only_alloc (gr27 hg hs _ _ _) Y⟩
theorem wy4 (hb : Blk w3 b 27 #[p, q, r]) (ho : Own w3 35 4 u1 D.length (vcs D) 0) (hE : EnvAt w3 wb v vs) (hne : wb ≠ b) (hg : w.grownBy w3 none) (hs : w.heap.size ≤ b) :
    CutR w ((((w3.setCell ⟨b, 0, none⟩ u2).setCell ⟨b, 1, none⟩ (.slice none 0 0)).setCell ⟨b, 2, none⟩ (.string ⟨#[]⟩)).alloc (.cells #[u1, .slice none 0 0, .string ⟨#[]⟩] 27)) w3.heap.size u1 D wb v vs := by
  refine ⟨⟨?_, (far27 ho (own_ne ho hb (by decide)) _ _ _).alloc _⟩, (hE.far3 hb hne u2).alloc _, only_alloc (gr27 hg hs _ _ _) _⟩
  have := Blk.new (((w3.setCell ⟨b, 0, none⟩ u2).setCell ⟨b, 1, none⟩ (.slice none 0 0)).setCell ⟨b, 2, none⟩ (.string ⟨#[]⟩)) 27 #[u1, .slice none 0 0, .string ⟨#[]⟩]
  rw [World.size_setCell, World.size_setCell, World.size_setCell] at this
  exact this
theorem wy3 (hb : Blk w3 b 27 #[p, q, r]) (hb' : Blk w3 b' 27 #[p', q', r']) (hbb : b ≠ b') (ho : Own w3 35 4 u1 D.length (vcs D) 0) (hE : EnvAt w3 wb v vs) (hne : wb ≠ b) (hne' : wb ≠ b') (hg : w.grownBy w3 none) (hs : w.heap.size ≤ b) (hs' : w.heap.size ≤ b') :
    CutR w ((((((w3.setCell ⟨b, 0, none⟩ u1).setCell ⟨b, 1, none⟩ (.slice none 0 0)).setCell ⟨b, 2, none⟩ (.string ⟨#[]⟩)).setCell ⟨b', 0, none⟩ u2).setCell ⟨b', 1, none⟩ (.slice none 0 0)).setCell ⟨b', 2, none⟩ (.string ⟨#[]⟩)) b u1 D wb v vs := by
  have h2 : Blk (((w3.setCell ⟨b, 0, none⟩ u1).setCell ⟨b, 1, none⟩ (.slice none 0 0)).setCell ⟨b, 2, none⟩ (.string ⟨#[]⟩)) b' 27 #[p', q', r'] := Blk.far (p := ⟨b, 2, none⟩) (Blk.far (p := ⟨b, 1, none⟩) (Blk.far (p := ⟨b, 0, none⟩) hb' hbb.symm u1) hbb.symm _) hbb.symm _
  exact ⟨(EnvAt.put hb ho).far3 h2 hbb u2, (hE.far3 hb hne u1).far3 h2 hne' u2, gr27 (gr27 hg hs _ _ _) hs' _ _ _⟩
end

theorem ah1 {W0 w3 : World} (b : Nat) (hb : W0.heap.size = b) (hg : (W0.alloc (.cells #[.slice none 0 0, .slice none 0 0, .string ⟨#[]⟩] 27)).grownBy w3 none) : Hid (Blk w3 b 27 #[.slice none 0 0, .slice none 0 0, .string ⟨#[]⟩]) ∧ (w3.cell? ⟨b, 0, none⟩ = some (.slice none 0 0) ∧ w3.cell? ⟨b, 1, none⟩ = some (.slice none 0 0) ∧ w3.cell? ⟨b, 2, none⟩ = some (.string ⟨#[]⟩)) ∧ (w3.frozen? ⟨b, 0, none⟩ = false ∧ w3.frozen? ⟨b, 1, none⟩ = false ∧ w3.frozen? ⟨b, 2, none⟩ = false) ∧ b < w3.heap.size := by
  subst hb
  have h := Blk.grown (Blk.new W0 27 #[.slice none 0 0, .slice none 0 0, .string ⟨#[]⟩]) hg (by simp)
  exact ⟨hide h, res27 h, ⟨Blk.frozen h 0, Blk.frozen h 1, Blk.frozen h 2⟩, Blk.lt h⟩
theorem ah2 {W0 w3 : World} (b : Nat) (hb : W0.heap.size = b) (hg : ((W0.alloc (.cells #[.slice none 0 0, .slice none 0 0, .string ⟨#[]⟩] 27)).alloc (.cells #[.slice none 0 0, .slice none 0 0, .string ⟨#[]⟩] 27)).grownBy w3 none) : (Hid (Blk w3 b 27 #[.slice none 0 0, .slice none 0 0, .string ⟨#[]⟩]) ∧ Hid (Blk w3 (b + 1) 27 #[.slice none 0 0, .slice none 0 0, .string ⟨#[]⟩])) ∧ ((w3.cell? ⟨b, 0, none⟩ = some (.slice none 0 0) ∧ w3.cell? ⟨b, 1, none⟩ = some (.slice none 0 0) ∧ w3.cell? ⟨b, 2, none⟩ = some (.string ⟨#[]⟩)) ∧ (w3.frozen? ⟨b, 0, none⟩ = false ∧ w3.frozen? ⟨b, 1, none⟩ = false ∧ w3.frozen? ⟨b, 2, none⟩ = false) ∧ b < w3.heap.size) ∧ ((w3.cell? ⟨b + 1, 0, none⟩ = some (.slice none 0 0) ∧ w3.cell? ⟨b + 1, 1, none⟩ = some (.slice none 0 0) ∧ w3.cell? ⟨b + 1, 2, none⟩ = some (.string ⟨#[]⟩)) ∧ (w3.frozen? ⟨b + 1, 0, none⟩ = false ∧ w3.frozen? ⟨b + 1, 1, none⟩ = false ∧ w3.frozen? ⟨b + 1, 2, none⟩ = false) ∧ b + 1 < w3.heap.size) := by
  subst hb
  have h := Blk.grown ((Blk.new W0 27 #[.slice none 0 0, .slice none 0 0, .string ⟨#[]⟩]).alloc _) hg (by simp)
  have k := Blk.grown (Blk.new1 W0 _ 27 #[.slice none 0 0, .slice none 0 0, .string ⟨#[]⟩]) hg (by simp)
  exact ⟨⟨hide h, hide k⟩, ⟨res27 h, ⟨Blk.frozen h 0, Blk.frozen h 1, Blk.frozen h 2⟩, Blk.lt h⟩, ⟨res27 k, ⟨Blk.frozen k 0, Blk.frozen k 1, Blk.frozen k 2⟩, Blk.lt k⟩⟩

set_option maxHeartbeats 8000000 in
theorem sound_any (ss : List (List UInt8)) (os : List OpV) (a1 a2 : Option Addr) (cap1 cap2 : Nat) (w : World) (hs : StrL w a1 ss) (hsl : ∀ s ∈ ss, s.length ≤ 9223372036854775807) (ho : OpL w a2 os) (hol : ∀ o ∈ os, o.ok) (hc1 : ss.length ≤ cap1) (hbig1 : ss.length ≤ 9223372036854775807) (hbig : os.length ≤ 9223372036854775807) :
    Calls Tryd.prog 3 #[.slice a1 ss.length cap1, .slice a2 os.length cap2] w fun e w' => e = .returned (.bool true) ∧ w.grownBy w' none := by
  have Hsh := hide (fun w' => shown_any w')
  have hsl2 : ∀ s ∈ ss.take 200, s.length ≤ 9223372036854775807 := fun s h => hsl s (List.mem_of_mem_take h)
  have hlt2 : (ss.take 200).length ≤ 200 := List.length_take_le _ _
  have Hfrom := hide (fun w' (hs : StrL w' a1 (ss.take 200)) => from_any (ss.take 200) a1 cap1 w' hs (by omega) hsl2)
  have HS := hide (hs.take 200)
  have HOP := hide ho
  have HOK := hide hol
  have HWF := hide (wf_from (ss.take 200))
  have HNL := hide (nl_from (ss.take 200) hsl2)
  obtain ⟨E, hE⟩ : ∃ E, fromF (ss.take 200) = E := ⟨_, rfl⟩
  rw [hE] at Hfrom HWF HNL
  unfold EnvIs envV at Hfrom
  obtain ⟨L2, hL2⟩ : ∃ L2, (ss.take 200).length = L2 := ⟨_, rfl⟩
  have hL3 : (ss.length ≤ 200 → ss.length = L2) ∧ (200 < ss.length → 200 = L2) := by
    rw [List.length_take] at hL2
    exact ⟨fun h => by omega, fun h => by omega⟩
  have HL := hide hL3
  rw [hL2] at Hfrom
  clear hs ho hol hsl hE hsl2 hlt2 hL2 hL3
  go_enter Tryd.func3, Tryd.ntmps3
  go_wp2_with fail
  refine (Hsh.out _).mono ?_
  rintro e w1 ⟨rfl, g1⟩
  have HG1 := hide g1
  clear g1
  go_upto_if 19 with (fail)
  go_cut [0] (fun v wc => v = .slice a1 L2 cap1 ∧ w.grownBy wc none)
  case first =>
    by_cases h200 : ss.length ≤ 200
    · have q2 : decide ((200 : Int) < (ss.length : Int)) = false := decide_eq_false (by omega)
      obtain rfl := HL.out.1 h200
      go_wp2_with fail
      go_meet
      case rel => exact ⟨rfl, HG1.out⟩
    · have q2 : decide ((200 : Int) < (ss.length : Int)) = true := decide_eq_true (by omega)
      obtain rfl := HL.out.2 (by omega)
      go_wp2_with fail
      go_meet
      case rel => exact ⟨rfl, HG1.out⟩
  case rest =>
  obtain ⟨rfl, hgc⟩ := hcut
  have HG1 := hide hgc
  clear hgc
  go_wp2_with fail
  refine (Hfrom.out _ (HS.out.grown HG1.out)).mono ?_
  rintro e w2 ⟨v2, rfl, ho2, g2⟩
  obtain ⟨a3, c3, rfl, _, _⟩ := ho2.form
  have HE := hide (⟨Blk.new w2 27 _, ho2.alloc _⟩ : EnvAt (w2.alloc (.cells #[.slice a3 E.length c3, .slice none 0 0, .string ⟨#[]⟩] 27)) w2.heap.size (.slice a3 E.length c3) E)
  have HG := hide (only_alloc (none_trans HG1.out g2) (.cells #[.slice a3 E.length c3, .slice none 0 0, .string ⟨#[]⟩] 27))
  have lw := (none_trans HG1.out g2).size
  clear ho2 g2
  go_wp2_with fail
  go_loopw [7] (fun v7 wr => ∃ (k : Nat) (v : Value) (vs : List V), v7 = .int .i64 k ∧ k ≤ os.length ∧ WF vs ∧ NL vs ∧ EnvAt wr w2.heap.size v vs ∧ w.grownBy wr none) (fun v7 _ => os.length - (intOf v7).toNat)
  case atStart => exact ⟨0, _, _, rfl, Nat.zero_le _, HWF.out, HNL.out, HE.out, HG.out⟩
  case round =>
    obtain ⟨k, v, vs, rfl, hk, hwf, hnl, hEr, hGr⟩ := hrel
    have HWv := hide hwf
    have HNv := hide hnl
    have HEr := hide hEr
    have HGr := hide hGr
    obtain ⟨av, cv, rfl, _, _⟩ := hEr.own.form
    have hvl := hwf.len
    clear hwf hnl hEr hGr
    obtain ⟨d0, d1, d2⟩ := res27 HEr.out.blk
    have lb := Blk.lt HEr.out.blk
    by_cases hlt : k < os.length
    · have q0 : decide ((k : Int) < (os.length : Int)) = true := decide_eq_true (by omega)
      by_cases h100 : k < 100
      · have q1 : decide ((k : Int) < 100) = true := decide_eq_true (by omega)
        have hib : (0 : Int) ≤ k ∧ (k : Int) < (os.length : Int) := by omega
        obtain ⟨b, off, hae, hb, p0, p1, p2, p3, p4⟩ := HOP.out k hlt
        have p0 := old_cell HGr.out hb p0
        have p1 := old_cell HGr.out hb p1
        have p2 := old_cell HGr.out hb p2
        have p3 := old_cell HGr.out hb p3
        have p4 := old_cell HGr.out hb p4
        have hbs : b < wr.heap.size := Nat.lt_of_lt_of_le hb HGr.out.size
        have HOKk := hide (HOK.out _ (List.getElem_mem hlt))
        obtain ⟨o, hoe⟩ : ∃ o, os[k] = o := ⟨_, rfl⟩
        rw [hoe] at p0 p1 p2 p3 p4 HOKk
        clear hoe
        obtain ⟨K, n, val, A, B⟩ := o
        simp only [] at p0 p1 p2 p3 p4
        subst hae
        have Hdo := hide (fun W (hW : wr.grownBy W none) => does_any vs K n val A B (.slice av vs.length cv) (.slice av vs.length cv) W HWv.out (HEr.out.own.none_ hW) (HEr.out.own.none_ hW) HOKk.out.1 HOKk.out.2)
        unfold DoPost envV at Hdo
        obtain ⟨D, hD⟩ : ∃ D, doF vs K n val A B = D := ⟨_, rfl⟩
        rw [hD] at Hdo
        have HWD := hide (by have := wf_do HWv.out K n val A B; rw [hD] at this; exact this)
        have HND := hide (by have := nl_do HNv.out K n val A B HOKk.out.1; rw [hD] at this; exact this)
        have HR := hide (fun v W hW => right_any D v W HWD.out HND.out hW)
        unfold envV at HR
        have hD' := hide hD
        clear hD
        go_wp2_with fail
        go_cut [8] (fun v wc => ∃ (bx : Nat) (vx : Value), v = .pointer (some ⟨bx, 0, none⟩) ∧ CutR w wc bx vx D w2.heap.size (.slice av vs.length cv) vs)
        case first =>
         have Hk : Hid (∀ W : World, wr.grownBy W none → (W.cell? ⟨w2.heap.size, 0, none⟩ = some (.slice av vs.length cv) ∧ W.cell? ⟨w2.heap.size, 1, none⟩ = some (.slice none 0 0) ∧ W.cell? ⟨w2.heap.size, 2, none⟩ = some (.string ⟨#[]⟩) ∧ W.cell? ⟨b, off + k * 5, none⟩ = some (.int .i64 K) ∧ W.cell? ⟨b, off + k * 5 + 1, none⟩ = some (.string ⟨n.toArray⟩) ∧ W.cell? ⟨b, off + k * 5 + 2, none⟩ = some (.string ⟨val.toArray⟩) ∧ W.cell? ⟨b, off + k * 5 + 3, none⟩ = some (.bool A) ∧ W.cell? ⟨b, off + k * 5 + 4, none⟩ = some (.bool B))) :=
           hide (fun W hg => ⟨old_cell hg lb d0, old_cell hg lb d1, old_cell hg lb d2, old_cell hg hbs p0, old_cell hg hbs p1, old_cell hg hbs p2, old_cell hg hbs p3, old_cell hg hbs p4⟩)
         go_region_held3 (fun W => W.cell? ⟨w2.heap.size, 0, none⟩ = some (.slice av vs.length cv) ∧ W.cell? ⟨w2.heap.size, 1, none⟩ = some (.slice none 0 0) ∧ W.cell? ⟨w2.heap.size, 2, none⟩ = some (.string ⟨#[]⟩) ∧ W.cell? ⟨b, off + k * 5, none⟩ = some (.int .i64 K) ∧ W.cell? ⟨b, off + k * 5 + 1, none⟩ = some (.string ⟨n.toArray⟩) ∧ W.cell? ⟨b, off + k * 5 + 2, none⟩ = some (.string ⟨val.toArray⟩) ∧ W.cell? ⟨b, off + k * 5 + 3, none⟩ = some (.bool A) ∧ W.cell? ⟨b, off + k * 5 + 4, none⟩ = some (.bool B))
           (first | go_keep | exact Hk.out _ (by repeat' (first | (with_reducible exact only_refl _ _) | (with_reducible refine none_setCell ?_ ?_ _) | (with_reducible refine none_trans ?_ hg) | (with_reducible refine only_drew ?_) | (with_reducible refine only_alloc ?_ _) | omega | (simp; done) | (simp; omega))))
           ((go_at_call 9; refine (Hdo.out _ (by repeat' (first | (with_reducible exact only_refl _ _) | (with_reducible refine only_drew ?_) | (with_reducible refine only_alloc ?_ _)))).mono ?_; rintro e w3 ⟨u1, u2, rfl, ho1, ho2, hg⟩; (obtain ⟨b1, k1, rfl, _, _⟩ := ho1.form); (obtain ⟨b2, k2, rfl, _, _⟩ := ho2.form); (have HG3 := hide (none_trans (show wr.grownBy _ none by repeat' (first | (with_reducible exact only_refl _ _) | (with_reducible refine only_drew ?_) | (with_reducible refine only_alloc ?_ _))) hg)); (have HO1 := hide ho1); (first | (have hz := ah2 (W0 := wr) (w3 := w3) wr.heap.size rfl (by exact hg); obtain ⟨⟨HBx, HBy⟩, ⟨⟨x0, x1, x2⟩, ⟨zx0, zx1, zx2⟩, lx⟩, ⟨y0, y1, y2⟩, ⟨zy0, zy1, zy2⟩, ly⟩ := hz) | (have hz := ah2 (W0 := wr.drew) (w3 := w3) wr.heap.size rfl (by exact hg); obtain ⟨⟨HBx, HBy⟩, ⟨⟨x0, x1, x2⟩, ⟨zx0, zx1, zx2⟩, lx⟩, ⟨y0, y1, y2⟩, ⟨zy0, zy1, zy2⟩, ly⟩ := hz) | (have hz := ah2 (W0 := wr.drew.drew) (w3 := w3) wr.heap.size rfl (by exact hg); obtain ⟨⟨HBx, HBy⟩, ⟨⟨x0, x1, x2⟩, ⟨zx0, zx1, zx2⟩, lx⟩, ⟨y0, y1, y2⟩, ⟨zy0, zy1, zy2⟩, ly⟩ := hz) | (have hz := ah1 (W0 := wr) (w3 := w3) wr.heap.size rfl (by exact hg); obtain ⟨HBx, ⟨x0, x1, x2⟩, ⟨zx0, zx1, zx2⟩, lx⟩ := hz) | (have hz := ah1 (W0 := wr.drew) (w3 := w3) wr.heap.size rfl (by exact hg); obtain ⟨HBx, ⟨x0, x1, x2⟩, ⟨zx0, zx1, zx2⟩, lx⟩ := hz) | (have hz := ah1 (W0 := wr.drew.drew) (w3 := w3) wr.heap.size rfl (by exact hg); obtain ⟨HBx, ⟨x0, x1, x2⟩, ⟨zx0, zx1, zx2⟩, lx⟩ := hz) | skip)))
         all_goals try go_wp2_with fail
         all_goals go_meet
         all_goals have HE3 := hide (HEr.out.grown HG3.out)
         all_goals have HG4 := hide (none_trans HGr.out HG3.out)
         all_goals have hsz := HGr.out.size
         all_goals (case' rel => skip)
         · refine ⟨w3.heap.size, .slice b1 D.length k1, rfl, ?_⟩
           exact wy0 HO1.out HE3.out HG4.out _
         · refine ⟨w3.heap.size + 1, .slice b1 D.length k1, rfl, ?_⟩
           exact wy1 HO1.out HE3.out HG4.out _
         · refine ⟨wr.heap.size, .slice b1 D.length k1, rfl, ?_⟩
           exact wy2 HBx.out HO1.out HE3.out (by omega) HG4.out hsz _
         · refine ⟨wr.heap.size, .slice b1 D.length k1, rfl, ?_⟩
           exact wy3 HBx.out HBy.out (by omega) HO1.out HE3.out (by omega) (by omega) HG4.out hsz (by omega)
         · refine ⟨w3.heap.size, .slice b1 D.length k1, rfl, ?_⟩
           exact wy4 HBx.out HO1.out HE3.out (by omega) HG4.out hsz
         · refine ⟨wr.heap.size + 1, .slice b1 D.length k1, rfl, ?_⟩
           exact wy3 HBy.out HBx.out (by omega) HO1.out HE3.out (by omega) (by omega) HG4.out (by omega) hsz
        case rest =>
         obtain ⟨bx, vx, rfl, hEx, hEo, hgw⟩ := hcut
         have HEx := hide hEx
         have HEo := hide hEo
         have HGw := hide hgw
         obtain ⟨ax, cx, rfl, _, _⟩ := hEx.own.form
         clear hEx hEo hgw
         clear d0 d1 d2 lb
         obtain ⟨d0, d1, d2⟩ := res27 HEx.out.blk
         have lb := Blk.lt HEx.out.blk
         go_wp2_with fail
         refine (HR.out _ _ HEx.out.own).mono ?_
         rintro e w4 ⟨rfl, g4⟩
         have HEx4 := hide (HEx.out.grown g4)
         have HEo4 := hide (HEo.out.grown g4)
         have HG4 := hide (none_trans HGw.out g4)
         clear g4 d0 d1 d2 lb
         go_wp2_with fail
         go_loopw [12] (fun v12 wi => ∃ j : Nat, v12 = .int .i64 j ∧ j ≤ vs.length ∧ w4.grownBy wi none) (fun v12 _ => vs.length - (intOf v12).toNat)
         case atStart => exact ⟨0, rfl, Nat.zero_le _, only_refl w4 none⟩
         case round =>
          obtain ⟨j, rfl, hj, hgi⟩ := hrel
          have HGi := hide hgi
          have HEx5 := hide (HEx4.out.grown hgi)
          have HEo5 := hide (HEo4.out.grown hgi)
          clear hgi
          obtain ⟨d0, d1, d2⟩ := res27 HEx5.out.blk
          obtain ⟨e0, e1, e2⟩ := res27 HEo5.out.blk
          have lbx := Blk.lt HEx5.out.blk
          have lbo := Blk.lt HEo5.out.blk
          by_cases hlj : j < vs.length
          · have qj : decide ((j : Int) < (vs.length : Int)) = true := decide_eq_true (by omega)
            have hjb : (0 : Int) ≤ j ∧ (j : Int) < (vs.length : Int) := by omega
            obtain ⟨g, og, cg, hve, _, hg, hcs⟩ := v_cells HEo5.out.own (by omega)
            injection hve with hv1 hv2 hv3
            subst hv1
            obtain ⟨c0, c1, c2, c3⟩ := hcs j hlj
            have HKp := hide (fun hr => keeps_get HWv.out.srt K n val A B (List.getElem_mem hlj) hr)
            obtain ⟨x, hx⟩ : ∃ x, vs[j] = x := ⟨_, rfl⟩
            rw [hx] at c0 c1 c2 c3 HKp
            clear hx hcs hv3
            obtain ⟨xn, xv, xx, xr⟩ := x
            simp only [] at c0 c1 c2 c3 HKp
            have HGt := hide (fun W (hW : Own W 35 4 (.slice ax D.length cx) D.length (vcs D) 0) => get_any D xn (.slice ax D.length cx) W HWD.out hW)
            obtain ⟨rv, hrv⟩ : ∃ rv, getV D xn = rv := ⟨_, rfl⟩
            obtain ⟨fb, hfb⟩ : ∃ fb, foundB D xn = fb := ⟨_, rfl⟩
            have HKp := hide (fun hr => by have := HKp.out hr; rw [hD'.out, hrv, hfb] at this; exact this)
            rw [hrv, hfb] at HGt
            unfold envV sv at HGt
            clear hrv hfb
            go_wp2_with fail
            refine (HGt.out _ (HEx5.out.own.alloc _)).mono ?_
            rintro e w6 ⟨rfl, g6⟩
            have HG6 := hide (none_trans HGi.out (none_trans (only_alloc (only_refl _ none) _) g6))
            have hb6 := Blk.grown (Blk.new wr 35 #[.string ⟨xn.toArray⟩, .string ⟨xv.toArray⟩, .bool xx, .bool xr]) g6 (by simp)
            obtain ⟨f0, f1, f2, f3⟩ := res35 hb6
            have lf := Blk.lt hb6
            clear g6 hb6
            cases xr with
            | true =>
              obtain ⟨rfl, rfl⟩ := HKp.out rfl
              have qs : (rv == rv) = true := by simp
              have qs2 : (rv != rv) = false := by simp
              go_wp2_with fail
              go_roundw
              case rel => exact ⟨j + 1, by go_num, by omega, HG6.out⟩
              case measure => simp [intOf]; omega
            | false =>
              go_wp2_with fail
              go_roundw
              case rel => exact ⟨j + 1, by go_num, by omega, HG6.out⟩
              case measure => simp [intOf]; omega
          · obtain rfl : j = vs.length := by omega
            have qj : decide ((vs.length : Int) < (vs.length : Int)) = false := decide_eq_false (by omega)
            have zo0 := Blk.frozen HEo5.out.blk 0
            have zo1 := Blk.frozen HEo5.out.blk 1
            have zo2 := Blk.frozen HEo5.out.blk 2
            have hsz := (none_trans HG4.out HGi.out).size
            go_wp2_with fail
            go_roundw
            case rel => exact ⟨k + 1, .slice ax D.length cx, D, by go_num, by omega, HWD.out, HND.out, EnvAt.put HEo5.out.blk HEx5.out.own, gr27 (none_trans HG4.out HGi.out) (by omega) _ _ _⟩
            case measure => simp [intOf]; omega
      · have q1 : decide ((k : Int) < 100) = false := decide_eq_false (by omega)
        go_wp2_with fail
        go_ret
        exact ⟨rfl, HGr.out⟩
    · obtain rfl : k = os.length := by omega
      have q0 : decide ((os.length : Int) < (os.length : Int)) = false := decide_eq_false (by omega)
      go_wp2_with fail
      go_ret
      exact ⟨rfl, HGr.out⟩

end Go.Proofs.YtdcfpklohleoiaaDoor
