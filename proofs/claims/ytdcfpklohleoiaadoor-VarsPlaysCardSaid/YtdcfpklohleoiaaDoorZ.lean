/- does: a step on both. -/
import Derived.Test.YtdcfpklohleoiaaDoorW
import Derived.Test.YtdcfpklohleoiaaDoorX
import Derived.Test.YtdcfpklohleoiaaDoorM
import Derived.BigRegion
namespace Go.Proofs.YtdcfpklohleoiaaDoor
open Go.RowKit
set_option maxRecDepth 100000

structure DoAt (w W : World) (v1 v2 : Value) (vs : List V) (K : Int) (n val : List UInt8) (A B : Bool) : Prop where
  g : w.grownBy W none
  e1 : Blk W w.heap.size 27 #[v1, .slice none 0 0, .string ⟨#[]⟩]
  e2 : Blk W (w.heap.size + 1) 27 #[v2, .slice none 0 0, .string ⟨#[]⟩]
  op : Blk W (w.heap.size + 1 + 1) 32 #[.int .i64 K, .string ⟨n.toArray⟩, .string ⟨val.toArray⟩, .bool A, .bool B]
  r1 : Blk W (w.heap.size + 1 + 1 + 1) 27 #[.slice none 0 0, .slice none 0 0, .string ⟨#[]⟩]
  r2 : Blk W (w.heap.size + 1 + 1 + 1 + 1) 27 #[.slice none 0 0, .slice none 0 0, .string ⟨#[]⟩]
  o1 : Own W 35 4 v1 vs.length (vcs vs) 0
  o2 : Own W 35 4 v2 vs.length (vcs vs) 0
variable {w W W' : World} {v1 v2 : Value} {vs : List V} {K : Int} {n val : List UInt8} {A B : Bool}
theorem DoAt.grown (h : DoAt w W v1 v2 vs K n val A B) (hg : W.grownBy W' none) : DoAt w W' v1 v2 vs K n val A B :=
  ⟨none_trans h.g hg, Blk.grown h.e1 hg (by simp), Blk.grown h.e2 hg (by simp), Blk.grown h.op hg (by simp), Blk.grown h.r1 hg (by simp), Blk.grown h.r2 hg (by simp), h.o1.none_ hg, h.o2.none_ hg⟩
theorem DoAt.alloc (h : DoAt w W v1 v2 vs K n val A B) (o : Obj) : DoAt w (W.alloc o) v1 v2 vs K n val A B :=
  ⟨only_alloc h.g o, h.e1.alloc o, h.e2.alloc o, h.op.alloc o, h.r1.alloc o, h.r2.alloc o, h.o1.alloc o, h.o2.alloc o⟩
theorem Blk.new3 (w : World) (A B C : Obj) (t : TypeId) (cs : Array Value) : Blk ((((w.alloc A).alloc B).alloc C).alloc (.cells cs t)) (w.heap.size + 1 + 1 + 1) t cs := by
  have := Blk.new (((w.alloc A).alloc B).alloc C) t cs
  rw [World.size_alloc, World.size_alloc, World.size_alloc] at this
  exact this
theorem Blk.new4 (w : World) (A B C D : Obj) (t : TypeId) (cs : Array Value) : Blk (((((w.alloc A).alloc B).alloc C).alloc D).alloc (.cells cs t)) (w.heap.size + 1 + 1 + 1 + 1) t cs := by
  have := Blk.new ((((w.alloc A).alloc B).alloc C).alloc D) t cs
  rw [World.size_alloc, World.size_alloc, World.size_alloc, World.size_alloc] at this
  exact this
theorem DoAt.start (h1 : Own w 35 4 v1 vs.length (vcs vs) 0) (h2 : Own w 35 4 v2 vs.length (vcs vs) 0) (K : Int) (n val : List UInt8) (A B : Bool) : DoAt w (((((w.alloc (.cells #[v1, .slice none 0 0, .string ⟨#[]⟩] 27)).alloc (.cells #[v2, .slice none 0 0, .string ⟨#[]⟩] 27)).alloc (.cells #[.int .i64 K, .string ⟨n.toArray⟩, .string ⟨val.toArray⟩, .bool A, .bool B] 32)).alloc (.cells #[.slice none 0 0, .slice none 0 0, .string ⟨#[]⟩] 27)).alloc (.cells #[.slice none 0 0, .slice none 0 0, .string ⟨#[]⟩] 27)) v1 v2 vs K n val A B :=
  ⟨only_alloc (only_alloc (only_alloc (only_alloc (only_alloc (only_refl w none) _) _) _) _) _, ((((Blk.new w 27 _).alloc _).alloc _).alloc _).alloc _, (((Blk.new1 w _ 27 _).alloc _).alloc _).alloc _, ((Blk.new2 w _ _ 32 _).alloc _).alloc _, (Blk.new3 w _ _ _ 27 _).alloc _, Blk.new4 w _ _ _ _ 27 _, (((((h1.alloc _).alloc _).alloc _).alloc _).alloc _), (((((h2.alloc _).alloc _).alloc _).alloc _).alloc _)⟩
theorem res32 {w : World} {b : Nat} {x y z t s : Value} (h : Blk w b 32 #[x, y, z, t, s]) : w.cell? ⟨b, 0, none⟩ = some x ∧ w.cell? ⟨b, 1, none⟩ = some y ∧ w.cell? ⟨b, 2, none⟩ = some z ∧ w.cell? ⟨b, 3, none⟩ = some t ∧ w.cell? ⟨b, 4, none⟩ = some s := ⟨Blk.cell h 0, Blk.cell h 1, Blk.cell h 2, Blk.cell h 3, Blk.cell h 4⟩

theorem fin2 {W : World} {b1 b2 : Nat} {p q r p' q' r' : Value} (h1 : Blk W b1 27 #[p, q, r]) (h2 : Blk W b2 27 #[p', q', r']) (hne : b1 ≠ b2) (x y z x' y' z' : Value) :
    Blk ((((((W.setCell ⟨b1, 0, none⟩ x).setCell ⟨b1, 1, none⟩ y).setCell ⟨b1, 2, none⟩ z).setCell ⟨b2, 0, none⟩ x').setCell ⟨b2, 1, none⟩ y').setCell ⟨b2, 2, none⟩ z').drew b1 27 #[x, y, z] ∧ Blk ((((((W.setCell ⟨b1, 0, none⟩ x).setCell ⟨b1, 1, none⟩ y).setCell ⟨b1, 2, none⟩ z).setCell ⟨b2, 0, none⟩ x').setCell ⟨b2, 1, none⟩ y').setCell ⟨b2, 2, none⟩ z').drew b2 27 #[x', y', z'] :=
  ⟨Blk.drew (Blk.far (p := ⟨b2, 2, none⟩) (Blk.far (p := ⟨b2, 1, none⟩) (Blk.far (p := ⟨b2, 0, none⟩) (fin27 h1 x y z) hne x') hne y') hne z'), Blk.drew (fin27 (Blk.far (p := ⟨b1, 2, none⟩) (Blk.far (p := ⟨b1, 1, none⟩) (Blk.far (p := ⟨b1, 0, none⟩) h2 hne.symm x) hne.symm y) hne.symm z) x' y' z')⟩
/-- Two envs of these, and true. -/
def DoPost (w : World) (R : List V) (e : Ending) (w' : World) : Prop := ∃ u1 u2, e = .returned (.tuple #[envV u1, envV u2, .bool true]) ∧ Own w' 35 4 u1 R.length (vcs R) 0 ∧ Own w' 35 4 u2 R.length (vcs R) 0 ∧ w.grownBy w' none

set_option maxHeartbeats 4000000 in
theorem does_set (vs : List V) (n val : List UInt8) (A B : Bool) (v1 v2 : Value) (w : World) (hw : WF vs) (ho1 : Own w 35 4 v1 vs.length (vcs vs) 0) (ho2 : Own w 35 4 v2 vs.length (vcs vs) 0) (hn : n.length ≤ 9223372036854775807) (hval : val.length ≤ 9223372036854775807) :
    Calls Tryd.prog 9 #[envV v1, envV v2, .agg #[.int .i64 1, .string ⟨n.toArray⟩, .string ⟨val.toArray⟩, .bool A, .bool B]] w (DoPost w (setF vs n val).1) := by
  have hP := fun v W (hW : Own W 35 4 v vs.length (vcs vs) 0) => set_any vs n val v W hw hW hn hval
  have hD := fun v W (hW : Own W 35 4 v vs.length (vcs vs) 0) => rset_any vs n val v W hw hW hn hval
  obtain ⟨⟨R, code⟩, hR⟩ : ∃ R, setF vs n val = R := ⟨_, rfl⟩
  rw [hR] at hP hD ⊢
  have HP := hide hP
  have HD := hide hD
  unfold EnvPost envV sv at HP HD
  simp only [] at HP HD
  have HS := hide (DoAt.start ho1 ho2 1 n val A B)
  obtain ⟨a1, c1, rfl, _, _⟩ := ho1.form
  obtain ⟨a2, c2, rfl, _, _⟩ := ho2.form
  clear hP hD ho1 ho2 hR
  unfold envV
  go_enter Tryd.func9, Tryd.ntmps9
  obtain ⟨d0, d1, d2⟩ := res27 HS.out.e1
  obtain ⟨e0, e1, e2⟩ := res27 HS.out.e2
  obtain ⟨p0, p1, p2, p3, p4⟩ := res32 HS.out.op
  obtain ⟨r0, r1, r2⟩ := res27 HS.out.r1
  obtain ⟨s0, s1, s2⟩ := res27 HS.out.r2
  have zr0 := Blk.frozen HS.out.r1 0
  have zs0 := Blk.frozen HS.out.r2 0
  have zr1 := Blk.frozen HS.out.r1 1
  have zs1 := Blk.frozen HS.out.r2 1
  have zr2 := Blk.frozen HS.out.r1 2
  have zs2 := Blk.frozen HS.out.r2 2
  have l1 := Blk.lt HS.out.e1
  have l2 := Blk.lt HS.out.e2
  have l3 := Blk.lt HS.out.op
  have l4 := Blk.lt HS.out.r1
  have l5 := Blk.lt HS.out.r2
  go_wp2_with fail
  refine (HP.out _ _ HS.out.o1).mono ?_
  rintro e w1 ⟨u1, rfl, ho1, g1⟩
  obtain ⟨b1, k1, rfl, _, _⟩ := ho1.form
  have HS2 := hide ((HS.out.grown g1).alloc (.cells #[.slice b1 R.length k1, .slice none 0 0, .string ⟨#[]⟩] 27))
  have HO1 := hide (ho1.alloc (.cells #[.slice b1 R.length k1, .slice none 0 0, .string ⟨#[]⟩] 27))
  have HX := hide (Blk.new w1 27 #[.slice b1 R.length k1, .slice none 0 0, .string ⟨#[]⟩])
  have lx : w.heap.size + 1 + 1 + 1 + 1 < w1.heap.size := Nat.lt_of_lt_of_le l5 g1.size
  clear g1 ho1
  clear d0 d1 d2 e0 e1 e2 p0 p1 p2 p3 p4 r0 r1 r2 s0 s1 s2 zr0 zr1 zr2 zs0 zs1 zs2 l1 l2 l3 l4 l5
  obtain ⟨d0, d1, d2⟩ := res27 HS2.out.e1
  obtain ⟨e0, e1, e2⟩ := res27 HS2.out.e2
  obtain ⟨p0, p1, p2, p3, p4⟩ := res32 HS2.out.op
  obtain ⟨r0, r1, r2⟩ := res27 HS2.out.r1
  obtain ⟨s0, s1, s2⟩ := res27 HS2.out.r2
  have zr0 := Blk.frozen HS2.out.r1 0
  have zs0 := Blk.frozen HS2.out.r2 0
  have zr1 := Blk.frozen HS2.out.r1 1
  have zs1 := Blk.frozen HS2.out.r2 1
  have zr2 := Blk.frozen HS2.out.r1 2
  have zs2 := Blk.frozen HS2.out.r2 2
  have l1 := Blk.lt HS2.out.e1
  have l2 := Blk.lt HS2.out.e2
  have l3 := Blk.lt HS2.out.op
  have l4 := Blk.lt HS2.out.r1
  have l5 := Blk.lt HS2.out.r2
  try unfold envV
  go_wp2_with fail
  refine (HD.out _ _ HS2.out.o2).mono ?_
  rintro e w2 ⟨u2, rfl, ho2, g2⟩
  obtain ⟨b2, k2, rfl, _, _⟩ := ho2.form
  have HS3 := hide ((HS2.out.grown g2).alloc (.cells #[.slice b2 R.length k2, .slice none 0 0, .string ⟨#[]⟩] 27))
  have HO2 := hide (ho2.alloc (.cells #[.slice b2 R.length k2, .slice none 0 0, .string ⟨#[]⟩] 27))
  have HO1 := hide ((HO1.out.none_ g2).alloc (.cells #[.slice b2 R.length k2, .slice none 0 0, .string ⟨#[]⟩] 27))
  have HX := hide ((Blk.grown HX.out g2 (by simp)).alloc (.cells #[.slice b2 R.length k2, .slice none 0 0, .string ⟨#[]⟩] 27))
  have HY := hide (Blk.new w2 27 #[.slice b2 R.length k2, .slice none 0 0, .string ⟨#[]⟩])
  have ly : w1.heap.size < w2.heap.size := Nat.lt_of_lt_of_le (by rw [World.size_alloc]; omega) g2.size
  clear g2 ho2
  clear d0 d1 d2 e0 e1 e2 p0 p1 p2 p3 p4 r0 r1 r2 s0 s1 s2 zr0 zr1 zr2 zs0 zs1 zs2 l1 l2 l3 l4 l5
  try unfold envV
  go_upto_region 5 with fail
  generalize w2.alloc (.cells #[.slice b2 R.length k2, .slice none 0 0, .string ⟨#[]⟩] 27) = W at HS3 HO2 HO1 HX HY ⊢
  obtain ⟨d0, d1, d2⟩ := res27 HS3.out.e1
  obtain ⟨e0, e1, e2⟩ := res27 HS3.out.e2
  obtain ⟨p0, p1, p2, p3, p4⟩ := res32 HS3.out.op
  obtain ⟨r0, r1, r2⟩ := res27 HS3.out.r1
  obtain ⟨s0, s1, s2⟩ := res27 HS3.out.r2
  have zr0 := Blk.frozen HS3.out.r1 0
  have zs0 := Blk.frozen HS3.out.r2 0
  have zr1 := Blk.frozen HS3.out.r1 1
  have zs1 := Blk.frozen HS3.out.r2 1
  have zr2 := Blk.frozen HS3.out.r1 2
  have zs2 := Blk.frozen HS3.out.r2 2
  have l1 := Blk.lt HS3.out.e1
  have l2 := Blk.lt HS3.out.e2
  have l3 := Blk.lt HS3.out.op
  have l4 := Blk.lt HS3.out.r1
  have l5 := Blk.lt HS3.out.r2
  obtain ⟨x0, x1, x2⟩ := res27 HX.out
  obtain ⟨y0, y1, y2⟩ := res27 HY.out
  have lx2 := Blk.lt HX.out
  have ly2 := Blk.lt HY.out
  go_region
  go_wp2_with fail
  have hff := fin2 HS3.out.r1 HS3.out.r2 (by omega) (.slice b1 R.length k1) (.slice none 0 0) (.string ⟨#[]⟩) (.slice b2 R.length k2) (.slice none 0 0) (.string ⟨#[]⟩)
  have hgg := only_drew (gr27 (gr27 HS3.out.g (b := w.heap.size + 1 + 1 + 1) (by omega) (.slice b1 R.length k1) (.slice none 0 0) (.string ⟨#[]⟩)) (b := w.heap.size + 1 + 1 + 1 + 1) (by omega) (.slice b2 R.length k2) (.slice none 0 0) (.string ⟨#[]⟩))
  have ho1 := Own.drew (far27 (far27 HO1.out (own_ne HO1.out HS3.out.r1 (by decide)) (.slice b1 R.length k1) (.slice none 0 0) (.string ⟨#[]⟩)) (own_ne HO1.out HS3.out.r2 (by decide)) (.slice b2 R.length k2) (.slice none 0 0) (.string ⟨#[]⟩))
  have ho2 := Own.drew (far27 (far27 HO2.out (own_ne HO2.out HS3.out.r1 (by decide)) (.slice b1 R.length k1) (.slice none 0 0) (.string ⟨#[]⟩)) (own_ne HO2.out HS3.out.r2 (by decide)) (.slice b2 R.length k2) (.slice none 0 0) (.string ⟨#[]⟩))
  generalize ((((((W.setCell ⟨w.heap.size + 1 + 1 + 1, 0, none⟩ (.slice b1 R.length k1)).setCell ⟨w.heap.size + 1 + 1 + 1, 1, none⟩ (.slice none 0 0)).setCell ⟨w.heap.size + 1 + 1 + 1, 2, none⟩ (.string ⟨#[]⟩)).setCell ⟨w.heap.size + 1 + 1 + 1 + 1, 0, none⟩ (.slice b2 R.length k2)).setCell ⟨w.heap.size + 1 + 1 + 1 + 1, 1, none⟩ (.slice none 0 0)).setCell ⟨w.heap.size + 1 + 1 + 1 + 1, 2, none⟩ (.string ⟨#[]⟩)).drew = W9 at hff hgg ho1 ho2 ⊢
  obtain ⟨f0, f1, f2⟩ := res27 hff.1
  obtain ⟨t0, t1, t2⟩ := res27 hff.2
  refine bodyPost_ret (v := .tuple #[.agg #[.slice b1 R.length k1, .slice none 0 0, .string ⟨#[]⟩], .agg #[.slice b2 R.length k2, .slice none 0 0, .string ⟨#[]⟩], .bool true]) (by simp [results, Tryd.results9, go_sem, f0, f1, f2, t0, t1, t2]) rfl ?_
  exact ⟨_, _, rfl, ho1, ho2, hgg⟩

set_option maxHeartbeats 4000000 in
theorem does_unset (vs : List V) (n val : List UInt8) (A B : Bool) (v1 v2 : Value) (w : World) (hw : WF vs) (ho1 : Own w 35 4 v1 vs.length (vcs vs) 0) (ho2 : Own w 35 4 v2 vs.length (vcs vs) 0) (hn : n.length ≤ 9223372036854775807) (hval : val.length ≤ 9223372036854775807) :
    Calls Tryd.prog 9 #[envV v1, envV v2, .agg #[.int .i64 2, .string ⟨n.toArray⟩, .string ⟨val.toArray⟩, .bool A, .bool B]] w (DoPost w (unsetF vs n).1) := by
  have hP := fun v W (hW : Own W 35 4 v vs.length (vcs vs) 0) => unset_any vs n v W hw hW hn
  have hD := fun v W (hW : Own W 35 4 v vs.length (vcs vs) 0) => runset_any vs n v W hw hW hn
  obtain ⟨⟨R, code⟩, hR⟩ : ∃ R, unsetF vs n = R := ⟨_, rfl⟩
  rw [hR] at hP hD ⊢
  have HP := hide hP
  have HD := hide hD
  unfold EnvPost envV sv at HP HD
  simp only [] at HP HD
  have HS := hide (DoAt.start ho1 ho2 2 n val A B)
  obtain ⟨a1, c1, rfl, _, _⟩ := ho1.form
  obtain ⟨a2, c2, rfl, _, _⟩ := ho2.form
  clear hP hD ho1 ho2 hR
  unfold envV
  go_enter Tryd.func9, Tryd.ntmps9
  obtain ⟨d0, d1, d2⟩ := res27 HS.out.e1
  obtain ⟨e0, e1, e2⟩ := res27 HS.out.e2
  obtain ⟨p0, p1, p2, p3, p4⟩ := res32 HS.out.op
  obtain ⟨r0, r1, r2⟩ := res27 HS.out.r1
  obtain ⟨s0, s1, s2⟩ := res27 HS.out.r2
  have zr0 := Blk.frozen HS.out.r1 0
  have zs0 := Blk.frozen HS.out.r2 0
  have zr1 := Blk.frozen HS.out.r1 1
  have zs1 := Blk.frozen HS.out.r2 1
  have zr2 := Blk.frozen HS.out.r1 2
  have zs2 := Blk.frozen HS.out.r2 2
  have l1 := Blk.lt HS.out.e1
  have l2 := Blk.lt HS.out.e2
  have l3 := Blk.lt HS.out.op
  have l4 := Blk.lt HS.out.r1
  have l5 := Blk.lt HS.out.r2
  go_wp2_with fail
  refine (HP.out _ _ HS.out.o1).mono ?_
  rintro e w1 ⟨u1, rfl, ho1, g1⟩
  obtain ⟨b1, k1, rfl, _, _⟩ := ho1.form
  have HS2 := hide ((HS.out.grown g1).alloc (.cells #[.slice b1 R.length k1, .slice none 0 0, .string ⟨#[]⟩] 27))
  have HO1 := hide (ho1.alloc (.cells #[.slice b1 R.length k1, .slice none 0 0, .string ⟨#[]⟩] 27))
  have HX := hide (Blk.new w1 27 #[.slice b1 R.length k1, .slice none 0 0, .string ⟨#[]⟩])
  have lx : w.heap.size + 1 + 1 + 1 + 1 < w1.heap.size := Nat.lt_of_lt_of_le l5 g1.size
  clear g1 ho1
  clear d0 d1 d2 e0 e1 e2 p0 p1 p2 p3 p4 r0 r1 r2 s0 s1 s2 zr0 zr1 zr2 zs0 zs1 zs2 l1 l2 l3 l4 l5
  obtain ⟨d0, d1, d2⟩ := res27 HS2.out.e1
  obtain ⟨e0, e1, e2⟩ := res27 HS2.out.e2
  obtain ⟨p0, p1, p2, p3, p4⟩ := res32 HS2.out.op
  obtain ⟨r0, r1, r2⟩ := res27 HS2.out.r1
  obtain ⟨s0, s1, s2⟩ := res27 HS2.out.r2
  have zr0 := Blk.frozen HS2.out.r1 0
  have zs0 := Blk.frozen HS2.out.r2 0
  have zr1 := Blk.frozen HS2.out.r1 1
  have zs1 := Blk.frozen HS2.out.r2 1
  have zr2 := Blk.frozen HS2.out.r1 2
  have zs2 := Blk.frozen HS2.out.r2 2
  have l1 := Blk.lt HS2.out.e1
  have l2 := Blk.lt HS2.out.e2
  have l3 := Blk.lt HS2.out.op
  have l4 := Blk.lt HS2.out.r1
  have l5 := Blk.lt HS2.out.r2
  try unfold envV
  go_wp2_with fail
  refine (HD.out _ _ HS2.out.o2).mono ?_
  rintro e w2 ⟨u2, rfl, ho2, g2⟩
  obtain ⟨b2, k2, rfl, _, _⟩ := ho2.form
  have HS3 := hide ((HS2.out.grown g2).alloc (.cells #[.slice b2 R.length k2, .slice none 0 0, .string ⟨#[]⟩] 27))
  have HO2 := hide (ho2.alloc (.cells #[.slice b2 R.length k2, .slice none 0 0, .string ⟨#[]⟩] 27))
  have HO1 := hide ((HO1.out.none_ g2).alloc (.cells #[.slice b2 R.length k2, .slice none 0 0, .string ⟨#[]⟩] 27))
  have HX := hide ((Blk.grown HX.out g2 (by simp)).alloc (.cells #[.slice b2 R.length k2, .slice none 0 0, .string ⟨#[]⟩] 27))
  have HY := hide (Blk.new w2 27 #[.slice b2 R.length k2, .slice none 0 0, .string ⟨#[]⟩])
  have ly : w1.heap.size < w2.heap.size := Nat.lt_of_lt_of_le (by rw [World.size_alloc]; omega) g2.size
  clear g2 ho2
  clear d0 d1 d2 e0 e1 e2 p0 p1 p2 p3 p4 r0 r1 r2 s0 s1 s2 zr0 zr1 zr2 zs0 zs1 zs2 l1 l2 l3 l4 l5
  try unfold envV
  go_upto_region 9 with fail
  generalize w2.alloc (.cells #[.slice b2 R.length k2, .slice none 0 0, .string ⟨#[]⟩] 27) = W at HS3 HO2 HO1 HX HY ⊢
  obtain ⟨d0, d1, d2⟩ := res27 HS3.out.e1
  obtain ⟨e0, e1, e2⟩ := res27 HS3.out.e2
  obtain ⟨p0, p1, p2, p3, p4⟩ := res32 HS3.out.op
  obtain ⟨r0, r1, r2⟩ := res27 HS3.out.r1
  obtain ⟨s0, s1, s2⟩ := res27 HS3.out.r2
  have zr0 := Blk.frozen HS3.out.r1 0
  have zs0 := Blk.frozen HS3.out.r2 0
  have zr1 := Blk.frozen HS3.out.r1 1
  have zs1 := Blk.frozen HS3.out.r2 1
  have zr2 := Blk.frozen HS3.out.r1 2
  have zs2 := Blk.frozen HS3.out.r2 2
  have l1 := Blk.lt HS3.out.e1
  have l2 := Blk.lt HS3.out.e2
  have l3 := Blk.lt HS3.out.op
  have l4 := Blk.lt HS3.out.r1
  have l5 := Blk.lt HS3.out.r2
  obtain ⟨x0, x1, x2⟩ := res27 HX.out
  obtain ⟨y0, y1, y2⟩ := res27 HY.out
  have lx2 := Blk.lt HX.out
  have ly2 := Blk.lt HY.out
  go_region
  go_wp2_with fail
  have hff := fin2 HS3.out.r1 HS3.out.r2 (by omega) (.slice b1 R.length k1) (.slice none 0 0) (.string ⟨#[]⟩) (.slice b2 R.length k2) (.slice none 0 0) (.string ⟨#[]⟩)
  have hgg := only_drew (gr27 (gr27 HS3.out.g (b := w.heap.size + 1 + 1 + 1) (by omega) (.slice b1 R.length k1) (.slice none 0 0) (.string ⟨#[]⟩)) (b := w.heap.size + 1 + 1 + 1 + 1) (by omega) (.slice b2 R.length k2) (.slice none 0 0) (.string ⟨#[]⟩))
  have ho1 := Own.drew (far27 (far27 HO1.out (own_ne HO1.out HS3.out.r1 (by decide)) (.slice b1 R.length k1) (.slice none 0 0) (.string ⟨#[]⟩)) (own_ne HO1.out HS3.out.r2 (by decide)) (.slice b2 R.length k2) (.slice none 0 0) (.string ⟨#[]⟩))
  have ho2 := Own.drew (far27 (far27 HO2.out (own_ne HO2.out HS3.out.r1 (by decide)) (.slice b1 R.length k1) (.slice none 0 0) (.string ⟨#[]⟩)) (own_ne HO2.out HS3.out.r2 (by decide)) (.slice b2 R.length k2) (.slice none 0 0) (.string ⟨#[]⟩))
  generalize ((((((W.setCell ⟨w.heap.size + 1 + 1 + 1, 0, none⟩ (.slice b1 R.length k1)).setCell ⟨w.heap.size + 1 + 1 + 1, 1, none⟩ (.slice none 0 0)).setCell ⟨w.heap.size + 1 + 1 + 1, 2, none⟩ (.string ⟨#[]⟩)).setCell ⟨w.heap.size + 1 + 1 + 1 + 1, 0, none⟩ (.slice b2 R.length k2)).setCell ⟨w.heap.size + 1 + 1 + 1 + 1, 1, none⟩ (.slice none 0 0)).setCell ⟨w.heap.size + 1 + 1 + 1 + 1, 2, none⟩ (.string ⟨#[]⟩)).drew = W9 at hff hgg ho1 ho2 ⊢
  obtain ⟨f0, f1, f2⟩ := res27 hff.1
  obtain ⟨t0, t1, t2⟩ := res27 hff.2
  refine bodyPost_ret (v := .tuple #[.agg #[.slice b1 R.length k1, .slice none 0 0, .string ⟨#[]⟩], .agg #[.slice b2 R.length k2, .slice none 0 0, .string ⟨#[]⟩], .bool true]) (by simp [results, Tryd.results9, go_sem, f0, f1, f2, t0, t1, t2]) rfl ?_
  exact ⟨_, _, rfl, ho1, ho2, hgg⟩

set_option maxHeartbeats 4000000 in
theorem does_mark (vs : List V) (n val : List UInt8) (A B : Bool) (v1 v2 : Value) (w : World) (hw : WF vs) (ho1 : Own w 35 4 v1 vs.length (vcs vs) 0) (ho2 : Own w 35 4 v2 vs.length (vcs vs) 0) (hn : n.length ≤ 9223372036854775807) (hval : val.length ≤ 9223372036854775807) :
    Calls Tryd.prog 9 #[envV v1, envV v2, .agg #[.int .i64 3, .string ⟨n.toArray⟩, .string ⟨val.toArray⟩, .bool A, .bool B]] w (DoPost w (markF vs n A B).1) := by
  have hP := fun v W (hW : Own W 35 4 v vs.length (vcs vs) 0) => mark_any vs n A B v W hw hW hn
  have hD := fun v W (hW : Own W 35 4 v vs.length (vcs vs) 0) => rmark_any vs n A B v W hw hW hn
  obtain ⟨⟨R, code⟩, hR⟩ : ∃ R, markF vs n A B = R := ⟨_, rfl⟩
  rw [hR] at hP hD ⊢
  have HP := hide hP
  have HD := hide hD
  unfold EnvPost envV sv at HP HD
  simp only [] at HP HD
  have HS := hide (DoAt.start ho1 ho2 3 n val A B)
  obtain ⟨a1, c1, rfl, _, _⟩ := ho1.form
  obtain ⟨a2, c2, rfl, _, _⟩ := ho2.form
  clear hP hD ho1 ho2 hR
  unfold envV
  go_enter Tryd.func9, Tryd.ntmps9
  obtain ⟨d0, d1, d2⟩ := res27 HS.out.e1
  obtain ⟨e0, e1, e2⟩ := res27 HS.out.e2
  obtain ⟨p0, p1, p2, p3, p4⟩ := res32 HS.out.op
  obtain ⟨r0, r1, r2⟩ := res27 HS.out.r1
  obtain ⟨s0, s1, s2⟩ := res27 HS.out.r2
  have zr0 := Blk.frozen HS.out.r1 0
  have zs0 := Blk.frozen HS.out.r2 0
  have zr1 := Blk.frozen HS.out.r1 1
  have zs1 := Blk.frozen HS.out.r2 1
  have zr2 := Blk.frozen HS.out.r1 2
  have zs2 := Blk.frozen HS.out.r2 2
  have l1 := Blk.lt HS.out.e1
  have l2 := Blk.lt HS.out.e2
  have l3 := Blk.lt HS.out.op
  have l4 := Blk.lt HS.out.r1
  have l5 := Blk.lt HS.out.r2
  go_wp2_with fail
  refine (HP.out _ _ HS.out.o1).mono ?_
  rintro e w1 ⟨u1, rfl, ho1, g1⟩
  obtain ⟨b1, k1, rfl, _, _⟩ := ho1.form
  have HS2 := hide ((HS.out.grown g1).alloc (.cells #[.slice b1 R.length k1, .slice none 0 0, .string ⟨#[]⟩] 27))
  have HO1 := hide (ho1.alloc (.cells #[.slice b1 R.length k1, .slice none 0 0, .string ⟨#[]⟩] 27))
  have HX := hide (Blk.new w1 27 #[.slice b1 R.length k1, .slice none 0 0, .string ⟨#[]⟩])
  have lx : w.heap.size + 1 + 1 + 1 + 1 < w1.heap.size := Nat.lt_of_lt_of_le l5 g1.size
  clear g1 ho1
  clear d0 d1 d2 e0 e1 e2 p0 p1 p2 p3 p4 r0 r1 r2 s0 s1 s2 zr0 zr1 zr2 zs0 zs1 zs2 l1 l2 l3 l4 l5
  obtain ⟨d0, d1, d2⟩ := res27 HS2.out.e1
  obtain ⟨e0, e1, e2⟩ := res27 HS2.out.e2
  obtain ⟨p0, p1, p2, p3, p4⟩ := res32 HS2.out.op
  obtain ⟨r0, r1, r2⟩ := res27 HS2.out.r1
  obtain ⟨s0, s1, s2⟩ := res27 HS2.out.r2
  have zr0 := Blk.frozen HS2.out.r1 0
  have zs0 := Blk.frozen HS2.out.r2 0
  have zr1 := Blk.frozen HS2.out.r1 1
  have zs1 := Blk.frozen HS2.out.r2 1
  have zr2 := Blk.frozen HS2.out.r1 2
  have zs2 := Blk.frozen HS2.out.r2 2
  have l1 := Blk.lt HS2.out.e1
  have l2 := Blk.lt HS2.out.e2
  have l3 := Blk.lt HS2.out.op
  have l4 := Blk.lt HS2.out.r1
  have l5 := Blk.lt HS2.out.r2
  try unfold envV
  go_wp2_with fail
  refine (HD.out _ _ HS2.out.o2).mono ?_
  rintro e w2 ⟨u2, rfl, ho2, g2⟩
  obtain ⟨b2, k2, rfl, _, _⟩ := ho2.form
  have HS3 := hide ((HS2.out.grown g2).alloc (.cells #[.slice b2 R.length k2, .slice none 0 0, .string ⟨#[]⟩] 27))
  have HO2 := hide (ho2.alloc (.cells #[.slice b2 R.length k2, .slice none 0 0, .string ⟨#[]⟩] 27))
  have HO1 := hide ((HO1.out.none_ g2).alloc (.cells #[.slice b2 R.length k2, .slice none 0 0, .string ⟨#[]⟩] 27))
  have HX := hide ((Blk.grown HX.out g2 (by simp)).alloc (.cells #[.slice b2 R.length k2, .slice none 0 0, .string ⟨#[]⟩] 27))
  have HY := hide (Blk.new w2 27 #[.slice b2 R.length k2, .slice none 0 0, .string ⟨#[]⟩])
  have ly : w1.heap.size < w2.heap.size := Nat.lt_of_lt_of_le (by rw [World.size_alloc]; omega) g2.size
  clear g2 ho2
  clear d0 d1 d2 e0 e1 e2 p0 p1 p2 p3 p4 r0 r1 r2 s0 s1 s2 zr0 zr1 zr2 zs0 zs1 zs2 l1 l2 l3 l4 l5
  try unfold envV
  go_upto_region 13 with fail
  generalize w2.alloc (.cells #[.slice b2 R.length k2, .slice none 0 0, .string ⟨#[]⟩] 27) = W at HS3 HO2 HO1 HX HY ⊢
  obtain ⟨d0, d1, d2⟩ := res27 HS3.out.e1
  obtain ⟨e0, e1, e2⟩ := res27 HS3.out.e2
  obtain ⟨p0, p1, p2, p3, p4⟩ := res32 HS3.out.op
  obtain ⟨r0, r1, r2⟩ := res27 HS3.out.r1
  obtain ⟨s0, s1, s2⟩ := res27 HS3.out.r2
  have zr0 := Blk.frozen HS3.out.r1 0
  have zs0 := Blk.frozen HS3.out.r2 0
  have zr1 := Blk.frozen HS3.out.r1 1
  have zs1 := Blk.frozen HS3.out.r2 1
  have zr2 := Blk.frozen HS3.out.r1 2
  have zs2 := Blk.frozen HS3.out.r2 2
  have l1 := Blk.lt HS3.out.e1
  have l2 := Blk.lt HS3.out.e2
  have l3 := Blk.lt HS3.out.op
  have l4 := Blk.lt HS3.out.r1
  have l5 := Blk.lt HS3.out.r2
  obtain ⟨x0, x1, x2⟩ := res27 HX.out
  obtain ⟨y0, y1, y2⟩ := res27 HY.out
  have lx2 := Blk.lt HX.out
  have ly2 := Blk.lt HY.out
  go_region
  go_wp2_with fail
  have hff := fin2 HS3.out.r1 HS3.out.r2 (by omega) (.slice b1 R.length k1) (.slice none 0 0) (.string ⟨#[]⟩) (.slice b2 R.length k2) (.slice none 0 0) (.string ⟨#[]⟩)
  have hgg := only_drew (gr27 (gr27 HS3.out.g (b := w.heap.size + 1 + 1 + 1) (by omega) (.slice b1 R.length k1) (.slice none 0 0) (.string ⟨#[]⟩)) (b := w.heap.size + 1 + 1 + 1 + 1) (by omega) (.slice b2 R.length k2) (.slice none 0 0) (.string ⟨#[]⟩))
  have ho1 := Own.drew (far27 (far27 HO1.out (own_ne HO1.out HS3.out.r1 (by decide)) (.slice b1 R.length k1) (.slice none 0 0) (.string ⟨#[]⟩)) (own_ne HO1.out HS3.out.r2 (by decide)) (.slice b2 R.length k2) (.slice none 0 0) (.string ⟨#[]⟩))
  have ho2 := Own.drew (far27 (far27 HO2.out (own_ne HO2.out HS3.out.r1 (by decide)) (.slice b1 R.length k1) (.slice none 0 0) (.string ⟨#[]⟩)) (own_ne HO2.out HS3.out.r2 (by decide)) (.slice b2 R.length k2) (.slice none 0 0) (.string ⟨#[]⟩))
  generalize ((((((W.setCell ⟨w.heap.size + 1 + 1 + 1, 0, none⟩ (.slice b1 R.length k1)).setCell ⟨w.heap.size + 1 + 1 + 1, 1, none⟩ (.slice none 0 0)).setCell ⟨w.heap.size + 1 + 1 + 1, 2, none⟩ (.string ⟨#[]⟩)).setCell ⟨w.heap.size + 1 + 1 + 1 + 1, 0, none⟩ (.slice b2 R.length k2)).setCell ⟨w.heap.size + 1 + 1 + 1 + 1, 1, none⟩ (.slice none 0 0)).setCell ⟨w.heap.size + 1 + 1 + 1 + 1, 2, none⟩ (.string ⟨#[]⟩)).drew = W9 at hff hgg ho1 ho2 ⊢
  obtain ⟨f0, f1, f2⟩ := res27 hff.1
  obtain ⟨t0, t1, t2⟩ := res27 hff.2
  refine bodyPost_ret (v := .tuple #[.agg #[.slice b1 R.length k1, .slice none 0 0, .string ⟨#[]⟩], .agg #[.slice b2 R.length k2, .slice none 0 0, .string ⟨#[]⟩], .bool true]) (by simp [results, Tryd.results9, go_sem, f0, f1, f2, t0, t1, t2]) rfl ?_
  exact ⟨_, _, rfl, ho1, ho2, hgg⟩

set_option maxHeartbeats 4000000 in
theorem does_get (vs : List V) (K : Int) (n val : List UInt8) (A B : Bool) (v1 v2 : Value) (w : World) (hw : WF vs) (ho1 : Own w 35 4 v1 vs.length (vcs vs) 0) (ho2 : Own w 35 4 v2 vs.length (vcs vs) 0) (k1 : K ≠ 1) (k2 : K ≠ 2) (k3 : K ≠ 3) :
    Calls Tryd.prog 9 #[envV v1, envV v2, .agg #[.int .i64 K, .string ⟨n.toArray⟩, .string ⟨val.toArray⟩, .bool A, .bool B]] w (DoPost w vs) := by
  have hP := fun v W (hW : Own W 35 4 v vs.length (vcs vs) 0) => get_any vs n v W hw hW
  have hD := fun v W (hW : Own W 35 4 v vs.length (vcs vs) 0) => rget_any vs n v W hw hW
  obtain ⟨r, hr⟩ : ∃ r, getV vs n = r := ⟨_, rfl⟩
  obtain ⟨f, hf⟩ : ∃ f, foundB vs n = f := ⟨_, rfl⟩
  rw [hr, hf] at hP hD
  have HP := hide hP
  have HD := hide hD
  unfold envV sv at HP HD
  have HS := hide (DoAt.start ho1 ho2 K n val A B)
  have q1 : (K == 1) = false := beq_eq_false_iff_ne.2 k1
  have q2 : (K == 2) = false := beq_eq_false_iff_ne.2 k2
  have q3 : (K == 3) = false := beq_eq_false_iff_ne.2 k3
  have qs : (r == r) = true := by simp
  have qf : (f == f) = true := by simp
  obtain ⟨a1, c1, rfl, _, _⟩ := ho1.form
  obtain ⟨a2, c2, rfl, _, _⟩ := ho2.form
  clear hP hD ho1 ho2 hr hf k1 k2 k3
  unfold envV
  go_enter Tryd.func9, Tryd.ntmps9
  obtain ⟨d0, d1, d2⟩ := res27 HS.out.e1
  obtain ⟨e0, e1, e2⟩ := res27 HS.out.e2
  obtain ⟨p0, p1, p2, p3, p4⟩ := res32 HS.out.op
  obtain ⟨r0, r1, r2⟩ := res27 HS.out.r1
  obtain ⟨s0, s1, s2⟩ := res27 HS.out.r2
  have zr0 := Blk.frozen HS.out.r1 0
  have zs0 := Blk.frozen HS.out.r2 0
  have zr1 := Blk.frozen HS.out.r1 1
  have zs1 := Blk.frozen HS.out.r2 1
  have zr2 := Blk.frozen HS.out.r1 2
  have zs2 := Blk.frozen HS.out.r2 2
  have l1 := Blk.lt HS.out.e1
  have l2 := Blk.lt HS.out.e2
  have l3 := Blk.lt HS.out.op
  have l4 := Blk.lt HS.out.r1
  have l5 := Blk.lt HS.out.r2
  go_wp2_with fail
  refine (HP.out _ _ HS.out.o1).mono ?_
  rintro e w1 ⟨rfl, g1⟩
  have HS2 := hide (HS.out.grown g1)
  clear g1
  clear d0 d1 d2 e0 e1 e2 p0 p1 p2 p3 p4 r0 r1 r2 s0 s1 s2 zr0 zr1 zr2 zs0 zs1 zs2 l1 l2 l3 l4 l5
  obtain ⟨d0, d1, d2⟩ := res27 HS2.out.e1
  obtain ⟨e0, e1, e2⟩ := res27 HS2.out.e2
  obtain ⟨p0, p1, p2, p3, p4⟩ := res32 HS2.out.op
  obtain ⟨r0, r1, r2⟩ := res27 HS2.out.r1
  obtain ⟨s0, s1, s2⟩ := res27 HS2.out.r2
  have zr0 := Blk.frozen HS2.out.r1 0
  have zs0 := Blk.frozen HS2.out.r2 0
  have zr1 := Blk.frozen HS2.out.r1 1
  have zs1 := Blk.frozen HS2.out.r2 1
  have zr2 := Blk.frozen HS2.out.r1 2
  have zs2 := Blk.frozen HS2.out.r2 2
  have l1 := Blk.lt HS2.out.e1
  have l2 := Blk.lt HS2.out.e2
  have l3 := Blk.lt HS2.out.op
  have l4 := Blk.lt HS2.out.r1
  have l5 := Blk.lt HS2.out.r2
  go_wp2_with fail
  refine (HD.out _ _ HS2.out.o2).mono ?_
  rintro e W ⟨rfl, g2⟩
  have HS3 := hide (HS2.out.grown g2)
  clear g2
  clear d0 d1 d2 e0 e1 e2 p0 p1 p2 p3 p4 r0 r1 r2 s0 s1 s2 zr0 zr1 zr2 zs0 zs1 zs2 l1 l2 l3 l4 l5
  obtain ⟨d0, d1, d2⟩ := res27 HS3.out.e1
  obtain ⟨e0, e1, e2⟩ := res27 HS3.out.e2
  obtain ⟨p0, p1, p2, p3, p4⟩ := res32 HS3.out.op
  obtain ⟨r0, r1, r2⟩ := res27 HS3.out.r1
  obtain ⟨s0, s1, s2⟩ := res27 HS3.out.r2
  have zr0 := Blk.frozen HS3.out.r1 0
  have zs0 := Blk.frozen HS3.out.r2 0
  have zr1 := Blk.frozen HS3.out.r1 1
  have zs1 := Blk.frozen HS3.out.r2 1
  have zr2 := Blk.frozen HS3.out.r1 2
  have zs2 := Blk.frozen HS3.out.r2 2
  have l1 := Blk.lt HS3.out.e1
  have l2 := Blk.lt HS3.out.e2
  have l3 := Blk.lt HS3.out.op
  have l4 := Blk.lt HS3.out.r1
  have l5 := Blk.lt HS3.out.r2
  go_wp2_with fail
  go_region
  go_wp2_with fail
  have hff := fin2 HS3.out.r1 HS3.out.r2 (by omega) (.slice a1 vs.length c1) (.slice none 0 0) (.string ⟨#[]⟩) (.slice a2 vs.length c2) (.slice none 0 0) (.string ⟨#[]⟩)
  have hgg := only_drew (gr27 (gr27 HS3.out.g (b := w.heap.size + 1 + 1 + 1) (by omega) (.slice a1 vs.length c1) (.slice none 0 0) (.string ⟨#[]⟩)) (b := w.heap.size + 1 + 1 + 1 + 1) (by omega) (.slice a2 vs.length c2) (.slice none 0 0) (.string ⟨#[]⟩))
  have ho1 := Own.drew (far27 (far27 HS3.out.o1 (own_ne HS3.out.o1 HS3.out.r1 (by decide)) (.slice a1 vs.length c1) (.slice none 0 0) (.string ⟨#[]⟩)) (own_ne HS3.out.o1 HS3.out.r2 (by decide)) (.slice a2 vs.length c2) (.slice none 0 0) (.string ⟨#[]⟩))
  have ho2 := Own.drew (far27 (far27 HS3.out.o2 (own_ne HS3.out.o2 HS3.out.r1 (by decide)) (.slice a1 vs.length c1) (.slice none 0 0) (.string ⟨#[]⟩)) (own_ne HS3.out.o2 HS3.out.r2 (by decide)) (.slice a2 vs.length c2) (.slice none 0 0) (.string ⟨#[]⟩))
  generalize ((((((W.setCell ⟨w.heap.size + 1 + 1 + 1, 0, none⟩ (.slice a1 vs.length c1)).setCell ⟨w.heap.size + 1 + 1 + 1, 1, none⟩ (.slice none 0 0)).setCell ⟨w.heap.size + 1 + 1 + 1, 2, none⟩ (.string ⟨#[]⟩)).setCell ⟨w.heap.size + 1 + 1 + 1 + 1, 0, none⟩ (.slice a2 vs.length c2)).setCell ⟨w.heap.size + 1 + 1 + 1 + 1, 1, none⟩ (.slice none 0 0)).setCell ⟨w.heap.size + 1 + 1 + 1 + 1, 2, none⟩ (.string ⟨#[]⟩)).drew = W9 at hff hgg ho1 ho2 ⊢
  obtain ⟨f0, f1, f2⟩ := res27 hff.1
  obtain ⟨t0, t1, t2⟩ := res27 hff.2
  refine bodyPost_ret (v := .tuple #[.agg #[.slice a1 vs.length c1, .slice none 0 0, .string ⟨#[]⟩], .agg #[.slice a2 vs.length c2, .slice none 0 0, .string ⟨#[]⟩], .bool true]) (by simp [results, Tryd.results9, go_sem, f0, f1, f2, t0, t1, t2]) rfl ?_
  exact ⟨_, _, rfl, ho1, ho2, hgg⟩

end Go.Proofs.YtdcfpklohleoiaaDoor
