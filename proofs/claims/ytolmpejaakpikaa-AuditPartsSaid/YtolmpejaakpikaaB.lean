/- The book of processes and the events; the walks of execs and becomes. -/
import Derived.Test.YtolmpejaakpikaaA
import Derived.Test.YtolmpejaakpikaaMap
import Derived.Test.YtolmpejaakpikaaPerm
set_option linter.all false
namespace Go.Proofs.Ytolmpejaakpikaa
open Go.RowKit Go.Maps

structure Pc where
  c : Cr
  why : Int
  nt : Bool
  pv : Bool
def Pc.cells (p : Pc) : List Value := [.int .i64 p.c.r, .int .i64 p.c.e, .int .i64 p.c.s, .int .i64 p.c.g, .int .i64 p.c.h, .int .i64 p.why, .bool p.nt, .bool p.pv]
def Pc.agg (p : Pc) : Value := .agg #[.int .i64 p.c.r, .int .i64 p.c.e, .int .i64 p.c.s, .int .i64 p.c.g, .int .i64 p.c.h, .int .i64 p.why, .bool p.nt, .bool p.pv]
def PcIs (w : World) (pb : Nat) (p : Pc) : Prop := Blk w pb 45 #[.int .i64 p.c.r, .int .i64 p.c.e, .int .i64 p.c.s, .int .i64 p.c.g, .int .i64 p.c.h, .int .i64 p.why, .bool p.nt, .bool p.pv]
theorem PcIs.c (w : World) (pb : Nat) (p : Pc) (h : PcIs w pb p) : (w.cell? ⟨pb, 0, none⟩ = some (.int .i64 p.c.r) ∧ w.cell? ⟨pb, 1, none⟩ = some (.int .i64 p.c.e) ∧ w.cell? ⟨pb, 2, none⟩ = some (.int .i64 p.c.s) ∧ w.cell? ⟨pb, 3, none⟩ = some (.int .i64 p.c.g) ∧ w.cell? ⟨pb, 4, none⟩ = some (.int .i64 p.c.h) ∧
    w.cell? ⟨pb, 5, none⟩ = some (.int .i64 p.why) ∧ w.cell? ⟨pb, 6, none⟩ = some (.bool p.nt) ∧ w.cell? ⟨pb, 7, none⟩ = some (.bool p.pv)) ∧ pb < w.heap.size ∧ ∀ j, w.frozen? ⟨pb, j, none⟩ = false :=
  ⟨⟨h.cell 0, h.cell 1, h.cell 2, h.cell 3, h.cell 4, h.cell 5, h.cell 6, h.cell 7⟩, h.lt, fun j => h.frozen j⟩

def execPc (p : Pc) (m o : Int) : Pc :=
  ⟨(execF p.c m o).1, if (execF p.c m o).1.e ≠ 0 then 0 else if p.why = 0 ∧ p.pv = false then 3 else p.why, false, p.pv⟩

theorem none_cell {w w' : World} (hg : w.grownBy w' none) {b o : Nat} {v : Value} (hb : b < w.heap.size) (h : w.cell? ⟨b, o, none⟩ = some v) : w'.cell? ⟨b, o, none⟩ = some v :=
  ((Chg.of_grown hg (fun _ h => by cases h) : Chg nobody w w').cell (p := ⟨b, o, none⟩) hb (fun h => h)).trans h

theorem zero5 {W w2 : World} (n : Nat) (hn : W.heap.size = n) (hg : (W.alloc (.cells #[.int .i64 0, .int .i64 0, .int .i64 0, .int .i64 0, .int .i64 0] 28)).grownBy w2 none) :
    (w2.cell? ⟨n, 0, none⟩ = some (.int .i64 0) ∧ w2.cell? ⟨n, 1, none⟩ = some (.int .i64 0) ∧ w2.cell? ⟨n, 2, none⟩ = some (.int .i64 0) ∧ w2.cell? ⟨n, 3, none⟩ = some (.int .i64 0) ∧ w2.cell? ⟨n, 4, none⟩ = some (.int .i64 0)) ∧
    w2.frozen? ⟨n, 0, none⟩ = false ∧ w2.frozen? ⟨n, 1, none⟩ = false ∧ w2.frozen? ⟨n, 2, none⟩ = false ∧ w2.frozen? ⟨n, 3, none⟩ = false ∧ w2.frozen? ⟨n, 4, none⟩ = false ∧ n < w2.heap.size := by
  subst hn
  have h := Blk.grown (Blk.new W 28 #[.int .i64 0, .int .i64 0, .int .i64 0, .int .i64 0, .int .i64 0]) hg (by simp)
  exact ⟨⟨h.cell 0, h.cell 1, h.cell 2, h.cell 3, h.cell 4⟩, h.frozen 0, h.frozen 1, h.frozen 2, h.frozen 3, h.frozen 4, h.lt⟩

/-- Behind a call that made a cred: the process as it was, the cred laid. -/
structure Mid (w W : World) (pb rb : Nat) (p : Pc) (R : Cr) : Prop where
  p : PcIs W pb p
  r : Blk W rb 28 #[.int .i64 R.r, .int .i64 R.e, .int .i64 R.s, .int .i64 R.g, .int .i64 R.h]
  ne : rb ≠ pb
  gr : w.grownBy W none
theorem mid_b {w w0 w2 : World} {pb : Nat} {p : Pc} {R : Cr} (h0 : w.grownBy w0 none) (hp : PcIs w0 pb p) (hg : w0.drew.grownBy w2 none) :
    Mid w (w2.alloc (.cells #[.int .i64 R.r, .int .i64 R.e, .int .i64 R.s, .int .i64 R.g, .int .i64 R.h] 28)) pb w2.heap.size p R := by
  have hp2 : PcIs w2 pb p := Blk.grown (Blk.chg hp ((Chg.refl nobody w0).drew) (fun h => h)) hg (by simp)
  exact ⟨Blk.grown hp2 (only_alloc (only_refl w2 none) _) (by simp), Blk.new w2 28 _, fun e => by have := Blk.lt hp2; omega, only_alloc (only_trans (only_drew h0) hg) _⟩
theorem mid_a {w w0 w2 : World} {pb : Nat} {p : Pc} {R : Cr} (h0 : w.grownBy w0 none) (hp : PcIs w0 pb p) (hg : (w0.drew.alloc (.cells #[.int .i64 0, .int .i64 0, .int .i64 0, .int .i64 0, .int .i64 0] 28)).grownBy w2 none) :
    Mid w (((((w2.setCell ⟨w0.heap.size, 0, none⟩ (.int .i64 R.r)).setCell ⟨w0.heap.size, 1, none⟩ (.int .i64 R.e)).setCell ⟨w0.heap.size, 2, none⟩ (.int .i64 R.s)).setCell ⟨w0.heap.size, 3, none⟩ (.int .i64 R.g)).setCell ⟨w0.heap.size, 4, none⟩ (.int .i64 R.h)) pb w0.heap.size p R := by
  have hpl : pb < w0.heap.size := Blk.lt hp
  have hne : w0.heap.size ≠ pb := by omega
  have hw := h0.size
  have hp1 : PcIs (w0.drew.alloc (.cells #[.int .i64 0, .int .i64 0, .int .i64 0, .int .i64 0, .int .i64 0] 28)) pb p := Blk.chg hp ((Chg.refl nobody w0).drew.alloc _) (fun h => h)
  have hp2 : PcIs w2 pb p := Blk.grown hp1 hg (by simp)
  have hr : Blk w2 w0.heap.size 28 #[.int .i64 0, .int .i64 0, .int .i64 0, .int .i64 0, .int .i64 0] := Blk.grown (Blk.new w0.drew 28 _) hg (by simp)
  refine ⟨Blk.far (Blk.far (Blk.far (Blk.far (Blk.far hp2 (by exact hne.symm) _) (by exact hne.symm) _) (by exact hne.symm) _) (by exact hne.symm) _) (by exact hne.symm) _, ((((hr.set_ 0 _).set_ 1 _).set_ 2 _).set_ 3 _).set_ 4 _, hne, ?_⟩
  have hgw := only_trans (only_alloc (only_drew h0) _) hg
  have hle : ∀ j, w.heap.size ≤ (⟨w0.heap.size, j, none⟩ : Addr).block := fun j => hw
  exact ((((((Chg.of_grown hgw (fun _ h => by cases h) : Chg nobody w w2).setCell (p := ⟨w0.heap.size, 0, none⟩) (.inr (hle 0)) _).setCell (p := ⟨w0.heap.size, 1, none⟩) (.inr (hle 1)) _).setCell (p := ⟨w0.heap.size, 2, none⟩) (.inr (hle 2)) _).setCell (p := ⟨w0.heap.size, 3, none⟩) (.inr (hle 3)) _).setCell (p := ⟨w0.heap.size, 4, none⟩) (.inr (hle 4)) _).grown (fun _ _ h => h)
theorem Mid.cells {w W : World} {pb rb : Nat} {p : Pc} {R : Cr} (h : Mid w W pb rb p R) : (W.cell? ⟨rb, 0, none⟩ = some (.int .i64 R.r) ∧ W.cell? ⟨rb, 1, none⟩ = some (.int .i64 R.e) ∧ W.cell? ⟨rb, 2, none⟩ = some (.int .i64 R.s) ∧ W.cell? ⟨rb, 3, none⟩ = some (.int .i64 R.g) ∧ W.cell? ⟨rb, 4, none⟩ = some (.int .i64 R.h)) ∧ rb < W.heap.size :=
  ⟨⟨h.r.cell 0, h.r.cell 1, h.r.cell 2, h.r.cell 3, h.r.cell 4⟩, h.r.lt⟩

theorem PcIs.s0 {w : World} {pb : Nat} {p : Pc} (h : PcIs w pb p) (x : Int) : PcIs (w.setCell ⟨pb, 0, none⟩ (.int .i64 x)) pb ⟨{ p.c with r := x }, p.why, p.nt, p.pv⟩ := Blk.set_ h 0 _
theorem PcIs.s1 {w : World} {pb : Nat} {p : Pc} (h : PcIs w pb p) (x : Int) : PcIs (w.setCell ⟨pb, 1, none⟩ (.int .i64 x)) pb ⟨{ p.c with e := x }, p.why, p.nt, p.pv⟩ := Blk.set_ h 1 _
theorem PcIs.s2 {w : World} {pb : Nat} {p : Pc} (h : PcIs w pb p) (x : Int) : PcIs (w.setCell ⟨pb, 2, none⟩ (.int .i64 x)) pb ⟨{ p.c with s := x }, p.why, p.nt, p.pv⟩ := Blk.set_ h 2 _
theorem PcIs.s3 {w : World} {pb : Nat} {p : Pc} (h : PcIs w pb p) (x : Int) : PcIs (w.setCell ⟨pb, 3, none⟩ (.int .i64 x)) pb ⟨{ p.c with g := x }, p.why, p.nt, p.pv⟩ := Blk.set_ h 3 _
theorem PcIs.s4 {w : World} {pb : Nat} {p : Pc} (h : PcIs w pb p) (x : Int) : PcIs (w.setCell ⟨pb, 4, none⟩ (.int .i64 x)) pb ⟨{ p.c with h := x }, p.why, p.nt, p.pv⟩ := Blk.set_ h 4 _
theorem PcIs.s5 {w : World} {pb : Nat} {p : Pc} (h : PcIs w pb p) (x : Int) : PcIs (w.setCell ⟨pb, 5, none⟩ (.int .i64 x)) pb ⟨p.c, x, p.nt, p.pv⟩ := Blk.set_ h 5 _
theorem PcIs.s6 {w : World} {pb : Nat} {p : Pc} (h : PcIs w pb p) (x : Bool) : PcIs (w.setCell ⟨pb, 6, none⟩ (.bool x)) pb ⟨p.c, p.why, x, p.pv⟩ := Blk.set_ h 6 _
theorem PcIs.s7 {w : World} {pb : Nat} {p : Pc} (h : PcIs w pb p) (x : Bool) : PcIs (w.setCell ⟨pb, 7, none⟩ (.bool x)) pb ⟨p.c, p.why, p.nt, x⟩ := Blk.set_ h 7 _

set_option maxHeartbeats 1000000 in
theorem execs_bad (pb : Nat) (p : Pc) (i0 i1 m o i4 i5 i6 i7 : Int) (w : World) (h : PcIs w pb p) (hx : (execF p.c m o).2 ≠ 0) :
    Calls Try.prog 12 #[.pointer (some ⟨pb, 0, none⟩), .agg #[.int .i64 i0, .int .i64 i1, .int .i64 m, .int .i64 o, .int .i64 i4, .int .i64 i5, .int .i64 i6, .int .i64 i7]] w fun e w' => e = .returned (.bool false) ∧ w.grownBy w' none := by
  obtain ⟨⟨c0, c1, c2, c3, c4, c5, c6, c7⟩, hpl, hz⟩ := h.c
  obtain ⟨w0, hw0⟩ : ∃ w0, (w.alloc (.cells #[.int .i64 i0, .int .i64 i1, .int .i64 m, .int .i64 o, .int .i64 i4, .int .i64 i5, .int .i64 i6, .int .i64 i7] 36)) = w0 := ⟨_, rfl⟩
  have hB := Blk.new w 36 #[.int .i64 i0, .int .i64 i1, .int .i64 m, .int .i64 o, .int .i64 i4, .int .i64 i5, .int .i64 i6, .int .i64 i7]
  have hG := only_alloc (only_refl w none) (.cells #[.int .i64 i0, .int .i64 i1, .int .i64 m, .int .i64 o, .int .i64 i4, .int .i64 i5, .int .i64 i6, .int .i64 i7] 36)
  have hP0 := Blk.grown h hG (by simp)
  rw [hw0] at hB hG hP0
  have d0 := none_cell hG hpl c0
  have d1 := none_cell hG hpl c1
  have d2 := none_cell hG hpl c2
  have d3 := none_cell hG hpl c3
  have d4 := none_cell hG hpl c4
  have k2 : w0.cell? ⟨w.heap.size, 2, none⟩ = some (.int .i64 m) := hB.cell 2
  have k3 : w0.cell? ⟨w.heap.size, 3, none⟩ = some (.int .i64 o) := hB.cell 3
  have hl1 := Nat.lt_of_lt_of_le hpl hG.size
  have hl2 := hB.lt
  obtain ⟨⟨R, y⟩, hE⟩ : ∃ q, execF p.c m o = q := ⟨_, rfl⟩
  rw [hE] at hx
  have q5 : (y == 0) = false := by simpa using hx
  have q6 : (y != 0) = true := by simpa using hx
  clear hx
  have HE := hide hE
  have HG := hide hG
  have HP0 := hide hP0
  clear c0 c1 c2 c3 c4 c5 c6 c7 hB hG hE hP0 hpl hz h
  go_enter Try.func12, Try.ntmps12
  go_wp2_with fail
  generalize w.heap.size = ib at k2 k3 hl2 ⊢
  clear hw0
  have Hk : Hid (∀ W : World, w0.grownBy W none → (W.cell? ⟨pb, 0, none⟩ = some (.int .i64 p.c.r) ∧ W.cell? ⟨pb, 1, none⟩ = some (.int .i64 p.c.e) ∧ W.cell? ⟨pb, 2, none⟩ = some (.int .i64 p.c.s) ∧ W.cell? ⟨pb, 3, none⟩ = some (.int .i64 p.c.g) ∧ W.cell? ⟨pb, 4, none⟩ = some (.int .i64 p.c.h) ∧ W.cell? ⟨ib, 2, none⟩ = some (.int .i64 m) ∧ W.cell? ⟨ib, 3, none⟩ = some (.int .i64 o))) :=
    hide (fun W hg => ⟨none_cell hg hl1 d0, none_cell hg hl1 d1, none_cell hg hl1 d2, none_cell hg hl1 d3, none_cell hg hl1 d4, none_cell hg hl2 k2, none_cell hg hl2 k3⟩)
  go_region_held3 (fun W => W.cell? ⟨pb, 0, none⟩ = some (.int .i64 p.c.r) ∧ W.cell? ⟨pb, 1, none⟩ = some (.int .i64 p.c.e) ∧ W.cell? ⟨pb, 2, none⟩ = some (.int .i64 p.c.s) ∧ W.cell? ⟨pb, 3, none⟩ = some (.int .i64 p.c.g) ∧ W.cell? ⟨pb, 4, none⟩ = some (.int .i64 p.c.h) ∧ W.cell? ⟨ib, 2, none⟩ = some (.int .i64 m) ∧ W.cell? ⟨ib, 3, none⟩ = some (.int .i64 o))
    (first | go_keep | exact Hk.out _ (by repeat' (first | (with_reducible exact only_refl _ _) | (with_reducible refine none_setCell ?_ ?_ _) | (with_reducible refine none_trans ?_ hg) | (with_reducible refine only_drew ?_) | (with_reducible refine only_alloc ?_ _) | omega | (simp; done) | (simp; omega))))
    ((first
      | (go_at_call 18; refine (exec_calls p.c.r p.c.e p.c.s p.c.g p.c.h m o _).mono ?_; unfold ends; rw [HE.out]; rintro e w2 ⟨rfl, hg⟩; (have hz5 := zero5 (W := w0.drew) (w2 := w2) w0.heap.size rfl (by exact hg)); (obtain ⟨⟨x0, x1, x2, x3, x4⟩, y0, y1, y2, y3, y4, xl⟩ := hz5))
      | (go_at_call 18; refine (exec_calls p.c.r p.c.e p.c.s p.c.g p.c.h m o _).mono ?_; unfold ends; rw [HE.out]; rintro e w2 ⟨rfl, hg⟩)))
  all_goals
    first
    | (have HM := hide (mid_b (R := R) HG.out HP0.out hg); clear hg)
    | (have HM := hide (mid_a (R := R) HG.out HP0.out hg); clear hg x0 x1 x2 x3 x4 y0 y1 y2 y3 y4 xl)
  all_goals
    clear d0 d1 d2 d3 d4 k2 k3 hl1 hl2 Hk
    first
    | generalize (w2.alloc (.cells #[.int .i64 R.r, .int .i64 R.e, .int .i64 R.s, .int .i64 R.g, .int .i64 R.h] 28)) = W, w2.heap.size = rb at HM ⊢
    | generalize (((((w2.setCell ⟨w0.heap.size, 0, none⟩ (.int .i64 R.r)).setCell ⟨w0.heap.size, 1, none⟩ (.int .i64 R.e)).setCell ⟨w0.heap.size, 2, none⟩ (.int .i64 R.s)).setCell ⟨w0.heap.size, 3, none⟩ (.int .i64 R.g)).setCell ⟨w0.heap.size, 4, none⟩ (.int .i64 R.h)) = W, w0.heap.size = rb at HM ⊢
    obtain ⟨⟨r0, r1, r2, r3, r4⟩, hrl⟩ := HM.out.cells
    obtain ⟨⟨c0, c1, c2, c3, c4, c5, c6, c7⟩, hpl, hz⟩ := HM.out.p.c
    have z0 := hz 0
    have z1 := hz 1
    have z2 := hz 2
    have z3 := hz 3
    have z4 := hz 4
    have z5 := hz 5
    have z6 := hz 6
    have hne := HM.out.ne
    clear hz
    go_wp2
    go_ret
    exact ⟨rfl, HM.out.gr⟩

set_option maxHeartbeats 1000000 in
theorem execs_a (pb : Nat) (p : Pc) (R : Cr) (i0 i1 m o i4 i5 i6 i7 : Int) (w : World) (h : PcIs w pb p) (hE : execF p.c m o = (R, 0)) (hR : R.e ≠ 0) :
    Calls Try.prog 12 #[.pointer (some ⟨pb, 0, none⟩), .agg #[.int .i64 i0, .int .i64 i1, .int .i64 m, .int .i64 o, .int .i64 i4, .int .i64 i5, .int .i64 i6, .int .i64 i7]] w fun e w' => e = .returned (.bool true) ∧ PcIs w' pb ⟨R, 0, false, p.pv⟩ ∧ w.grownBy w' (some pb) := by
  obtain ⟨⟨c0, c1, c2, c3, c4, c5, c6, c7⟩, hpl, hz⟩ := h.c
  obtain ⟨w0, hw0⟩ : ∃ w0, (w.alloc (.cells #[.int .i64 i0, .int .i64 i1, .int .i64 m, .int .i64 o, .int .i64 i4, .int .i64 i5, .int .i64 i6, .int .i64 i7] 36)) = w0 := ⟨_, rfl⟩
  have hB := Blk.new w 36 #[.int .i64 i0, .int .i64 i1, .int .i64 m, .int .i64 o, .int .i64 i4, .int .i64 i5, .int .i64 i6, .int .i64 i7]
  have hG := only_alloc (only_refl w none) (.cells #[.int .i64 i0, .int .i64 i1, .int .i64 m, .int .i64 o, .int .i64 i4, .int .i64 i5, .int .i64 i6, .int .i64 i7] 36)
  have hP0 := Blk.grown h hG (by simp)
  rw [hw0] at hB hG hP0
  have d0 := none_cell hG hpl c0
  have d1 := none_cell hG hpl c1
  have d2 := none_cell hG hpl c2
  have d3 := none_cell hG hpl c3
  have d4 := none_cell hG hpl c4
  have k2 : w0.cell? ⟨w.heap.size, 2, none⟩ = some (.int .i64 m) := hB.cell 2
  have k3 : w0.cell? ⟨w.heap.size, 3, none⟩ = some (.int .i64 o) := hB.cell 3
  have hl1 := Nat.lt_of_lt_of_le hpl hG.size
  have hl2 := hB.lt
  have q7 : (R.e != 0) = true := by simpa using hR
  have q8 : (R.e == 0) = false := by simpa using hR
  clear hR
  have HE := hide hE
  have HG := hide hG
  have HP0 := hide hP0
  clear c0 c1 c2 c3 c4 c5 c6 c7 hB hG hE hP0 hpl hz h
  go_enter Try.func12, Try.ntmps12
  go_wp2_with fail
  generalize w.heap.size = ib at k2 k3 hl2 ⊢
  clear hw0
  have Hk : Hid (∀ W : World, w0.grownBy W none → (W.cell? ⟨pb, 0, none⟩ = some (.int .i64 p.c.r) ∧ W.cell? ⟨pb, 1, none⟩ = some (.int .i64 p.c.e) ∧ W.cell? ⟨pb, 2, none⟩ = some (.int .i64 p.c.s) ∧ W.cell? ⟨pb, 3, none⟩ = some (.int .i64 p.c.g) ∧ W.cell? ⟨pb, 4, none⟩ = some (.int .i64 p.c.h) ∧ W.cell? ⟨ib, 2, none⟩ = some (.int .i64 m) ∧ W.cell? ⟨ib, 3, none⟩ = some (.int .i64 o))) :=
    hide (fun W hg => ⟨none_cell hg hl1 d0, none_cell hg hl1 d1, none_cell hg hl1 d2, none_cell hg hl1 d3, none_cell hg hl1 d4, none_cell hg hl2 k2, none_cell hg hl2 k3⟩)
  go_region_held3 (fun W => W.cell? ⟨pb, 0, none⟩ = some (.int .i64 p.c.r) ∧ W.cell? ⟨pb, 1, none⟩ = some (.int .i64 p.c.e) ∧ W.cell? ⟨pb, 2, none⟩ = some (.int .i64 p.c.s) ∧ W.cell? ⟨pb, 3, none⟩ = some (.int .i64 p.c.g) ∧ W.cell? ⟨pb, 4, none⟩ = some (.int .i64 p.c.h) ∧ W.cell? ⟨ib, 2, none⟩ = some (.int .i64 m) ∧ W.cell? ⟨ib, 3, none⟩ = some (.int .i64 o))
    (first | go_keep | exact Hk.out _ (by repeat' (first | (with_reducible exact only_refl _ _) | (with_reducible refine none_setCell ?_ ?_ _) | (with_reducible refine none_trans ?_ hg) | (with_reducible refine only_drew ?_) | (with_reducible refine only_alloc ?_ _) | omega | (simp; done) | (simp; omega))))
    ((first
      | (go_at_call 18; refine (exec_calls p.c.r p.c.e p.c.s p.c.g p.c.h m o _).mono ?_; unfold ends; rw [HE.out]; rintro e w2 ⟨rfl, hg⟩; (have hz5 := zero5 (W := w0.drew) (w2 := w2) w0.heap.size rfl (by exact hg)); (obtain ⟨⟨x0, x1, x2, x3, x4⟩, y0, y1, y2, y3, y4, xl⟩ := hz5))
      | (go_at_call 18; refine (exec_calls p.c.r p.c.e p.c.s p.c.g p.c.h m o _).mono ?_; unfold ends; rw [HE.out]; rintro e w2 ⟨rfl, hg⟩)))
  all_goals
    first
    | (have HM := hide (mid_b (R := R) HG.out HP0.out hg); clear hg)
    | (have HM := hide (mid_a (R := R) HG.out HP0.out hg); clear hg x0 x1 x2 x3 x4 y0 y1 y2 y3 y4 xl)
  all_goals
    clear d0 d1 d2 d3 d4 k2 k3 hl1 hl2 Hk
    first
    | generalize (w2.alloc (.cells #[.int .i64 R.r, .int .i64 R.e, .int .i64 R.s, .int .i64 R.g, .int .i64 R.h] 28)) = W, w2.heap.size = rb at HM ⊢
    | generalize (((((w2.setCell ⟨w0.heap.size, 0, none⟩ (.int .i64 R.r)).setCell ⟨w0.heap.size, 1, none⟩ (.int .i64 R.e)).setCell ⟨w0.heap.size, 2, none⟩ (.int .i64 R.s)).setCell ⟨w0.heap.size, 3, none⟩ (.int .i64 R.g)).setCell ⟨w0.heap.size, 4, none⟩ (.int .i64 R.h)) = W, w0.heap.size = rb at HM ⊢
    obtain ⟨⟨r0, r1, r2, r3, r4⟩, hrl⟩ := HM.out.cells
    obtain ⟨⟨c0, c1, c2, c3, c4, c5, c6, c7⟩, hpl, hz⟩ := HM.out.p.c
    have z0 := hz 0
    have z1 := hz 1
    have z2 := hz 2
    have z3 := hz 3
    have z4 := hz 4
    have z5 := hz 5
    have z6 := hz 6
    have hne := HM.out.ne
    clear hz
    go_wp2
    go_ret
    exact ⟨rfl, (((((((HM.out.p.s0 R.r).s1 R.e).s2 R.s).s3 R.g).s4 R.h).s6 false)).s5 0, by repeat' (first | (with_reducible exact only_of_none HM.out.gr _) | (refine only_setCell ?_ (.inl rfl) _))⟩

set_option maxHeartbeats 1000000 in
theorem execs_b (pb : Nat) (p : Pc) (R : Cr) (i0 i1 m o i4 i5 i6 i7 : Int) (w : World) (h : PcIs w pb p) (hE : execF p.c m o = (R, 0)) (hR : R.e = 0) (hw : p.why = 0) (hv : p.pv = false) :
    Calls Try.prog 12 #[.pointer (some ⟨pb, 0, none⟩), .agg #[.int .i64 i0, .int .i64 i1, .int .i64 m, .int .i64 o, .int .i64 i4, .int .i64 i5, .int .i64 i6, .int .i64 i7]] w fun e w' => e = .returned (.bool true) ∧ PcIs w' pb ⟨R, 3, false, p.pv⟩ ∧ w.grownBy w' (some pb) := by
  obtain ⟨⟨c0, c1, c2, c3, c4, c5, c6, c7⟩, hpl, hz⟩ := h.c
  obtain ⟨w0, hw0⟩ : ∃ w0, (w.alloc (.cells #[.int .i64 i0, .int .i64 i1, .int .i64 m, .int .i64 o, .int .i64 i4, .int .i64 i5, .int .i64 i6, .int .i64 i7] 36)) = w0 := ⟨_, rfl⟩
  have hB := Blk.new w 36 #[.int .i64 i0, .int .i64 i1, .int .i64 m, .int .i64 o, .int .i64 i4, .int .i64 i5, .int .i64 i6, .int .i64 i7]
  have hG := only_alloc (only_refl w none) (.cells #[.int .i64 i0, .int .i64 i1, .int .i64 m, .int .i64 o, .int .i64 i4, .int .i64 i5, .int .i64 i6, .int .i64 i7] 36)
  have hP0 := Blk.grown h hG (by simp)
  rw [hw0] at hB hG hP0
  have d0 := none_cell hG hpl c0
  have d1 := none_cell hG hpl c1
  have d2 := none_cell hG hpl c2
  have d3 := none_cell hG hpl c3
  have d4 := none_cell hG hpl c4
  have k2 : w0.cell? ⟨w.heap.size, 2, none⟩ = some (.int .i64 m) := hB.cell 2
  have k3 : w0.cell? ⟨w.heap.size, 3, none⟩ = some (.int .i64 o) := hB.cell 3
  have hl1 := Nat.lt_of_lt_of_le hpl hG.size
  have hl2 := hB.lt
  have q7 : (R.e != 0) = false := by simpa using hR
  have q8 : (p.why == 0) = true := by simpa using hw
  have q9 : p.pv = false := hv
  clear hR hw hv
  have HE := hide hE
  have HG := hide hG
  have HP0 := hide hP0
  clear c0 c1 c2 c3 c4 c5 c6 c7 hB hG hE hP0 hpl hz h
  go_enter Try.func12, Try.ntmps12
  go_wp2_with fail
  generalize w.heap.size = ib at k2 k3 hl2 ⊢
  clear hw0
  have Hk : Hid (∀ W : World, w0.grownBy W none → (W.cell? ⟨pb, 0, none⟩ = some (.int .i64 p.c.r) ∧ W.cell? ⟨pb, 1, none⟩ = some (.int .i64 p.c.e) ∧ W.cell? ⟨pb, 2, none⟩ = some (.int .i64 p.c.s) ∧ W.cell? ⟨pb, 3, none⟩ = some (.int .i64 p.c.g) ∧ W.cell? ⟨pb, 4, none⟩ = some (.int .i64 p.c.h) ∧ W.cell? ⟨ib, 2, none⟩ = some (.int .i64 m) ∧ W.cell? ⟨ib, 3, none⟩ = some (.int .i64 o))) :=
    hide (fun W hg => ⟨none_cell hg hl1 d0, none_cell hg hl1 d1, none_cell hg hl1 d2, none_cell hg hl1 d3, none_cell hg hl1 d4, none_cell hg hl2 k2, none_cell hg hl2 k3⟩)
  go_region_held3 (fun W => W.cell? ⟨pb, 0, none⟩ = some (.int .i64 p.c.r) ∧ W.cell? ⟨pb, 1, none⟩ = some (.int .i64 p.c.e) ∧ W.cell? ⟨pb, 2, none⟩ = some (.int .i64 p.c.s) ∧ W.cell? ⟨pb, 3, none⟩ = some (.int .i64 p.c.g) ∧ W.cell? ⟨pb, 4, none⟩ = some (.int .i64 p.c.h) ∧ W.cell? ⟨ib, 2, none⟩ = some (.int .i64 m) ∧ W.cell? ⟨ib, 3, none⟩ = some (.int .i64 o))
    (first | go_keep | exact Hk.out _ (by repeat' (first | (with_reducible exact only_refl _ _) | (with_reducible refine none_setCell ?_ ?_ _) | (with_reducible refine none_trans ?_ hg) | (with_reducible refine only_drew ?_) | (with_reducible refine only_alloc ?_ _) | omega | (simp; done) | (simp; omega))))
    ((first
      | (go_at_call 18; refine (exec_calls p.c.r p.c.e p.c.s p.c.g p.c.h m o _).mono ?_; unfold ends; rw [HE.out]; rintro e w2 ⟨rfl, hg⟩; (have hz5 := zero5 (W := w0.drew) (w2 := w2) w0.heap.size rfl (by exact hg)); (obtain ⟨⟨x0, x1, x2, x3, x4⟩, y0, y1, y2, y3, y4, xl⟩ := hz5))
      | (go_at_call 18; refine (exec_calls p.c.r p.c.e p.c.s p.c.g p.c.h m o _).mono ?_; unfold ends; rw [HE.out]; rintro e w2 ⟨rfl, hg⟩)))
  all_goals
    first
    | (have HM := hide (mid_b (R := R) HG.out HP0.out hg); clear hg)
    | (have HM := hide (mid_a (R := R) HG.out HP0.out hg); clear hg x0 x1 x2 x3 x4 y0 y1 y2 y3 y4 xl)
  all_goals
    clear d0 d1 d2 d3 d4 k2 k3 hl1 hl2 Hk
    first
    | generalize (w2.alloc (.cells #[.int .i64 R.r, .int .i64 R.e, .int .i64 R.s, .int .i64 R.g, .int .i64 R.h] 28)) = W, w2.heap.size = rb at HM ⊢
    | generalize (((((w2.setCell ⟨w0.heap.size, 0, none⟩ (.int .i64 R.r)).setCell ⟨w0.heap.size, 1, none⟩ (.int .i64 R.e)).setCell ⟨w0.heap.size, 2, none⟩ (.int .i64 R.s)).setCell ⟨w0.heap.size, 3, none⟩ (.int .i64 R.g)).setCell ⟨w0.heap.size, 4, none⟩ (.int .i64 R.h)) = W, w0.heap.size = rb at HM ⊢
    obtain ⟨⟨r0, r1, r2, r3, r4⟩, hrl⟩ := HM.out.cells
    obtain ⟨⟨c0, c1, c2, c3, c4, c5, c6, c7⟩, hpl, hz⟩ := HM.out.p.c
    have z0 := hz 0
    have z1 := hz 1
    have z2 := hz 2
    have z3 := hz 3
    have z4 := hz 4
    have z5 := hz 5
    have z6 := hz 6
    have hne := HM.out.ne
    clear hz
    go_wp2
    go_ret
    exact ⟨rfl, (((((((HM.out.p.s0 R.r).s1 R.e).s2 R.s).s3 R.g).s4 R.h).s6 false)).s5 3, by repeat' (first | (with_reducible exact only_of_none HM.out.gr _) | (refine only_setCell ?_ (.inl rfl) _))⟩

set_option maxHeartbeats 1000000 in
theorem execs_c (pb : Nat) (p : Pc) (R : Cr) (i0 i1 m o i4 i5 i6 i7 : Int) (w : World) (h : PcIs w pb p) (hE : execF p.c m o = (R, 0)) (hR : R.e = 0) (hw : p.why ≠ 0) :
    Calls Try.prog 12 #[.pointer (some ⟨pb, 0, none⟩), .agg #[.int .i64 i0, .int .i64 i1, .int .i64 m, .int .i64 o, .int .i64 i4, .int .i64 i5, .int .i64 i6, .int .i64 i7]] w fun e w' => e = .returned (.bool true) ∧ PcIs w' pb ⟨R, p.why, false, p.pv⟩ ∧ w.grownBy w' (some pb) := by
  obtain ⟨⟨c0, c1, c2, c3, c4, c5, c6, c7⟩, hpl, hz⟩ := h.c
  obtain ⟨w0, hw0⟩ : ∃ w0, (w.alloc (.cells #[.int .i64 i0, .int .i64 i1, .int .i64 m, .int .i64 o, .int .i64 i4, .int .i64 i5, .int .i64 i6, .int .i64 i7] 36)) = w0 := ⟨_, rfl⟩
  have hB := Blk.new w 36 #[.int .i64 i0, .int .i64 i1, .int .i64 m, .int .i64 o, .int .i64 i4, .int .i64 i5, .int .i64 i6, .int .i64 i7]
  have hG := only_alloc (only_refl w none) (.cells #[.int .i64 i0, .int .i64 i1, .int .i64 m, .int .i64 o, .int .i64 i4, .int .i64 i5, .int .i64 i6, .int .i64 i7] 36)
  have hP0 := Blk.grown h hG (by simp)
  rw [hw0] at hB hG hP0
  have d0 := none_cell hG hpl c0
  have d1 := none_cell hG hpl c1
  have d2 := none_cell hG hpl c2
  have d3 := none_cell hG hpl c3
  have d4 := none_cell hG hpl c4
  have k2 : w0.cell? ⟨w.heap.size, 2, none⟩ = some (.int .i64 m) := hB.cell 2
  have k3 : w0.cell? ⟨w.heap.size, 3, none⟩ = some (.int .i64 o) := hB.cell 3
  have hl1 := Nat.lt_of_lt_of_le hpl hG.size
  have hl2 := hB.lt
  have q7 : (R.e != 0) = false := by simpa using hR
  have q8 : (p.why == 0) = false := by simpa using hw
  clear hR hw
  have HE := hide hE
  have HG := hide hG
  have HP0 := hide hP0
  clear c0 c1 c2 c3 c4 c5 c6 c7 hB hG hE hP0 hpl hz h
  go_enter Try.func12, Try.ntmps12
  go_wp2_with fail
  generalize w.heap.size = ib at k2 k3 hl2 ⊢
  clear hw0
  have Hk : Hid (∀ W : World, w0.grownBy W none → (W.cell? ⟨pb, 0, none⟩ = some (.int .i64 p.c.r) ∧ W.cell? ⟨pb, 1, none⟩ = some (.int .i64 p.c.e) ∧ W.cell? ⟨pb, 2, none⟩ = some (.int .i64 p.c.s) ∧ W.cell? ⟨pb, 3, none⟩ = some (.int .i64 p.c.g) ∧ W.cell? ⟨pb, 4, none⟩ = some (.int .i64 p.c.h) ∧ W.cell? ⟨ib, 2, none⟩ = some (.int .i64 m) ∧ W.cell? ⟨ib, 3, none⟩ = some (.int .i64 o))) :=
    hide (fun W hg => ⟨none_cell hg hl1 d0, none_cell hg hl1 d1, none_cell hg hl1 d2, none_cell hg hl1 d3, none_cell hg hl1 d4, none_cell hg hl2 k2, none_cell hg hl2 k3⟩)
  go_region_held3 (fun W => W.cell? ⟨pb, 0, none⟩ = some (.int .i64 p.c.r) ∧ W.cell? ⟨pb, 1, none⟩ = some (.int .i64 p.c.e) ∧ W.cell? ⟨pb, 2, none⟩ = some (.int .i64 p.c.s) ∧ W.cell? ⟨pb, 3, none⟩ = some (.int .i64 p.c.g) ∧ W.cell? ⟨pb, 4, none⟩ = some (.int .i64 p.c.h) ∧ W.cell? ⟨ib, 2, none⟩ = some (.int .i64 m) ∧ W.cell? ⟨ib, 3, none⟩ = some (.int .i64 o))
    (first | go_keep | exact Hk.out _ (by repeat' (first | (with_reducible exact only_refl _ _) | (with_reducible refine none_setCell ?_ ?_ _) | (with_reducible refine none_trans ?_ hg) | (with_reducible refine only_drew ?_) | (with_reducible refine only_alloc ?_ _) | omega | (simp; done) | (simp; omega))))
    ((first
      | (go_at_call 18; refine (exec_calls p.c.r p.c.e p.c.s p.c.g p.c.h m o _).mono ?_; unfold ends; rw [HE.out]; rintro e w2 ⟨rfl, hg⟩; (have hz5 := zero5 (W := w0.drew) (w2 := w2) w0.heap.size rfl (by exact hg)); (obtain ⟨⟨x0, x1, x2, x3, x4⟩, y0, y1, y2, y3, y4, xl⟩ := hz5))
      | (go_at_call 18; refine (exec_calls p.c.r p.c.e p.c.s p.c.g p.c.h m o _).mono ?_; unfold ends; rw [HE.out]; rintro e w2 ⟨rfl, hg⟩)))
  all_goals
    first
    | (have HM := hide (mid_b (R := R) HG.out HP0.out hg); clear hg)
    | (have HM := hide (mid_a (R := R) HG.out HP0.out hg); clear hg x0 x1 x2 x3 x4 y0 y1 y2 y3 y4 xl)
  all_goals
    clear d0 d1 d2 d3 d4 k2 k3 hl1 hl2 Hk
    first
    | generalize (w2.alloc (.cells #[.int .i64 R.r, .int .i64 R.e, .int .i64 R.s, .int .i64 R.g, .int .i64 R.h] 28)) = W, w2.heap.size = rb at HM ⊢
    | generalize (((((w2.setCell ⟨w0.heap.size, 0, none⟩ (.int .i64 R.r)).setCell ⟨w0.heap.size, 1, none⟩ (.int .i64 R.e)).setCell ⟨w0.heap.size, 2, none⟩ (.int .i64 R.s)).setCell ⟨w0.heap.size, 3, none⟩ (.int .i64 R.g)).setCell ⟨w0.heap.size, 4, none⟩ (.int .i64 R.h)) = W, w0.heap.size = rb at HM ⊢
    obtain ⟨⟨r0, r1, r2, r3, r4⟩, hrl⟩ := HM.out.cells
    obtain ⟨⟨c0, c1, c2, c3, c4, c5, c6, c7⟩, hpl, hz⟩ := HM.out.p.c
    have z0 := hz 0
    have z1 := hz 1
    have z2 := hz 2
    have z3 := hz 3
    have z4 := hz 4
    have z5 := hz 5
    have z6 := hz 6
    have hne := HM.out.ne
    clear hz
    go_wp2
    go_ret
    exact ⟨rfl, ((((((HM.out.p.s0 R.r).s1 R.e).s2 R.s).s3 R.g).s4 R.h).s6 false), by repeat' (first | (with_reducible exact only_of_none HM.out.gr _) | (refine only_setCell ?_ (.inl rfl) _))⟩

set_option maxHeartbeats 1000000 in
theorem execs_d (pb : Nat) (p : Pc) (R : Cr) (i0 i1 m o i4 i5 i6 i7 : Int) (w : World) (h : PcIs w pb p) (hE : execF p.c m o = (R, 0)) (hR : R.e = 0) (hw : p.why = 0) (hv : p.pv = true) :
    Calls Try.prog 12 #[.pointer (some ⟨pb, 0, none⟩), .agg #[.int .i64 i0, .int .i64 i1, .int .i64 m, .int .i64 o, .int .i64 i4, .int .i64 i5, .int .i64 i6, .int .i64 i7]] w fun e w' => e = .returned (.bool true) ∧ PcIs w' pb ⟨R, p.why, false, p.pv⟩ ∧ w.grownBy w' (some pb) := by
  obtain ⟨⟨c0, c1, c2, c3, c4, c5, c6, c7⟩, hpl, hz⟩ := h.c
  obtain ⟨w0, hw0⟩ : ∃ w0, (w.alloc (.cells #[.int .i64 i0, .int .i64 i1, .int .i64 m, .int .i64 o, .int .i64 i4, .int .i64 i5, .int .i64 i6, .int .i64 i7] 36)) = w0 := ⟨_, rfl⟩
  have hB := Blk.new w 36 #[.int .i64 i0, .int .i64 i1, .int .i64 m, .int .i64 o, .int .i64 i4, .int .i64 i5, .int .i64 i6, .int .i64 i7]
  have hG := only_alloc (only_refl w none) (.cells #[.int .i64 i0, .int .i64 i1, .int .i64 m, .int .i64 o, .int .i64 i4, .int .i64 i5, .int .i64 i6, .int .i64 i7] 36)
  have hP0 := Blk.grown h hG (by simp)
  rw [hw0] at hB hG hP0
  have d0 := none_cell hG hpl c0
  have d1 := none_cell hG hpl c1
  have d2 := none_cell hG hpl c2
  have d3 := none_cell hG hpl c3
  have d4 := none_cell hG hpl c4
  have k2 : w0.cell? ⟨w.heap.size, 2, none⟩ = some (.int .i64 m) := hB.cell 2
  have k3 : w0.cell? ⟨w.heap.size, 3, none⟩ = some (.int .i64 o) := hB.cell 3
  have hl1 := Nat.lt_of_lt_of_le hpl hG.size
  have hl2 := hB.lt
  have q7 : (R.e != 0) = false := by simpa using hR
  have q8 : (p.why == 0) = true := by simpa using hw
  have q9 : p.pv = true := hv
  clear hR hw hv
  have HE := hide hE
  have HG := hide hG
  have HP0 := hide hP0
  clear c0 c1 c2 c3 c4 c5 c6 c7 hB hG hE hP0 hpl hz h
  go_enter Try.func12, Try.ntmps12
  go_wp2_with fail
  generalize w.heap.size = ib at k2 k3 hl2 ⊢
  clear hw0
  have Hk : Hid (∀ W : World, w0.grownBy W none → (W.cell? ⟨pb, 0, none⟩ = some (.int .i64 p.c.r) ∧ W.cell? ⟨pb, 1, none⟩ = some (.int .i64 p.c.e) ∧ W.cell? ⟨pb, 2, none⟩ = some (.int .i64 p.c.s) ∧ W.cell? ⟨pb, 3, none⟩ = some (.int .i64 p.c.g) ∧ W.cell? ⟨pb, 4, none⟩ = some (.int .i64 p.c.h) ∧ W.cell? ⟨ib, 2, none⟩ = some (.int .i64 m) ∧ W.cell? ⟨ib, 3, none⟩ = some (.int .i64 o))) :=
    hide (fun W hg => ⟨none_cell hg hl1 d0, none_cell hg hl1 d1, none_cell hg hl1 d2, none_cell hg hl1 d3, none_cell hg hl1 d4, none_cell hg hl2 k2, none_cell hg hl2 k3⟩)
  go_region_held3 (fun W => W.cell? ⟨pb, 0, none⟩ = some (.int .i64 p.c.r) ∧ W.cell? ⟨pb, 1, none⟩ = some (.int .i64 p.c.e) ∧ W.cell? ⟨pb, 2, none⟩ = some (.int .i64 p.c.s) ∧ W.cell? ⟨pb, 3, none⟩ = some (.int .i64 p.c.g) ∧ W.cell? ⟨pb, 4, none⟩ = some (.int .i64 p.c.h) ∧ W.cell? ⟨ib, 2, none⟩ = some (.int .i64 m) ∧ W.cell? ⟨ib, 3, none⟩ = some (.int .i64 o))
    (first | go_keep | exact Hk.out _ (by repeat' (first | (with_reducible exact only_refl _ _) | (with_reducible refine none_setCell ?_ ?_ _) | (with_reducible refine none_trans ?_ hg) | (with_reducible refine only_drew ?_) | (with_reducible refine only_alloc ?_ _) | omega | (simp; done) | (simp; omega))))
    ((first
      | (go_at_call 18; refine (exec_calls p.c.r p.c.e p.c.s p.c.g p.c.h m o _).mono ?_; unfold ends; rw [HE.out]; rintro e w2 ⟨rfl, hg⟩; (have hz5 := zero5 (W := w0.drew) (w2 := w2) w0.heap.size rfl (by exact hg)); (obtain ⟨⟨x0, x1, x2, x3, x4⟩, y0, y1, y2, y3, y4, xl⟩ := hz5))
      | (go_at_call 18; refine (exec_calls p.c.r p.c.e p.c.s p.c.g p.c.h m o _).mono ?_; unfold ends; rw [HE.out]; rintro e w2 ⟨rfl, hg⟩)))
  all_goals
    first
    | (have HM := hide (mid_b (R := R) HG.out HP0.out hg); clear hg)
    | (have HM := hide (mid_a (R := R) HG.out HP0.out hg); clear hg x0 x1 x2 x3 x4 y0 y1 y2 y3 y4 xl)
  all_goals
    clear d0 d1 d2 d3 d4 k2 k3 hl1 hl2 Hk
    first
    | generalize (w2.alloc (.cells #[.int .i64 R.r, .int .i64 R.e, .int .i64 R.s, .int .i64 R.g, .int .i64 R.h] 28)) = W, w2.heap.size = rb at HM ⊢
    | generalize (((((w2.setCell ⟨w0.heap.size, 0, none⟩ (.int .i64 R.r)).setCell ⟨w0.heap.size, 1, none⟩ (.int .i64 R.e)).setCell ⟨w0.heap.size, 2, none⟩ (.int .i64 R.s)).setCell ⟨w0.heap.size, 3, none⟩ (.int .i64 R.g)).setCell ⟨w0.heap.size, 4, none⟩ (.int .i64 R.h)) = W, w0.heap.size = rb at HM ⊢
    obtain ⟨⟨r0, r1, r2, r3, r4⟩, hrl⟩ := HM.out.cells
    obtain ⟨⟨c0, c1, c2, c3, c4, c5, c6, c7⟩, hpl, hz⟩ := HM.out.p.c
    have z0 := hz 0
    have z1 := hz 1
    have z2 := hz 2
    have z3 := hz 3
    have z4 := hz 4
    have z5 := hz 5
    have z6 := hz 6
    have hne := HM.out.ne
    clear hz
    go_wp2
    go_ret
    exact ⟨rfl, ((((((HM.out.p.s0 R.r).s1 R.e).s2 R.s).s3 R.g).s4 R.h).s6 false), by repeat' (first | (with_reducible exact only_of_none HM.out.gr _) | (refine only_setCell ?_ (.inl rfl) _))⟩

end Go.Proofs.Ytolmpejaakpikaa
