/- The book and the events; the walk of fork. -/
import Derived.Test.YtolmpejaakpikaaC
set_option linter.all false
namespace Go.Proofs.Ytolmpejaakpikaa
open Go.RowKit Go.Maps

structure Ev where
  pid : Int
  cr : Cr
  cl : Cl
  err : Int
  an : Int
  i : Nat → Int
  v : Nat → Value
def Ev.cells (e : Ev) : Array Value := #[.int .i64 e.pid, .int .i64 e.cr.r, .int .i64 e.cr.e, .int .i64 e.cr.s, .int .i64 e.cr.g, .int .i64 e.cr.h,
  .int .i64 e.cl.op, e.cl.v 1, e.cl.v 2, e.cl.v 3, e.cl.v 4, e.cl.v 5, .int .i64 e.cl.n, e.cl.v 7, .int .i64 e.cl.own, .int .i64 e.cl.grp, e.cl.v 10, e.cl.v 11, e.cl.v 12, e.cl.v 13, e.cl.v 14, e.cl.v 15, e.cl.v 16, e.cl.v 17, e.cl.v 18, e.cl.v 19,
  .int .i64 e.err, .int .i64 e.an, e.v 28, e.v 29, e.v 30, .int .i64 (e.i 0), .int .i64 (e.i 1), .int .i64 (e.i 2), .int .i64 (e.i 3), .int .i64 (e.i 4), .int .i64 (e.i 5), .int .i64 (e.i 6), .int .i64 (e.i 7), e.v 39, e.v 40, e.v 41, e.v 42, e.v 43, e.v 44]

structure Bk where
  m : Int → Option Pc
  last : Int
def Bk.mv (b : Bk) : Int → Option Value := fun k => (b.m k).map Pc.agg
structure BookAt (w : World) (b mb n : Nat) (st : Bk) : Prop where
  blk : Blk w b 48 #[.map (some mb), .int .i64 st.last]
  map : MapIs Try.prog 3 w mb n st.mv
  n : n ≤ 100000
def bOwn (b mb : Nat) : Nat → Prop := fun k => k = b ∨ k = mb
theorem BookAt.ne {w : World} {b mb n : Nat} {st : Bk} (h : BookAt w b mb n st) : b ≠ mb := h.map.notCells h.blk
theorem BookAt.chg {w w' : World} {b mb n : Nat} {st : Bk} {S : Nat → Prop} (h : BookAt w b mb n st) (hc : Chg S w w') (h1 : ¬ S b) (h2 : ¬ S mb) : BookAt w' b mb n st := ⟨h.blk.chg hc h1, h.map.chg hc h2, h.n⟩
theorem BookAt.gr {w w' : World} {b mb n : Nat} {st : Bk} (h : BookAt w b mb n st) (hg : w.grownBy w' none) : BookAt w' b mb n st := h.chg (Chg.of_grown hg (fun _ h => by cases h) : Chg nobody w w') (fun h => h) (fun h => h)

def Fp (b mb pk : Nat) (p : Pc) (W : World) : Prop := W.cell? ⟨b, 0, none⟩ = some (.map (some mb)) ∧ W.cell? ⟨pk, 0, none⟩ = some (.int .i64 p.c.r) ∧ W.cell? ⟨pk, 1, none⟩ = some (.int .i64 p.c.e) ∧ W.cell? ⟨pk, 2, none⟩ = some (.int .i64 p.c.s) ∧ W.cell? ⟨pk, 3, none⟩ = some (.int .i64 p.c.g) ∧ W.cell? ⟨pk, 4, none⟩ = some (.int .i64 p.c.h) ∧ W.cell? ⟨pk, 5, none⟩ = some (.int .i64 p.why) ∧ W.cell? ⟨pk, 6, none⟩ = some (.bool p.nt) ∧ W.cell? ⟨pk, 7, none⟩ = some (.bool p.pv)
theorem Fp.of {b mb pk : Nat} {p : Pc} {W : World} (h0 : W.cell? ⟨b, 0, none⟩ = some (.map (some mb))) (h : PcIs W pk p) : Fp b mb pk p W := ⟨h0, (h.c).1⟩
def updB (m : Int → Option Pc) (k : Int) (v : Option Pc) : Int → Option Pc := fun x => if x = k then v else m x
theorem mv_upd (st : Bk) (k : Int) (v : Option Pc) (l : Int) : (Bk.mk (updB st.m k v) l).mv = updM st.mv k (v.map Pc.agg) := by
  funext x
  unfold Bk.mv updB updM
  simp only
  split <;> rfl
theorem zero45 (W : World) : (zeroValue 45).run Try.prog W = .ok (Pc.agg ⟨zero, 0, false, false⟩) W := by kernel_rfl

set_option maxHeartbeats 2000000 in
theorem fork_one (b mb n : Nat) (st : Bk) (p : Pc) (e : Ev) (w : World) (h : BookAt w b mb n st) (hn : n < 100000) (hl : st.last < e.an) (hw : wfi e.an) (h1 : (e.pid == 1) = true) :
    Calls Try.prog 11 #[.pointer (some ⟨b, 0, none⟩), p.agg, .agg e.cells] w fun x w' => x = .returned (.bool true) ∧ BookAt w' b mb (n + 1) ⟨updB st.m e.an (some ⟨p.c, 2, false, p.pv⟩), e.an⟩ ∧ Chg (bOwn b mb) w w' := by
  obtain ⟨p1, hp1⟩ : ∃ p1 : Pc, (⟨p.c, 2, false, p.pv⟩ : Pc) = p1 := ⟨_, rfl⟩
  rw [hp1]
  have Hp1 := hide hp1
  clear hp1
  obtain ⟨w0, hw0⟩ : ∃ w0, ((w.alloc (.cells p.cells.toArray 45)).alloc (.cells e.cells 40)) = w0 := ⟨_, rfl⟩
  obtain ⟨CC, hCC⟩ : ∃ CC, e.cells = CC := ⟨_, rfl⟩
  have hB := Blk.new (w.alloc (.cells p.cells.toArray 45)) 40 e.cells
  have k0 : ((w.alloc (.cells p.cells.toArray 45)).alloc (.cells e.cells 40)).cell? ⟨w.heap.size + 1, 0, none⟩ = some (.int .i64 e.pid) := by have := hB.cell 0; rw [World.size_alloc] at this; exact this
  have k27 : ((w.alloc (.cells p.cells.toArray 45)).alloc (.cells e.cells 40)).cell? ⟨w.heap.size + 1, 27, none⟩ = some (.int .i64 e.an) := by have := hB.cell 27; rw [World.size_alloc] at this; exact this
  have hG := only_alloc (only_alloc (only_refl w none) (.cells p.cells.toArray 45)) (.cells e.cells 40)
  have hP0 : PcIs ((w.alloc (.cells p.cells.toArray 45)).alloc (.cells e.cells 40)) w.heap.size p := Blk.chg (Blk.new w 45 p.cells.toArray) ((Chg.refl nobody _).alloc _) (fun h => h)
  have hT := h.gr hG
  have hbw : b < w.heap.size := h.blk.lt
  unfold Pc.cells at hw0 k0 k27 hG hP0 hT
  rw [hCC] at hw0 k0 k27 hG hP0 hT
  rw [hw0] at hP0 hT k0 k27 hG
  obtain ⟨⟨c0, c1, c2, c3, c4, c5, c6, c7⟩, hpl, hz⟩ := hP0.c
  have b0 : w0.cell? ⟨b, 0, none⟩ = some (.map (some mb)) := hT.blk.cell 0
  have b1 : w0.cell? ⟨b, 1, none⟩ = some (.int .i64 st.last) := hT.blk.cell 1
  have hbl := hT.blk.lt
  have z5 := hz 5
  have z6 := hz 6
  have q1 : decide (e.an ≤ st.last) = false := by simp; omega
  have HT := hide hT
  have HP := hide hP0
  have HG := hide hG
  have Hw := hide hw
  have Hmb := hide (show mb < w.heap.size from h.map.lt)
  clear hB hT hP0 h hG hz hl hw
  rw [hCC]
  unfold Pc.agg
  go_enter Try.func11, Try.ntmps11
  go_wp2_with fail
  have hP1 : PcIs ((w0.setCell ⟨w.heap.size, 6, none⟩ (.bool false)).setCell ⟨w.heap.size, 5, none⟩ (.int .i64 2)) w.heap.size p1 := by rw [← Hp1.out]; exact (HP.out.s6 false).s5 2
  have hC1 : Chg nobody w ((w0.setCell ⟨w.heap.size, 6, none⟩ (.bool false)).setCell ⟨w.heap.size, 5, none⟩ (.int .i64 2)) := ((Chg.of_grown HG.out (fun _ h => by cases h) : Chg nobody w w0).setCell (p := ⟨w.heap.size, 6, none⟩) (.inr (Nat.le_refl _)) _).setCell (p := ⟨w.heap.size, 5, none⟩) (.inr (Nat.le_refl _)) _
  have hT1 : BookAt ((w0.setCell ⟨w.heap.size, 6, none⟩ (.bool false)).setCell ⟨w.heap.size, 5, none⟩ (.int .i64 2)) b mb n st := HT.out.chg (S := one_ w.heap.size) (((Chg.refl (one_ w.heap.size) w0).setCell (p := ⟨w.heap.size, 6, none⟩) (.inl rfl) _).setCell (p := ⟨w.heap.size, 5, none⟩) (.inl rfl) _) (fun e => by have : b = w.heap.size := e; omega) (fun e => by have h1 := Hmb.out; have : mb = w.heap.size := e; omega)
  have Hpk := hide (show w.heap.size ≠ b ∧ w.heap.size ≠ mb from ⟨by omega, by have := Hmb.out; omega⟩)
  generalize (w0.setCell ⟨w.heap.size, 6, none⟩ (.bool false)).setCell ⟨w.heap.size, 5, none⟩ (.int .i64 2) = W at hP1 hC1 hT1 ⊢
  generalize w.heap.size = pk at hP1 Hpk ⊢
  clear c0 c1 c2 c3 c4 c5 c6 c7 b0 b1 z5 z6 k0 k27 hbl hpl hw0
  have HT1 := hide hT1
  have HP1 := hide hP1
  have HC1 := hide hC1
  have b0 : W.drew.cell? ⟨b, 0, none⟩ = some (.map (some mb)) := hT1.blk.cell 0
  have b1 : W.drew.cell? ⟨b, 1, none⟩ = some (.int .i64 st.last) := hT1.blk.cell 1
  have zb : W.drew.frozen? ⟨b, 1, none⟩ = false := hT1.blk.frozen 1
  have hbl : b < W.heap.size := hT1.blk.lt
  have hfs : Fp b mb pk p1 W.drew := Fp.of b0 (Blk.chg hP1 ((Chg.refl nobody W).drew) (fun h => h))
  have hTV : BookAt (W.setCell ⟨b, 1, none⟩ (.int .i64 e.an)).drew b mb n ⟨st.m, e.an⟩ := ⟨Blk.chg (hT1.blk.set_ 1 _) ((Chg.refl nobody _).drew) (fun h => h), hT1.map.chg (S := one_ b) ((Chg.refl (one_ b) W).setCell (p := ⟨b, 1, none⟩) (.inl rfl) _).drew (fun e => hT1.ne e.symm), hT1.n⟩
  have hPV : PcIs (W.setCell ⟨b, 1, none⟩ (.int .i64 e.an)).drew pk p1 := Blk.chg (Blk.far hP1 (by exact Hpk.out.1) _) ((Chg.refl nobody _).drew) (fun h => h)
  obtain ⟨v0, sn, w9, hme, hg9, hes⟩ := hTV.map.entry Try.underlying3 Hw.out (by omega) 46 Try.underlying46 zero45
  have hfs1 : Fp b mb pk p1 (W.setCell ⟨b, 1, none⟩ (.int .i64 e.an)).drew := Fp.of (hTV.blk.cell 0) hPV
  have hfs2 : Fp b mb pk p1 w9 := Fp.of (Blk.cell (Blk.grown hTV.blk hg9 (by simpa using hTV.ne)) 0) (Blk.grown hPV hg9 (by simpa using Hpk.out.2))
  have Hme := hide hme
  have Hg9 := hide hg9
  have Hes := hide hes
  have HTV := hide hTV
  clear hT1 hP1 hC1 hme hg9 hes hTV
  refine wp_region_perm [0, 1, 2, 3, 4, 5, 6, 7] [8, 9, 10, 11, 12, 13] (by kernel_rfl) (by kernel_rfl) (Fp b mb pk p1) hfs ?_
  simp only [pick, List.getElem?_cons_zero, List.getElem?_cons_succ]
  repeat
    refine wpTake_cons ?_ (by rfl) ?_ ?_
    rotate_left
    · (intro W9 hSW; obtain ⟨hS0, hS1, hS2, hS3, hS4, hS5, hS6, hS7, hS8⟩ := hSW; go_simp; try with_reducible rfl)
    simp only [Act.put, List.setIfInBounds_toArray, List.set_cons_zero, List.set_cons_succ]
  refine wpTake_nil ?_
  refine wpForce_cons fun K1 hK1 => ?_
  refine step_val (.pointer (some ⟨b, 0, none⟩)) W.drew (by rfl) (by go_simp) ?_
  refine hK1.out _ _ hfs ?_
  simp only [Act.put, List.setIfInBounds_toArray, List.set_cons_zero, List.set_cons_succ]
  refine wpForce_cons fun K2 hK2 => ?_
  refine step_val (.pointer (some ⟨b, 1, none⟩)) W.drew (by rfl) (by go_simp) ?_
  refine hK2.out _ _ hfs ?_
  simp only [Act.put, List.setIfInBounds_toArray, List.set_cons_zero, List.set_cons_succ]
  refine wpForce_cons fun K3 hK3 => ?_
  refine step_skip (W.setCell ⟨b, 1, none⟩ (.int .i64 e.an)).drew (by rfl) (by go_simp) ?_
  refine hK3.out _ _ hfs1 ?_
  simp only [Act.put, List.setIfInBounds_toArray, List.set_cons_zero, List.set_cons_succ]
  refine wpForce_cons fun K4 hK4 => ?_
  refine step_val (.tuple #[v0, goInt sn]) w9 (by rfl) (by simp [execOp, go_sem, Hme.out]) ?_
  refine hK4.out _ _ hfs2 ?_
  simp only [Act.put, List.setIfInBounds_toArray, List.set_cons_zero, List.set_cons_succ]
  refine wpForce_cons fun K5 hK5 => ?_
  refine step_val (goInt sn) w9 (by rfl) (by go_simp; try rfl) ?_
  refine hK5.out _ _ hfs2 ?_
  simp only [Act.put, List.setIfInBounds_toArray, List.set_cons_zero, List.set_cons_succ]
  refine wpForce_one ?_
  clear hK1 hK2 hK3 hK4 hK5
  clear K1 K2 K3 K4 K5
  obtain ⟨w', hw1, hw2, hw3⟩ := Hes.out w9 p1.agg rfl
  have Hfin : Hid (BookAt w' b mb (n + 1) ⟨updB st.m e.an (some p1), e.an⟩ ∧ Chg (bOwn b mb) w w') := by
    refine hide ⟨⟨?_, ?_, by omega⟩, ?_⟩
    · exact Blk.grown (Blk.grown HTV.out.blk Hg9.out (by simpa using HTV.out.ne)) hw3 (by simpa using HTV.out.ne)
    · rw [mv_upd]
      exact hw2
    · have e1 : Chg (bOwn b mb) w (W.setCell ⟨b, 1, none⟩ (.int .i64 e.an)).drew := ((HC1.out.mono (fun _ _ h => h.elim) : Chg (bOwn b mb) w W).setCell (p := ⟨b, 1, none⟩) (.inl (.inl rfl)) _).drew
      have e2 := e1.trans (Chg.of_grown Hg9.out (fun k hk => by injection hk with hk; exact hk.symm) : Chg (one_ mb) _ _) (fun k _ hk => .inr hk)
      exact e2.trans (Chg.of_grown hw3 (fun k hk => by injection hk with hk; exact hk.symm) : Chg (one_ mb) _ _) (fun k _ hk => .inr hk)
  have Hw1 := hide hw1
  clear hw1 hw2 hw3
  refine wpList_plain rfl fun K hK => ?_
  unfold Oper.wp
  have hagg : (.agg #[.int .i64 p1.c.r, .int .i64 p1.c.e, .int .i64 p1.c.s, .int .i64 p1.c.g, .int .i64 p1.c.h, .int .i64 p1.why, .bool p1.nt, .bool p1.pv] : Value) = p1.agg := rfl
  have hw1 := Hw1.out
  rw [← hagg] at hw1
  simp only [goInt] at hw1
  simp [execOp, go_sem, hw1]
  refine hK _ _ ?_
  go_wp2
  refine NoPanic.normal ?_
  go_wp2
  go_ret
  exact ⟨rfl, Hfin.out.1, Hfin.out.2⟩

set_option maxHeartbeats 2000000 in
theorem fork_other (b mb n : Nat) (st : Bk) (p : Pc) (e : Ev) (w : World) (h : BookAt w b mb n st) (hn : n < 100000) (hl : st.last < e.an) (hw : wfi e.an) (h1 : (e.pid == 1) = false) :
    Calls Try.prog 11 #[.pointer (some ⟨b, 0, none⟩), p.agg, .agg e.cells] w fun x w' => x = .returned (.bool true) ∧ BookAt w' b mb (n + 1) ⟨updB st.m e.an (some ⟨p.c, p.why, false, p.pv⟩), e.an⟩ ∧ Chg (bOwn b mb) w w' := by
  obtain ⟨p1, hp1⟩ : ∃ p1 : Pc, (⟨p.c, p.why, false, p.pv⟩ : Pc) = p1 := ⟨_, rfl⟩
  rw [hp1]
  have Hp1 := hide hp1
  clear hp1
  obtain ⟨w0, hw0⟩ : ∃ w0, ((w.alloc (.cells p.cells.toArray 45)).alloc (.cells e.cells 40)) = w0 := ⟨_, rfl⟩
  obtain ⟨CC, hCC⟩ : ∃ CC, e.cells = CC := ⟨_, rfl⟩
  have hB := Blk.new (w.alloc (.cells p.cells.toArray 45)) 40 e.cells
  have k0 : ((w.alloc (.cells p.cells.toArray 45)).alloc (.cells e.cells 40)).cell? ⟨w.heap.size + 1, 0, none⟩ = some (.int .i64 e.pid) := by have := hB.cell 0; rw [World.size_alloc] at this; exact this
  have k27 : ((w.alloc (.cells p.cells.toArray 45)).alloc (.cells e.cells 40)).cell? ⟨w.heap.size + 1, 27, none⟩ = some (.int .i64 e.an) := by have := hB.cell 27; rw [World.size_alloc] at this; exact this
  have hG := only_alloc (only_alloc (only_refl w none) (.cells p.cells.toArray 45)) (.cells e.cells 40)
  have hP0 : PcIs ((w.alloc (.cells p.cells.toArray 45)).alloc (.cells e.cells 40)) w.heap.size p := Blk.chg (Blk.new w 45 p.cells.toArray) ((Chg.refl nobody _).alloc _) (fun h => h)
  have hT := h.gr hG
  have hbw : b < w.heap.size := h.blk.lt
  unfold Pc.cells at hw0 k0 k27 hG hP0 hT
  rw [hCC] at hw0 k0 k27 hG hP0 hT
  rw [hw0] at hP0 hT k0 k27 hG
  obtain ⟨⟨c0, c1, c2, c3, c4, c5, c6, c7⟩, hpl, hz⟩ := hP0.c
  have b0 : w0.cell? ⟨b, 0, none⟩ = some (.map (some mb)) := hT.blk.cell 0
  have b1 : w0.cell? ⟨b, 1, none⟩ = some (.int .i64 st.last) := hT.blk.cell 1
  have hbl := hT.blk.lt
  have z5 := hz 5
  have z6 := hz 6
  have q1 : decide (e.an ≤ st.last) = false := by simp; omega
  have HT := hide hT
  have HP := hide hP0
  have HG := hide hG
  have Hw := hide hw
  have Hmb := hide (show mb < w.heap.size from h.map.lt)
  clear hB hT hP0 h hG hz hl hw
  rw [hCC]
  unfold Pc.agg
  go_enter Try.func11, Try.ntmps11
  go_wp2_with fail
  have hP1 : PcIs (w0.setCell ⟨w.heap.size, 6, none⟩ (.bool false)) w.heap.size p1 := by rw [← Hp1.out]; exact HP.out.s6 false
  have hC1 : Chg nobody w (w0.setCell ⟨w.heap.size, 6, none⟩ (.bool false)) := (Chg.of_grown HG.out (fun _ h => by cases h) : Chg nobody w w0).setCell (p := ⟨w.heap.size, 6, none⟩) (.inr (Nat.le_refl _)) _
  have hT1 : BookAt (w0.setCell ⟨w.heap.size, 6, none⟩ (.bool false)) b mb n st := HT.out.chg (S := one_ w.heap.size) ((Chg.refl (one_ w.heap.size) w0).setCell (p := ⟨w.heap.size, 6, none⟩) (.inl rfl) _) (fun e => by have : b = w.heap.size := e; omega) (fun e => by have h1 := Hmb.out; have : mb = w.heap.size := e; omega)
  have Hpk := hide (show w.heap.size ≠ b ∧ w.heap.size ≠ mb from ⟨by omega, by have := Hmb.out; omega⟩)
  generalize w0.setCell ⟨w.heap.size, 6, none⟩ (.bool false) = W at hP1 hC1 hT1 ⊢
  generalize w.heap.size = pk at hP1 Hpk ⊢
  clear c0 c1 c2 c3 c4 c5 c6 c7 b0 b1 z5 z6 k0 k27 hbl hpl hw0
  have HT1 := hide hT1
  have HP1 := hide hP1
  have HC1 := hide hC1
  have b0 : W.drew.cell? ⟨b, 0, none⟩ = some (.map (some mb)) := hT1.blk.cell 0
  have b1 : W.drew.cell? ⟨b, 1, none⟩ = some (.int .i64 st.last) := hT1.blk.cell 1
  have zb : W.drew.frozen? ⟨b, 1, none⟩ = false := hT1.blk.frozen 1
  have hbl : b < W.heap.size := hT1.blk.lt
  have hfs : Fp b mb pk p1 W.drew := Fp.of b0 (Blk.chg hP1 ((Chg.refl nobody W).drew) (fun h => h))
  have hTV : BookAt (W.setCell ⟨b, 1, none⟩ (.int .i64 e.an)).drew b mb n ⟨st.m, e.an⟩ := ⟨Blk.chg (hT1.blk.set_ 1 _) ((Chg.refl nobody _).drew) (fun h => h), hT1.map.chg (S := one_ b) ((Chg.refl (one_ b) W).setCell (p := ⟨b, 1, none⟩) (.inl rfl) _).drew (fun e => hT1.ne e.symm), hT1.n⟩
  have hPV : PcIs (W.setCell ⟨b, 1, none⟩ (.int .i64 e.an)).drew pk p1 := Blk.chg (Blk.far hP1 (by exact Hpk.out.1) _) ((Chg.refl nobody _).drew) (fun h => h)
  obtain ⟨v0, sn, w9, hme, hg9, hes⟩ := hTV.map.entry Try.underlying3 Hw.out (by omega) 46 Try.underlying46 zero45
  have hfs1 : Fp b mb pk p1 (W.setCell ⟨b, 1, none⟩ (.int .i64 e.an)).drew := Fp.of (hTV.blk.cell 0) hPV
  have hfs2 : Fp b mb pk p1 w9 := Fp.of (Blk.cell (Blk.grown hTV.blk hg9 (by simpa using hTV.ne)) 0) (Blk.grown hPV hg9 (by simpa using Hpk.out.2))
  have Hme := hide hme
  have Hg9 := hide hg9
  have Hes := hide hes
  have HTV := hide hTV
  clear hT1 hP1 hC1 hme hg9 hes hTV
  refine wp_region_perm [0, 1, 2, 3, 4, 5, 6, 7] [8, 9, 10, 11, 12, 13] (by kernel_rfl) (by kernel_rfl) (Fp b mb pk p1) hfs ?_
  simp only [pick, List.getElem?_cons_zero, List.getElem?_cons_succ]
  repeat
    refine wpTake_cons ?_ (by rfl) ?_ ?_
    rotate_left
    · (intro W9 hSW; obtain ⟨hS0, hS1, hS2, hS3, hS4, hS5, hS6, hS7, hS8⟩ := hSW; go_simp; try with_reducible rfl)
    simp only [Act.put, List.setIfInBounds_toArray, List.set_cons_zero, List.set_cons_succ]
  refine wpTake_nil ?_
  refine wpForce_cons fun K1 hK1 => ?_
  refine step_val (.pointer (some ⟨b, 0, none⟩)) W.drew (by rfl) (by go_simp) ?_
  refine hK1.out _ _ hfs ?_
  simp only [Act.put, List.setIfInBounds_toArray, List.set_cons_zero, List.set_cons_succ]
  refine wpForce_cons fun K2 hK2 => ?_
  refine step_val (.pointer (some ⟨b, 1, none⟩)) W.drew (by rfl) (by go_simp) ?_
  refine hK2.out _ _ hfs ?_
  simp only [Act.put, List.setIfInBounds_toArray, List.set_cons_zero, List.set_cons_succ]
  refine wpForce_cons fun K3 hK3 => ?_
  refine step_skip (W.setCell ⟨b, 1, none⟩ (.int .i64 e.an)).drew (by rfl) (by go_simp) ?_
  refine hK3.out _ _ hfs1 ?_
  simp only [Act.put, List.setIfInBounds_toArray, List.set_cons_zero, List.set_cons_succ]
  refine wpForce_cons fun K4 hK4 => ?_
  refine step_val (.tuple #[v0, goInt sn]) w9 (by rfl) (by simp [execOp, go_sem, Hme.out]) ?_
  refine hK4.out _ _ hfs2 ?_
  simp only [Act.put, List.setIfInBounds_toArray, List.set_cons_zero, List.set_cons_succ]
  refine wpForce_cons fun K5 hK5 => ?_
  refine step_val (goInt sn) w9 (by rfl) (by go_simp; try rfl) ?_
  refine hK5.out _ _ hfs2 ?_
  simp only [Act.put, List.setIfInBounds_toArray, List.set_cons_zero, List.set_cons_succ]
  refine wpForce_one ?_
  clear hK1 hK2 hK3 hK4 hK5
  clear K1 K2 K3 K4 K5
  obtain ⟨w', hw1, hw2, hw3⟩ := Hes.out w9 p1.agg rfl
  have Hfin : Hid (BookAt w' b mb (n + 1) ⟨updB st.m e.an (some p1), e.an⟩ ∧ Chg (bOwn b mb) w w') := by
    refine hide ⟨⟨?_, ?_, by omega⟩, ?_⟩
    · exact Blk.grown (Blk.grown HTV.out.blk Hg9.out (by simpa using HTV.out.ne)) hw3 (by simpa using HTV.out.ne)
    · rw [mv_upd]
      exact hw2
    · have e1 : Chg (bOwn b mb) w (W.setCell ⟨b, 1, none⟩ (.int .i64 e.an)).drew := ((HC1.out.mono (fun _ _ h => h.elim) : Chg (bOwn b mb) w W).setCell (p := ⟨b, 1, none⟩) (.inl (.inl rfl)) _).drew
      have e2 := e1.trans (Chg.of_grown Hg9.out (fun k hk => by injection hk with hk; exact hk.symm) : Chg (one_ mb) _ _) (fun k _ hk => .inr hk)
      exact e2.trans (Chg.of_grown hw3 (fun k hk => by injection hk with hk; exact hk.symm) : Chg (one_ mb) _ _) (fun k _ hk => .inr hk)
  have Hw1 := hide hw1
  clear hw1 hw2 hw3
  refine wpList_plain rfl fun K hK => ?_
  unfold Oper.wp
  have hagg : (.agg #[.int .i64 p1.c.r, .int .i64 p1.c.e, .int .i64 p1.c.s, .int .i64 p1.c.g, .int .i64 p1.c.h, .int .i64 p1.why, .bool p1.nt, .bool p1.pv] : Value) = p1.agg := rfl
  have hw1 := Hw1.out
  rw [← hagg] at hw1
  simp only [goInt] at hw1
  simp [execOp, go_sem, hw1]
  refine hK _ _ ?_
  go_wp2
  refine NoPanic.normal ?_
  go_wp2
  go_ret
  exact ⟨rfl, Hfin.out.1, Hfin.out.2⟩


set_option maxHeartbeats 1000000 in
theorem fork_bad (b mb n : Nat) (st : Bk) (p : Pc) (e : Ev) (w : World) (h : BookAt w b mb n st) (hl : e.an ≤ st.last) :
    Calls Try.prog 11 #[.pointer (some ⟨b, 0, none⟩), p.agg, .agg e.cells] w fun x w' => x = .returned (.bool false) ∧ w.grownBy w' none := by
  obtain ⟨CC, hCC⟩ : ∃ CC, e.cells = CC := ⟨_, rfl⟩
  have hB := Blk.new (w.alloc (.cells p.cells.toArray 45)) 40 e.cells
  have k27 : ((w.alloc (.cells p.cells.toArray 45)).alloc (.cells e.cells 40)).cell? ⟨w.heap.size + 1, 27, none⟩ = some (.int .i64 e.an) := by have := hB.cell 27; rw [World.size_alloc] at this; exact this
  have hG := only_alloc (only_alloc (only_refl w none) (.cells p.cells.toArray 45)) (.cells e.cells 40)
  have hT := h.gr hG
  have b1 : ((w.alloc (.cells p.cells.toArray 45)).alloc (.cells e.cells 40)).cell? ⟨b, 1, none⟩ = some (.int .i64 st.last) := hT.blk.cell 1
  unfold Pc.cells at k27 hG b1
  rw [hCC] at k27 hG b1
  have q1 : decide (e.an ≤ st.last) = true := by simpa using hl
  have HG := hide hG
  have hbw := h.blk.lt
  clear hB hT h hG hl
  rw [hCC]
  unfold Pc.agg
  go_enter Try.func11, Try.ntmps11
  go_wp2
  go_ret
  exact ⟨rfl, HG.out⟩

end Go.Proofs.Ytolmpejaakpikaa
