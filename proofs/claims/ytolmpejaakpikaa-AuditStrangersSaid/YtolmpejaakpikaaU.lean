/- The document's well: notes, takes, programs, other users. -/
import Derived.Test.YtolmpejaakpikaaS
set_option linter.all false
namespace Go.Proofs.Ytolmpejaakpikaa
open Go.RowKit Go.Maps
set_option maxRecDepth 100000

section
variable {w W : World} {b eb pk : Nat} {v : Value} {r : RS} {e : Ev} {pid why : Int} {c : Cr} {nt pv : Bool}
theorem RA.nt_ (h : RA w W b eb pk v r e ⟨pid, ⟨c, why, nt, pv⟩⟩) (x : Bool) : RA w (W.setCell ⟨pk, 7, none⟩ (.bool x)) b eb pk v r e ⟨pid, ⟨c, why, x, pv⟩⟩ :=
  h.step (only_setCell (only_refl _ _) (.inl rfl) _) (Blk.set_ h.p 7 _)
theorem RA.pv_ (h : RA w W b eb pk v r e ⟨pid, ⟨c, why, nt, pv⟩⟩) (x : Bool) : RA w (W.setCell ⟨pk, 8, none⟩ (.bool x)) b eb pk v r e ⟨pid, ⟨c, why, nt, x⟩⟩ :=
  h.step (only_setCell (only_refl _ _) (.inl rfl) _) (Blk.set_ h.p 8 _)
theorem RA.why_ (h : RA w W b eb pk v r e ⟨pid, ⟨c, why, nt, pv⟩⟩) (x : Int) : RA w (W.setCell ⟨pk, 6, none⟩ (.int .i64 x)) b eb pk v r e ⟨pid, ⟨c, x, nt, pv⟩⟩ :=
  h.step (only_setCell (only_refl _ _) (.inl rfl) _) (Blk.set_ h.p 6 _)
theorem RA.cred_ (h : RA w W b eb pk v r e ⟨pid, ⟨c, why, nt, pv⟩⟩) (R : Cr) : RA w (((((W.setCell ⟨pk, 1, none⟩ (.int .i64 R.r)).setCell ⟨pk, 2, none⟩ (.int .i64 R.e)).setCell ⟨pk, 3, none⟩ (.int .i64 R.s)).setCell ⟨pk, 4, none⟩ (.int .i64 R.g)).setCell ⟨pk, 5, none⟩ (.int .i64 R.h)) b eb pk v r e ⟨pid, ⟨R, why, nt, pv⟩⟩ :=
  ((((h.step (s' := ⟨pid, ⟨{ c with r := R.r }, why, nt, pv⟩⟩) (only_setCell (only_refl _ _) (.inl rfl) _) (Blk.set_ h.p 1 _)) |> fun h => h.step (s' := ⟨pid, ⟨{ c with r := R.r, e := R.e }, why, nt, pv⟩⟩) (only_setCell (only_refl _ _) (.inl rfl) _) (Blk.set_ h.p 2 _)) |> fun h => h.step (s' := ⟨pid, ⟨{ c with r := R.r, e := R.e, s := R.s }, why, nt, pv⟩⟩) (only_setCell (only_refl _ _) (.inl rfl) _) (Blk.set_ h.p 3 _)) |> fun h => h.step (s' := ⟨pid, ⟨{ c with r := R.r, e := R.e, s := R.s, g := R.g }, why, nt, pv⟩⟩) (only_setCell (only_refl _ _) (.inl rfl) _) (Blk.set_ h.p 4 _)) |> fun h => h.step (s' := ⟨pid, ⟨R, why, nt, pv⟩⟩) (only_setCell (only_refl _ _) (.inl rfl) _) (Blk.set_ h.p 5 _)
end

set_option maxHeartbeats 2000000 in
theorem rwell_take_bad (b : Nat) (v : Value) (r : RS) (e : Ev) (w : World) (h : RAt w b v r) (n : Nat) (why : Int) (nt pv : Bool) (hi : idx r.L e.pid = some n) (hs : r.L[n]? = some (⟨e.pid, ⟨e.cr, why, nt, pv⟩⟩ : Pr)) (hr : e.cr.e ≠ 0) (he : e.err = 0) (hop : e.cl.op = 25) :
    Calls Try.prog 10 #[.pointer (some ⟨b, 0, none⟩), .agg e.cells] w fun x w' => x = .returned (.bool false) ∧ w.grownBy w' none := by
  have hn : n < r.L.length := (idx_some hi).1
  have hlen := h.len
  obtain ⟨g, off, cap, hv, hcap, hcm, hgl⟩ := h.prs.at h.pos
  subst hv
  obtain ⟨w0, hw0⟩ : ∃ w0, w.alloc (.cells e.cells 40) = w0 := ⟨_, rfl⟩
  have hB := Blk.new w 40 e.cells
  have hG := only_alloc (only_refl w none) (.cells e.cells 40)
  have hT := h.gr hG
  have hbl := h.blk.lt
  rw [hw0] at hB hG hT
  have hsz : w0.heap.size = w.heap.size + 1 := by rw [← hw0, World.size_alloc]
  have hat := rat_any b _ r e.pid w0 hT
  rw [hi] at hat
  obtain ⟨d0, d1, d2, d3, d4, d5, d6, d7, d8⟩ := hT.prs.c rfl hn hs
  have a0 : w0.cell? ⟨b, 0, none⟩ = some (.slice (some ⟨g, off, none⟩) r.L.length cap) := hT.blk.cell 0
  have g0 : w0.cell? ⟨w.heap.size, 0, none⟩ = some (.int .i64 e.pid) := hB.cell 0
  have g1 : w0.cell? ⟨w.heap.size, 1, none⟩ = some (.int .i64 e.cr.r) := hB.cell 1
  have g2 : w0.cell? ⟨w.heap.size, 2, none⟩ = some (.int .i64 e.cr.e) := hB.cell 2
  have g3 : w0.cell? ⟨w.heap.size, 3, none⟩ = some (.int .i64 e.cr.s) := hB.cell 3
  have g4 : w0.cell? ⟨w.heap.size, 4, none⟩ = some (.int .i64 e.cr.g) := hB.cell 4
  have g5 : w0.cell? ⟨w.heap.size, 5, none⟩ = some (.int .i64 e.cr.h) := hB.cell 5
  have i0 : decide ((n : Int) < 0) = false := by simp
  have i1 : (0 : Int) ≤ n ∧ (n : Int) < (r.L.length : Int) := by omega
  have hbl0 : b < w0.heap.size := by omega
  have A6 : (e.cr.e == 0) = false := by simpa using hr
  clear hr
  have q0 : (e.err != 0) = false := by simpa using he
  have q18 : (e.cl.op == 18) = false := by simp; omega
  have q19 : (e.cl.op == 19) = false := by simp; omega
  have q20 : (e.cl.op == 20) = false := by simp; omega
  have q26 : (e.cl.op == 26) = false := by simp; omega
  have q23 : (e.cl.op == 23) = false := by simp; omega
  have q25 : (e.cl.op == 25) = true := by simpa using hop
  have H := hide h
  have HB := hide hB
  have HG := hide hG
  have HT := hide hT
  have Hat := hide hat
  have Hn := hide hn
  obtain ⟨CC, hCC⟩ : ∃ CC, e.cells = CC := ⟨_, rfl⟩
  rw [hCC] at hw0 ⊢
  clear hB hG hT h hat hi hs hcap hcm hgl hn hlen
  go_enter Try.func10, Try.ntmps10
  go_wp2_with fail
  refine Hat.out.mono ?_
  rintro x1 w1 ⟨rfl, rfl⟩
  simp only [oi]
  go_wp2_with fail
  go_quiet (fail)
  go_upto_if 52 with (fail)
  have hA := RA.start nq (⟨e.pid, ⟨e.cr, why, nt, pv⟩⟩ : Pr) H.out HB.out HT.out HG.out hsz
  rw [hsz] at hA
  simp only [Pr.cells] at hA
  clear hsz hbl hbl0 hw0 d0 d1 d2 d3 d4 d5 d6 d7 d8 g0 g1 g2 g3 g4 g5 a0
  generalize (w0.drewN nq).alloc (.cells #[.int .i64 e.pid, .int .i64 e.cr.r, .int .i64 e.cr.e, .int .i64 e.cr.s, .int .i64 e.cr.g, .int .i64 e.cr.h, .int .i64 why, .bool nt, .bool pv] 52) = W, w.heap.size + 1 = pk at hA ⊢
  generalize w.heap.size = eb at hA ⊢
  have HA := hide hA
  have c0 : W.cell? ⟨pk, 0, none⟩ = some (.int .i64 e.pid) := hA.p.cell 0
  have c2 : W.cell? ⟨pk, 2, none⟩ = some (.int .i64 e.cr.e) := hA.p.cell 2
  have c6 : W.cell? ⟨pk, 6, none⟩ = some (.int .i64 why) := hA.p.cell 6
  have c7 : W.cell? ⟨pk, 7, none⟩ = some (.bool nt) := hA.p.cell 7
  have c8 : W.cell? ⟨pk, 8, none⟩ = some (.bool pv) := hA.p.cell 8
  have c1 : W.cell? ⟨pk, 1, none⟩ = some (.int .i64 e.cr.r) := hA.p.cell 1
  have c3 : W.cell? ⟨pk, 3, none⟩ = some (.int .i64 e.cr.s) := hA.p.cell 3
  have c4 : W.cell? ⟨pk, 4, none⟩ = some (.int .i64 e.cr.g) := hA.p.cell 4
  have c5 : W.cell? ⟨pk, 5, none⟩ = some (.int .i64 e.cr.h) := hA.p.cell 5
  have k6 : W.cell? ⟨eb, 6, none⟩ = some (.int .i64 e.cl.op) := hA.ev.cell 6
  have k12 : W.cell? ⟨eb, 12, none⟩ = some (.int .i64 e.cl.n) := hA.ev.cell 12
  have k26 : W.cell? ⟨eb, 26, none⟩ = some (.int .i64 e.err) := hA.ev.cell 26
  have b0 : W.cell? ⟨b, 0, none⟩ = some (.slice (some ⟨g, off, none⟩) r.L.length cap) := hA.tab.blk.cell 0
  clear hA
  go_wp2
  go_ret
  exact ⟨rfl, HA.out.gr⟩

set_option maxHeartbeats 2000000 in
theorem rwell_take_a (b : Nat) (v : Value) (r : RS) (e : Ev) (w : World) (h : RAt w b v r) (n : Nat) (why : Int) (nt pv : Bool) (hi : idx r.L e.pid = some n) (hs : r.L[n]? = some (⟨e.pid, ⟨e.cr, why, nt, pv⟩⟩ : Pr)) (hr : e.cr.e = 0) (hwy : why ≠ 0) (he : e.err = 0) (hop : e.cl.op = 25) :
    Calls Try.prog 10 #[.pointer (some ⟨b, 0, none⟩), .agg e.cells] w fun x w' => x = .returned (.bool true) ∧ RTo w w' b (rOwn b v) ⟨r.L.set n (⟨e.pid, ⟨e.cr, why, nt, pv⟩⟩ : Pr), r.last⟩ := by
  have hn : n < r.L.length := (idx_some hi).1
  have hlen := h.len
  obtain ⟨g, off, cap, hv, hcap, hcm, hgl⟩ := h.prs.at h.pos
  subst hv
  obtain ⟨w0, hw0⟩ : ∃ w0, w.alloc (.cells e.cells 40) = w0 := ⟨_, rfl⟩
  have hB := Blk.new w 40 e.cells
  have hG := only_alloc (only_refl w none) (.cells e.cells 40)
  have hT := h.gr hG
  have hbl := h.blk.lt
  rw [hw0] at hB hG hT
  have hsz : w0.heap.size = w.heap.size + 1 := by rw [← hw0, World.size_alloc]
  have hat := rat_any b _ r e.pid w0 hT
  rw [hi] at hat
  obtain ⟨d0, d1, d2, d3, d4, d5, d6, d7, d8⟩ := hT.prs.c rfl hn hs
  have a0 : w0.cell? ⟨b, 0, none⟩ = some (.slice (some ⟨g, off, none⟩) r.L.length cap) := hT.blk.cell 0
  have g0 : w0.cell? ⟨w.heap.size, 0, none⟩ = some (.int .i64 e.pid) := hB.cell 0
  have g1 : w0.cell? ⟨w.heap.size, 1, none⟩ = some (.int .i64 e.cr.r) := hB.cell 1
  have g2 : w0.cell? ⟨w.heap.size, 2, none⟩ = some (.int .i64 e.cr.e) := hB.cell 2
  have g3 : w0.cell? ⟨w.heap.size, 3, none⟩ = some (.int .i64 e.cr.s) := hB.cell 3
  have g4 : w0.cell? ⟨w.heap.size, 4, none⟩ = some (.int .i64 e.cr.g) := hB.cell 4
  have g5 : w0.cell? ⟨w.heap.size, 5, none⟩ = some (.int .i64 e.cr.h) := hB.cell 5
  have i0 : decide ((n : Int) < 0) = false := by simp
  have i1 : (0 : Int) ≤ n ∧ (n : Int) < (r.L.length : Int) := by omega
  have hbl0 : b < w0.heap.size := by omega
  have A6 : (e.cr.e == 0) = true := by simpa using hr
  clear hr
  have A7 : (why == 0) = false := by simpa using hwy
  clear hwy
  have q0 : (e.err != 0) = false := by simpa using he
  have q18 : (e.cl.op == 18) = false := by simp; omega
  have q19 : (e.cl.op == 19) = false := by simp; omega
  have q20 : (e.cl.op == 20) = false := by simp; omega
  have q26 : (e.cl.op == 26) = false := by simp; omega
  have q23 : (e.cl.op == 23) = false := by simp; omega
  have q25 : (e.cl.op == 25) = true := by simpa using hop
  have H := hide h
  have HB := hide hB
  have HG := hide hG
  have HT := hide hT
  have Hat := hide hat
  have Hn := hide hn
  obtain ⟨CC, hCC⟩ : ∃ CC, e.cells = CC := ⟨_, rfl⟩
  rw [hCC] at hw0 ⊢
  clear hB hG hT h hat hi hs hcap hcm hgl hn hlen
  go_enter Try.func10, Try.ntmps10
  go_wp2_with fail
  refine Hat.out.mono ?_
  rintro x1 w1 ⟨rfl, rfl⟩
  simp only [oi]
  go_wp2_with fail
  go_quiet (fail)
  go_upto_if 52 with (fail)
  have hA := RA.start nq (⟨e.pid, ⟨e.cr, why, nt, pv⟩⟩ : Pr) H.out HB.out HT.out HG.out hsz
  rw [hsz] at hA
  simp only [Pr.cells] at hA
  clear hsz hbl hbl0 hw0 d0 d1 d2 d3 d4 d5 d6 d7 d8 g0 g1 g2 g3 g4 g5 a0
  generalize (w0.drewN nq).alloc (.cells #[.int .i64 e.pid, .int .i64 e.cr.r, .int .i64 e.cr.e, .int .i64 e.cr.s, .int .i64 e.cr.g, .int .i64 e.cr.h, .int .i64 why, .bool nt, .bool pv] 52) = W, w.heap.size + 1 = pk at hA ⊢
  generalize w.heap.size = eb at hA ⊢
  have HA := hide hA
  have c0 : W.cell? ⟨pk, 0, none⟩ = some (.int .i64 e.pid) := hA.p.cell 0
  have c2 : W.cell? ⟨pk, 2, none⟩ = some (.int .i64 e.cr.e) := hA.p.cell 2
  have c6 : W.cell? ⟨pk, 6, none⟩ = some (.int .i64 why) := hA.p.cell 6
  have c7 : W.cell? ⟨pk, 7, none⟩ = some (.bool nt) := hA.p.cell 7
  have c8 : W.cell? ⟨pk, 8, none⟩ = some (.bool pv) := hA.p.cell 8
  have c1 : W.cell? ⟨pk, 1, none⟩ = some (.int .i64 e.cr.r) := hA.p.cell 1
  have c3 : W.cell? ⟨pk, 3, none⟩ = some (.int .i64 e.cr.s) := hA.p.cell 3
  have c4 : W.cell? ⟨pk, 4, none⟩ = some (.int .i64 e.cr.g) := hA.p.cell 4
  have c5 : W.cell? ⟨pk, 5, none⟩ = some (.int .i64 e.cr.h) := hA.p.cell 5
  have k6 : W.cell? ⟨eb, 6, none⟩ = some (.int .i64 e.cl.op) := hA.ev.cell 6
  have k12 : W.cell? ⟨eb, 12, none⟩ = some (.int .i64 e.cl.n) := hA.ev.cell 12
  have k26 : W.cell? ⟨eb, 26, none⟩ = some (.int .i64 e.err) := hA.ev.cell 26
  have b0 : W.cell? ⟨b, 0, none⟩ = some (.slice (some ⟨g, off, none⟩) r.L.length cap) := hA.tab.blk.cell 0
  clear hA
  go_wp2_with fail
  clear c0 c1 c2 c3 c4 c5 c6 c7 c8
  have hqs : QS b pk (.slice (some ⟨g, off, none⟩) r.L.length cap) (⟨e.pid, ⟨e.cr, why, nt, pv⟩⟩ : Pr) W.drew := ⟨HA.out.tab.blk.cell 0, RowAt.of (Blk.drew HA.out.p)⟩
  refine wp_region_perm [0, 1, 2, 3, 4, 5, 6] [7] (by kernel_rfl) (by kernel_rfl) (QS b pk (.slice (some ⟨g, off, none⟩) r.L.length cap) (⟨e.pid, ⟨e.cr, why, nt, pv⟩⟩ : Pr)) hqs ?_
  simp only [pick, List.getElem?_cons_zero, List.getElem?_cons_succ]
  iterate 7
    refine wpTake_cons ?_ (by rfl) ?_ ?_
    rotate_left
    · (intro W9 hSW; obtain ⟨hS1, j0, j1, j2, j3, j4, j5, j6, j7, j8⟩ := hSW; go_simp; try with_reducible rfl)
    simp only [Act.put, List.setIfInBounds_toArray, List.set_cons_zero, List.set_cons_succ]
  refine wpTake_nil ?_
  refine wpForce_one ?_
  obtain ⟨hf, hth⟩ := HA.out.put rfl Hn.out 1
  have Hf := hide hf
  clear hf
  refine wpList_store_mid rfl 52 _ _ rfl g (off + n * 9) (⟨e.pid, ⟨e.cr, why, nt, pv⟩⟩ : Pr).cells.toArray (by rfl) (by rfl) hth (by rw [show (⟨e.pid, ⟨e.cr, why, nt, pv⟩⟩ : Pr).cells.toArray.size = 9 from rfl]; kernel_rfl) (all_oneCell_toArray (fun y hy => pcs_one [(⟨e.pid, ⟨e.cr, why, nt, pv⟩⟩ : Pr)] y (by simpa [pcs] using hy))) ?_
  refine wpList_nil ?_
  refine NoPanic.normal ?_
  go_wp2
  go_ret
  exact ⟨rfl, Hf.out⟩

set_option maxHeartbeats 2000000 in
theorem rwell_take_b (b : Nat) (v : Value) (r : RS) (e : Ev) (w : World) (h : RAt w b v r) (n : Nat) (why : Int) (nt : Bool) (hi : idx r.L e.pid = some n) (hs : r.L[n]? = some (⟨e.pid, ⟨e.cr, why, nt, true⟩⟩ : Pr)) (hr : e.cr.e = 0) (hwy : why = 0) (he : e.err = 0) (hop : e.cl.op = 25) :
    Calls Try.prog 10 #[.pointer (some ⟨b, 0, none⟩), .agg e.cells] w fun x w' => x = .returned (.bool true) ∧ RTo w w' b (rOwn b v) ⟨r.L.set n (⟨e.pid, ⟨e.cr, why, nt, true⟩⟩ : Pr), r.last⟩ := by
  have hn : n < r.L.length := (idx_some hi).1
  have hlen := h.len
  obtain ⟨g, off, cap, hv, hcap, hcm, hgl⟩ := h.prs.at h.pos
  subst hv
  obtain ⟨w0, hw0⟩ : ∃ w0, w.alloc (.cells e.cells 40) = w0 := ⟨_, rfl⟩
  have hB := Blk.new w 40 e.cells
  have hG := only_alloc (only_refl w none) (.cells e.cells 40)
  have hT := h.gr hG
  have hbl := h.blk.lt
  rw [hw0] at hB hG hT
  have hsz : w0.heap.size = w.heap.size + 1 := by rw [← hw0, World.size_alloc]
  have hat := rat_any b _ r e.pid w0 hT
  rw [hi] at hat
  obtain ⟨d0, d1, d2, d3, d4, d5, d6, d7, d8⟩ := hT.prs.c rfl hn hs
  have a0 : w0.cell? ⟨b, 0, none⟩ = some (.slice (some ⟨g, off, none⟩) r.L.length cap) := hT.blk.cell 0
  have g0 : w0.cell? ⟨w.heap.size, 0, none⟩ = some (.int .i64 e.pid) := hB.cell 0
  have g1 : w0.cell? ⟨w.heap.size, 1, none⟩ = some (.int .i64 e.cr.r) := hB.cell 1
  have g2 : w0.cell? ⟨w.heap.size, 2, none⟩ = some (.int .i64 e.cr.e) := hB.cell 2
  have g3 : w0.cell? ⟨w.heap.size, 3, none⟩ = some (.int .i64 e.cr.s) := hB.cell 3
  have g4 : w0.cell? ⟨w.heap.size, 4, none⟩ = some (.int .i64 e.cr.g) := hB.cell 4
  have g5 : w0.cell? ⟨w.heap.size, 5, none⟩ = some (.int .i64 e.cr.h) := hB.cell 5
  have i0 : decide ((n : Int) < 0) = false := by simp
  have i1 : (0 : Int) ≤ n ∧ (n : Int) < (r.L.length : Int) := by omega
  have hbl0 : b < w0.heap.size := by omega
  have A6 : (e.cr.e == 0) = true := by simpa using hr
  clear hr
  have A7 : (why == 0) = true := by simpa using hwy
  clear hwy
  have q0 : (e.err != 0) = false := by simpa using he
  have q18 : (e.cl.op == 18) = false := by simp; omega
  have q19 : (e.cl.op == 19) = false := by simp; omega
  have q20 : (e.cl.op == 20) = false := by simp; omega
  have q26 : (e.cl.op == 26) = false := by simp; omega
  have q23 : (e.cl.op == 23) = false := by simp; omega
  have q25 : (e.cl.op == 25) = true := by simpa using hop
  have H := hide h
  have HB := hide hB
  have HG := hide hG
  have HT := hide hT
  have Hat := hide hat
  have Hn := hide hn
  obtain ⟨CC, hCC⟩ : ∃ CC, e.cells = CC := ⟨_, rfl⟩
  rw [hCC] at hw0 ⊢
  clear hB hG hT h hat hi hs hcap hcm hgl hn hlen
  go_enter Try.func10, Try.ntmps10
  go_wp2_with fail
  refine Hat.out.mono ?_
  rintro x1 w1 ⟨rfl, rfl⟩
  simp only [oi]
  go_wp2_with fail
  go_quiet (fail)
  go_upto_if 52 with (fail)
  have hA := RA.start nq (⟨e.pid, ⟨e.cr, why, nt, true⟩⟩ : Pr) H.out HB.out HT.out HG.out hsz
  rw [hsz] at hA
  simp only [Pr.cells] at hA
  clear hsz hbl hbl0 hw0 d0 d1 d2 d3 d4 d5 d6 d7 d8 g0 g1 g2 g3 g4 g5 a0
  generalize (w0.drewN nq).alloc (.cells #[.int .i64 e.pid, .int .i64 e.cr.r, .int .i64 e.cr.e, .int .i64 e.cr.s, .int .i64 e.cr.g, .int .i64 e.cr.h, .int .i64 why, .bool nt, .bool true] 52) = W, w.heap.size + 1 = pk at hA ⊢
  generalize w.heap.size = eb at hA ⊢
  have HA := hide hA
  have c0 : W.cell? ⟨pk, 0, none⟩ = some (.int .i64 e.pid) := hA.p.cell 0
  have c2 : W.cell? ⟨pk, 2, none⟩ = some (.int .i64 e.cr.e) := hA.p.cell 2
  have c6 : W.cell? ⟨pk, 6, none⟩ = some (.int .i64 why) := hA.p.cell 6
  have c7 : W.cell? ⟨pk, 7, none⟩ = some (.bool nt) := hA.p.cell 7
  have c8 : W.cell? ⟨pk, 8, none⟩ = some (.bool true) := hA.p.cell 8
  have c1 : W.cell? ⟨pk, 1, none⟩ = some (.int .i64 e.cr.r) := hA.p.cell 1
  have c3 : W.cell? ⟨pk, 3, none⟩ = some (.int .i64 e.cr.s) := hA.p.cell 3
  have c4 : W.cell? ⟨pk, 4, none⟩ = some (.int .i64 e.cr.g) := hA.p.cell 4
  have c5 : W.cell? ⟨pk, 5, none⟩ = some (.int .i64 e.cr.h) := hA.p.cell 5
  have k6 : W.cell? ⟨eb, 6, none⟩ = some (.int .i64 e.cl.op) := hA.ev.cell 6
  have k12 : W.cell? ⟨eb, 12, none⟩ = some (.int .i64 e.cl.n) := hA.ev.cell 12
  have k26 : W.cell? ⟨eb, 26, none⟩ = some (.int .i64 e.err) := hA.ev.cell 26
  have b0 : W.cell? ⟨b, 0, none⟩ = some (.slice (some ⟨g, off, none⟩) r.L.length cap) := hA.tab.blk.cell 0
  clear hA
  go_wp2_with fail
  clear c0 c1 c2 c3 c4 c5 c6 c7 c8
  have hqs : QS b pk (.slice (some ⟨g, off, none⟩) r.L.length cap) (⟨e.pid, ⟨e.cr, why, nt, true⟩⟩ : Pr) W.drew := ⟨HA.out.tab.blk.cell 0, RowAt.of (Blk.drew HA.out.p)⟩
  refine wp_region_perm [0, 1, 2, 3, 4, 5, 6] [7] (by kernel_rfl) (by kernel_rfl) (QS b pk (.slice (some ⟨g, off, none⟩) r.L.length cap) (⟨e.pid, ⟨e.cr, why, nt, true⟩⟩ : Pr)) hqs ?_
  simp only [pick, List.getElem?_cons_zero, List.getElem?_cons_succ]
  iterate 7
    refine wpTake_cons ?_ (by rfl) ?_ ?_
    rotate_left
    · (intro W9 hSW; obtain ⟨hS1, j0, j1, j2, j3, j4, j5, j6, j7, j8⟩ := hSW; go_simp; try with_reducible rfl)
    simp only [Act.put, List.setIfInBounds_toArray, List.set_cons_zero, List.set_cons_succ]
  refine wpTake_nil ?_
  refine wpForce_one ?_
  obtain ⟨hf, hth⟩ := HA.out.put rfl Hn.out 1
  have Hf := hide hf
  clear hf
  refine wpList_store_mid rfl 52 _ _ rfl g (off + n * 9) (⟨e.pid, ⟨e.cr, why, nt, true⟩⟩ : Pr).cells.toArray (by rfl) (by rfl) hth (by rw [show (⟨e.pid, ⟨e.cr, why, nt, true⟩⟩ : Pr).cells.toArray.size = 9 from rfl]; kernel_rfl) (all_oneCell_toArray (fun y hy => pcs_one [(⟨e.pid, ⟨e.cr, why, nt, true⟩⟩ : Pr)] y (by simpa [pcs] using hy))) ?_
  refine wpList_nil ?_
  refine NoPanic.normal ?_
  go_wp2
  go_ret
  exact ⟨rfl, Hf.out⟩

set_option maxHeartbeats 2000000 in
theorem rwell_note_bad (b : Nat) (v : Value) (r : RS) (e : Ev) (w : World) (h : RAt w b v r) (n : Nat) (why : Int) (nt pv : Bool) (hi : idx r.L e.pid = some n) (hs : r.L[n]? = some (⟨e.pid, ⟨e.cr, why, nt, pv⟩⟩ : Pr)) (hr : e.cr.e ≠ 0) (he : e.err = 0) (hop : e.cl.op = 26) :
    Calls Try.prog 10 #[.pointer (some ⟨b, 0, none⟩), .agg e.cells] w fun x w' => x = .returned (.bool false) ∧ w.grownBy w' none := by
  have hn : n < r.L.length := (idx_some hi).1
  have hlen := h.len
  obtain ⟨g, off, cap, hv, hcap, hcm, hgl⟩ := h.prs.at h.pos
  subst hv
  obtain ⟨w0, hw0⟩ : ∃ w0, w.alloc (.cells e.cells 40) = w0 := ⟨_, rfl⟩
  have hB := Blk.new w 40 e.cells
  have hG := only_alloc (only_refl w none) (.cells e.cells 40)
  have hT := h.gr hG
  have hbl := h.blk.lt
  rw [hw0] at hB hG hT
  have hsz : w0.heap.size = w.heap.size + 1 := by rw [← hw0, World.size_alloc]
  have hat := rat_any b _ r e.pid w0 hT
  rw [hi] at hat
  obtain ⟨d0, d1, d2, d3, d4, d5, d6, d7, d8⟩ := hT.prs.c rfl hn hs
  have a0 : w0.cell? ⟨b, 0, none⟩ = some (.slice (some ⟨g, off, none⟩) r.L.length cap) := hT.blk.cell 0
  have g0 : w0.cell? ⟨w.heap.size, 0, none⟩ = some (.int .i64 e.pid) := hB.cell 0
  have g1 : w0.cell? ⟨w.heap.size, 1, none⟩ = some (.int .i64 e.cr.r) := hB.cell 1
  have g2 : w0.cell? ⟨w.heap.size, 2, none⟩ = some (.int .i64 e.cr.e) := hB.cell 2
  have g3 : w0.cell? ⟨w.heap.size, 3, none⟩ = some (.int .i64 e.cr.s) := hB.cell 3
  have g4 : w0.cell? ⟨w.heap.size, 4, none⟩ = some (.int .i64 e.cr.g) := hB.cell 4
  have g5 : w0.cell? ⟨w.heap.size, 5, none⟩ = some (.int .i64 e.cr.h) := hB.cell 5
  have i0 : decide ((n : Int) < 0) = false := by simp
  have i1 : (0 : Int) ≤ n ∧ (n : Int) < (r.L.length : Int) := by omega
  have hbl0 : b < w0.heap.size := by omega
  have A6 : (e.cr.e == 0) = false := by simpa using hr
  clear hr
  have q0 : (e.err != 0) = false := by simpa using he
  have q18 : (e.cl.op == 18) = false := by simp; omega
  have q19 : (e.cl.op == 19) = false := by simp; omega
  have q20 : (e.cl.op == 20) = false := by simp; omega
  have q26 : (e.cl.op == 26) = true := by simpa using hop
  have H := hide h
  have HB := hide hB
  have HG := hide hG
  have HT := hide hT
  have Hat := hide hat
  have Hn := hide hn
  obtain ⟨CC, hCC⟩ : ∃ CC, e.cells = CC := ⟨_, rfl⟩
  rw [hCC] at hw0 ⊢
  clear hB hG hT h hat hi hs hcap hcm hgl hn hlen
  go_enter Try.func10, Try.ntmps10
  go_wp2_with fail
  refine Hat.out.mono ?_
  rintro x1 w1 ⟨rfl, rfl⟩
  simp only [oi]
  go_wp2_with fail
  go_quiet (fail)
  go_upto_if 52 with (fail)
  have hA := RA.start nq (⟨e.pid, ⟨e.cr, why, nt, pv⟩⟩ : Pr) H.out HB.out HT.out HG.out hsz
  rw [hsz] at hA
  simp only [Pr.cells] at hA
  clear hsz hbl hbl0 hw0 d0 d1 d2 d3 d4 d5 d6 d7 d8 g0 g1 g2 g3 g4 g5 a0
  generalize (w0.drewN nq).alloc (.cells #[.int .i64 e.pid, .int .i64 e.cr.r, .int .i64 e.cr.e, .int .i64 e.cr.s, .int .i64 e.cr.g, .int .i64 e.cr.h, .int .i64 why, .bool nt, .bool pv] 52) = W, w.heap.size + 1 = pk at hA ⊢
  generalize w.heap.size = eb at hA ⊢
  have HA := hide hA
  have c0 : W.cell? ⟨pk, 0, none⟩ = some (.int .i64 e.pid) := hA.p.cell 0
  have c2 : W.cell? ⟨pk, 2, none⟩ = some (.int .i64 e.cr.e) := hA.p.cell 2
  have c6 : W.cell? ⟨pk, 6, none⟩ = some (.int .i64 why) := hA.p.cell 6
  have c7 : W.cell? ⟨pk, 7, none⟩ = some (.bool nt) := hA.p.cell 7
  have c8 : W.cell? ⟨pk, 8, none⟩ = some (.bool pv) := hA.p.cell 8
  have c1 : W.cell? ⟨pk, 1, none⟩ = some (.int .i64 e.cr.r) := hA.p.cell 1
  have c3 : W.cell? ⟨pk, 3, none⟩ = some (.int .i64 e.cr.s) := hA.p.cell 3
  have c4 : W.cell? ⟨pk, 4, none⟩ = some (.int .i64 e.cr.g) := hA.p.cell 4
  have c5 : W.cell? ⟨pk, 5, none⟩ = some (.int .i64 e.cr.h) := hA.p.cell 5
  have k6 : W.cell? ⟨eb, 6, none⟩ = some (.int .i64 e.cl.op) := hA.ev.cell 6
  have k12 : W.cell? ⟨eb, 12, none⟩ = some (.int .i64 e.cl.n) := hA.ev.cell 12
  have k26 : W.cell? ⟨eb, 26, none⟩ = some (.int .i64 e.err) := hA.ev.cell 26
  have b0 : W.cell? ⟨b, 0, none⟩ = some (.slice (some ⟨g, off, none⟩) r.L.length cap) := hA.tab.blk.cell 0
  clear hA
  go_wp2
  go_ret
  exact ⟨rfl, HA.out.gr⟩

set_option maxHeartbeats 2000000 in
theorem rwell_note_at (b : Nat) (v : Value) (r : RS) (e : Ev) (w : World) (h : RAt w b v r) (n : Nat) (why : Int) (pv : Bool) (hi : idx r.L e.pid = some n) (hs : r.L[n]? = some (⟨e.pid, ⟨e.cr, why, true, pv⟩⟩ : Pr)) (hr : e.cr.e = 0) (hwy : why ≠ 0) (he : e.err = 0) (hop : e.cl.op = 26) :
    Calls Try.prog 10 #[.pointer (some ⟨b, 0, none⟩), .agg e.cells] w fun x w' => x = .returned (.bool true) ∧ RTo w w' b (rOwn b v) ⟨r.L.set n (⟨e.pid, ⟨e.cr, why, (true), pv⟩⟩ : Pr), r.last⟩ := by
  have hn : n < r.L.length := (idx_some hi).1
  have hlen := h.len
  obtain ⟨g, off, cap, hv, hcap, hcm, hgl⟩ := h.prs.at h.pos
  subst hv
  obtain ⟨w0, hw0⟩ : ∃ w0, w.alloc (.cells e.cells 40) = w0 := ⟨_, rfl⟩
  have hB := Blk.new w 40 e.cells
  have hG := only_alloc (only_refl w none) (.cells e.cells 40)
  have hT := h.gr hG
  have hbl := h.blk.lt
  rw [hw0] at hB hG hT
  have hsz : w0.heap.size = w.heap.size + 1 := by rw [← hw0, World.size_alloc]
  have hat := rat_any b _ r e.pid w0 hT
  rw [hi] at hat
  obtain ⟨d0, d1, d2, d3, d4, d5, d6, d7, d8⟩ := hT.prs.c rfl hn hs
  have a0 : w0.cell? ⟨b, 0, none⟩ = some (.slice (some ⟨g, off, none⟩) r.L.length cap) := hT.blk.cell 0
  have g0 : w0.cell? ⟨w.heap.size, 0, none⟩ = some (.int .i64 e.pid) := hB.cell 0
  have g1 : w0.cell? ⟨w.heap.size, 1, none⟩ = some (.int .i64 e.cr.r) := hB.cell 1
  have g2 : w0.cell? ⟨w.heap.size, 2, none⟩ = some (.int .i64 e.cr.e) := hB.cell 2
  have g3 : w0.cell? ⟨w.heap.size, 3, none⟩ = some (.int .i64 e.cr.s) := hB.cell 3
  have g4 : w0.cell? ⟨w.heap.size, 4, none⟩ = some (.int .i64 e.cr.g) := hB.cell 4
  have g5 : w0.cell? ⟨w.heap.size, 5, none⟩ = some (.int .i64 e.cr.h) := hB.cell 5
  have i0 : decide ((n : Int) < 0) = false := by simp
  have i1 : (0 : Int) ≤ n ∧ (n : Int) < (r.L.length : Int) := by omega
  have hbl0 : b < w0.heap.size := by omega
  have A6 : (e.cr.e == 0) = true := by simpa using hr
  clear hr
  have A7 : (why == 0) = false := by simpa using hwy
  clear hwy
  have q0 : (e.err != 0) = false := by simpa using he
  have q18 : (e.cl.op == 18) = false := by simp; omega
  have q19 : (e.cl.op == 19) = false := by simp; omega
  have q20 : (e.cl.op == 20) = false := by simp; omega
  have q26 : (e.cl.op == 26) = true := by simpa using hop
  have H := hide h
  have HB := hide hB
  have HG := hide hG
  have HT := hide hT
  have Hat := hide hat
  have Hn := hide hn
  obtain ⟨CC, hCC⟩ : ∃ CC, e.cells = CC := ⟨_, rfl⟩
  rw [hCC] at hw0 ⊢
  clear hB hG hT h hat hi hs hcap hcm hgl hn hlen
  go_enter Try.func10, Try.ntmps10
  go_wp2_with fail
  refine Hat.out.mono ?_
  rintro x1 w1 ⟨rfl, rfl⟩
  simp only [oi]
  go_wp2_with fail
  go_quiet (fail)
  go_upto_if 52 with (fail)
  have hA := RA.start nq (⟨e.pid, ⟨e.cr, why, true, pv⟩⟩ : Pr) H.out HB.out HT.out HG.out hsz
  rw [hsz] at hA
  simp only [Pr.cells] at hA
  clear hsz hbl hbl0 hw0 d0 d1 d2 d3 d4 d5 d6 d7 d8 g0 g1 g2 g3 g4 g5 a0
  generalize (w0.drewN nq).alloc (.cells #[.int .i64 e.pid, .int .i64 e.cr.r, .int .i64 e.cr.e, .int .i64 e.cr.s, .int .i64 e.cr.g, .int .i64 e.cr.h, .int .i64 why, .bool true, .bool pv] 52) = W, w.heap.size + 1 = pk at hA ⊢
  generalize w.heap.size = eb at hA ⊢
  have HA := hide hA
  have c0 : W.cell? ⟨pk, 0, none⟩ = some (.int .i64 e.pid) := hA.p.cell 0
  have c2 : W.cell? ⟨pk, 2, none⟩ = some (.int .i64 e.cr.e) := hA.p.cell 2
  have c6 : W.cell? ⟨pk, 6, none⟩ = some (.int .i64 why) := hA.p.cell 6
  have c7 : W.cell? ⟨pk, 7, none⟩ = some (.bool true) := hA.p.cell 7
  have c8 : W.cell? ⟨pk, 8, none⟩ = some (.bool pv) := hA.p.cell 8
  have c1 : W.cell? ⟨pk, 1, none⟩ = some (.int .i64 e.cr.r) := hA.p.cell 1
  have c3 : W.cell? ⟨pk, 3, none⟩ = some (.int .i64 e.cr.s) := hA.p.cell 3
  have c4 : W.cell? ⟨pk, 4, none⟩ = some (.int .i64 e.cr.g) := hA.p.cell 4
  have c5 : W.cell? ⟨pk, 5, none⟩ = some (.int .i64 e.cr.h) := hA.p.cell 5
  have k6 : W.cell? ⟨eb, 6, none⟩ = some (.int .i64 e.cl.op) := hA.ev.cell 6
  have k12 : W.cell? ⟨eb, 12, none⟩ = some (.int .i64 e.cl.n) := hA.ev.cell 12
  have k26 : W.cell? ⟨eb, 26, none⟩ = some (.int .i64 e.err) := hA.ev.cell 26
  have b0 : W.cell? ⟨b, 0, none⟩ = some (.slice (some ⟨g, off, none⟩) r.L.length cap) := hA.tab.blk.cell 0
  clear hA
  have zp : W.frozen? ⟨pk, 7, none⟩ = false := HA.out.p.frozen 7
  have hpl : pk < W.heap.size := HA.out.p.lt
  go_wp2_with fail
  have HA2 := hide (HA.out.nt_ (true))
  clear c0 c1 c2 c3 c4 c5 c6 c7 c8 k6 k12 k26 b0 HA zp hpl
  generalize W.setCell ⟨pk, 7, none⟩ (.bool (true)) = W2 at HA2 ⊢
  have hqs : QS b pk (.slice (some ⟨g, off, none⟩) r.L.length cap) (⟨e.pid, ⟨e.cr, why, (true), pv⟩⟩ : Pr) W2.drew := ⟨HA2.out.tab.blk.cell 0, RowAt.of (Blk.drew HA2.out.p)⟩
  refine wp_region_perm [0, 1, 2, 3, 4, 5, 6] [7] (by kernel_rfl) (by kernel_rfl) (QS b pk (.slice (some ⟨g, off, none⟩) r.L.length cap) (⟨e.pid, ⟨e.cr, why, (true), pv⟩⟩ : Pr)) hqs ?_
  simp only [pick, List.getElem?_cons_zero, List.getElem?_cons_succ]
  iterate 7
    refine wpTake_cons ?_ (by rfl) ?_ ?_
    rotate_left
    · (intro W9 hSW; obtain ⟨hS1, j0, j1, j2, j3, j4, j5, j6, j7, j8⟩ := hSW; go_simp; try with_reducible rfl)
    simp only [Act.put, List.setIfInBounds_toArray, List.set_cons_zero, List.set_cons_succ]
  refine wpTake_nil ?_
  refine wpForce_one ?_
  obtain ⟨hf, hth⟩ := HA2.out.put rfl Hn.out 1
  have Hf := hide hf
  clear hf
  refine wpList_store_mid rfl 52 _ _ rfl g (off + n * 9) (⟨e.pid, ⟨e.cr, why, (true), pv⟩⟩ : Pr).cells.toArray (by rfl) (by rfl) hth (by rw [show (⟨e.pid, ⟨e.cr, why, (true), pv⟩⟩ : Pr).cells.toArray.size = 9 from rfl]; kernel_rfl) (all_oneCell_toArray (fun y hy => pcs_one [(⟨e.pid, ⟨e.cr, why, (true), pv⟩⟩ : Pr)] y (by simpa [pcs] using hy))) ?_
  refine wpList_nil ?_
  refine NoPanic.normal ?_
  go_wp2
  go_ret
  exact ⟨rfl, Hf.out⟩

set_option maxHeartbeats 2000000 in
theorem rwell_note_af (b : Nat) (v : Value) (r : RS) (e : Ev) (w : World) (h : RAt w b v r) (n : Nat) (why : Int) (pv : Bool) (hi : idx r.L e.pid = some n) (hs : r.L[n]? = some (⟨e.pid, ⟨e.cr, why, false, pv⟩⟩ : Pr)) (hr : e.cr.e = 0) (hwy : why ≠ 0) (he : e.err = 0) (hop : e.cl.op = 26) :
    Calls Try.prog 10 #[.pointer (some ⟨b, 0, none⟩), .agg e.cells] w fun x w' => x = .returned (.bool true) ∧ RTo w w' b (rOwn b v) ⟨r.L.set n (⟨e.pid, ⟨e.cr, why, (e.cl.n == 1), pv⟩⟩ : Pr), r.last⟩ := by
  have hn : n < r.L.length := (idx_some hi).1
  have hlen := h.len
  obtain ⟨g, off, cap, hv, hcap, hcm, hgl⟩ := h.prs.at h.pos
  subst hv
  obtain ⟨w0, hw0⟩ : ∃ w0, w.alloc (.cells e.cells 40) = w0 := ⟨_, rfl⟩
  have hB := Blk.new w 40 e.cells
  have hG := only_alloc (only_refl w none) (.cells e.cells 40)
  have hT := h.gr hG
  have hbl := h.blk.lt
  rw [hw0] at hB hG hT
  have hsz : w0.heap.size = w.heap.size + 1 := by rw [← hw0, World.size_alloc]
  have hat := rat_any b _ r e.pid w0 hT
  rw [hi] at hat
  obtain ⟨d0, d1, d2, d3, d4, d5, d6, d7, d8⟩ := hT.prs.c rfl hn hs
  have a0 : w0.cell? ⟨b, 0, none⟩ = some (.slice (some ⟨g, off, none⟩) r.L.length cap) := hT.blk.cell 0
  have g0 : w0.cell? ⟨w.heap.size, 0, none⟩ = some (.int .i64 e.pid) := hB.cell 0
  have g1 : w0.cell? ⟨w.heap.size, 1, none⟩ = some (.int .i64 e.cr.r) := hB.cell 1
  have g2 : w0.cell? ⟨w.heap.size, 2, none⟩ = some (.int .i64 e.cr.e) := hB.cell 2
  have g3 : w0.cell? ⟨w.heap.size, 3, none⟩ = some (.int .i64 e.cr.s) := hB.cell 3
  have g4 : w0.cell? ⟨w.heap.size, 4, none⟩ = some (.int .i64 e.cr.g) := hB.cell 4
  have g5 : w0.cell? ⟨w.heap.size, 5, none⟩ = some (.int .i64 e.cr.h) := hB.cell 5
  have i0 : decide ((n : Int) < 0) = false := by simp
  have i1 : (0 : Int) ≤ n ∧ (n : Int) < (r.L.length : Int) := by omega
  have hbl0 : b < w0.heap.size := by omega
  have A6 : (e.cr.e == 0) = true := by simpa using hr
  clear hr
  have A7 : (why == 0) = false := by simpa using hwy
  clear hwy
  have q0 : (e.err != 0) = false := by simpa using he
  have q18 : (e.cl.op == 18) = false := by simp; omega
  have q19 : (e.cl.op == 19) = false := by simp; omega
  have q20 : (e.cl.op == 20) = false := by simp; omega
  have q26 : (e.cl.op == 26) = true := by simpa using hop
  have H := hide h
  have HB := hide hB
  have HG := hide hG
  have HT := hide hT
  have Hat := hide hat
  have Hn := hide hn
  obtain ⟨CC, hCC⟩ : ∃ CC, e.cells = CC := ⟨_, rfl⟩
  rw [hCC] at hw0 ⊢
  clear hB hG hT h hat hi hs hcap hcm hgl hn hlen
  go_enter Try.func10, Try.ntmps10
  go_wp2_with fail
  refine Hat.out.mono ?_
  rintro x1 w1 ⟨rfl, rfl⟩
  simp only [oi]
  go_wp2_with fail
  go_quiet (fail)
  go_upto_if 52 with (fail)
  have hA := RA.start nq (⟨e.pid, ⟨e.cr, why, false, pv⟩⟩ : Pr) H.out HB.out HT.out HG.out hsz
  rw [hsz] at hA
  simp only [Pr.cells] at hA
  clear hsz hbl hbl0 hw0 d0 d1 d2 d3 d4 d5 d6 d7 d8 g0 g1 g2 g3 g4 g5 a0
  generalize (w0.drewN nq).alloc (.cells #[.int .i64 e.pid, .int .i64 e.cr.r, .int .i64 e.cr.e, .int .i64 e.cr.s, .int .i64 e.cr.g, .int .i64 e.cr.h, .int .i64 why, .bool false, .bool pv] 52) = W, w.heap.size + 1 = pk at hA ⊢
  generalize w.heap.size = eb at hA ⊢
  have HA := hide hA
  have c0 : W.cell? ⟨pk, 0, none⟩ = some (.int .i64 e.pid) := hA.p.cell 0
  have c2 : W.cell? ⟨pk, 2, none⟩ = some (.int .i64 e.cr.e) := hA.p.cell 2
  have c6 : W.cell? ⟨pk, 6, none⟩ = some (.int .i64 why) := hA.p.cell 6
  have c7 : W.cell? ⟨pk, 7, none⟩ = some (.bool false) := hA.p.cell 7
  have c8 : W.cell? ⟨pk, 8, none⟩ = some (.bool pv) := hA.p.cell 8
  have c1 : W.cell? ⟨pk, 1, none⟩ = some (.int .i64 e.cr.r) := hA.p.cell 1
  have c3 : W.cell? ⟨pk, 3, none⟩ = some (.int .i64 e.cr.s) := hA.p.cell 3
  have c4 : W.cell? ⟨pk, 4, none⟩ = some (.int .i64 e.cr.g) := hA.p.cell 4
  have c5 : W.cell? ⟨pk, 5, none⟩ = some (.int .i64 e.cr.h) := hA.p.cell 5
  have k6 : W.cell? ⟨eb, 6, none⟩ = some (.int .i64 e.cl.op) := hA.ev.cell 6
  have k12 : W.cell? ⟨eb, 12, none⟩ = some (.int .i64 e.cl.n) := hA.ev.cell 12
  have k26 : W.cell? ⟨eb, 26, none⟩ = some (.int .i64 e.err) := hA.ev.cell 26
  have b0 : W.cell? ⟨b, 0, none⟩ = some (.slice (some ⟨g, off, none⟩) r.L.length cap) := hA.tab.blk.cell 0
  clear hA
  have zp : W.frozen? ⟨pk, 7, none⟩ = false := HA.out.p.frozen 7
  have hpl : pk < W.heap.size := HA.out.p.lt
  go_wp2_with fail
  have HA2 := hide (HA.out.nt_ (e.cl.n == 1))
  clear c0 c1 c2 c3 c4 c5 c6 c7 c8 k6 k12 k26 b0 HA zp hpl
  generalize W.setCell ⟨pk, 7, none⟩ (.bool (e.cl.n == 1)) = W2 at HA2 ⊢
  have hqs : QS b pk (.slice (some ⟨g, off, none⟩) r.L.length cap) (⟨e.pid, ⟨e.cr, why, (e.cl.n == 1), pv⟩⟩ : Pr) W2.drew := ⟨HA2.out.tab.blk.cell 0, RowAt.of (Blk.drew HA2.out.p)⟩
  refine wp_region_perm [0, 1, 2, 3, 4, 5, 6] [7] (by kernel_rfl) (by kernel_rfl) (QS b pk (.slice (some ⟨g, off, none⟩) r.L.length cap) (⟨e.pid, ⟨e.cr, why, (e.cl.n == 1), pv⟩⟩ : Pr)) hqs ?_
  simp only [pick, List.getElem?_cons_zero, List.getElem?_cons_succ]
  iterate 7
    refine wpTake_cons ?_ (by rfl) ?_ ?_
    rotate_left
    · (intro W9 hSW; obtain ⟨hS1, j0, j1, j2, j3, j4, j5, j6, j7, j8⟩ := hSW; go_simp; try with_reducible rfl)
    simp only [Act.put, List.setIfInBounds_toArray, List.set_cons_zero, List.set_cons_succ]
  refine wpTake_nil ?_
  refine wpForce_one ?_
  obtain ⟨hf, hth⟩ := HA2.out.put rfl Hn.out 1
  have Hf := hide hf
  clear hf
  refine wpList_store_mid rfl 52 _ _ rfl g (off + n * 9) (⟨e.pid, ⟨e.cr, why, (e.cl.n == 1), pv⟩⟩ : Pr).cells.toArray (by rfl) (by rfl) hth (by rw [show (⟨e.pid, ⟨e.cr, why, (e.cl.n == 1), pv⟩⟩ : Pr).cells.toArray.size = 9 from rfl]; kernel_rfl) (all_oneCell_toArray (fun y hy => pcs_one [(⟨e.pid, ⟨e.cr, why, (e.cl.n == 1), pv⟩⟩ : Pr)] y (by simpa [pcs] using hy))) ?_
  refine wpList_nil ?_
  refine NoPanic.normal ?_
  go_wp2
  go_ret
  exact ⟨rfl, Hf.out⟩

set_option maxHeartbeats 2000000 in
theorem rwell_note_bt (b : Nat) (v : Value) (r : RS) (e : Ev) (w : World) (h : RAt w b v r) (n : Nat) (why : Int) (hi : idx r.L e.pid = some n) (hs : r.L[n]? = some (⟨e.pid, ⟨e.cr, why, true, true⟩⟩ : Pr)) (hr : e.cr.e = 0) (hwy : why = 0) (he : e.err = 0) (hop : e.cl.op = 26) :
    Calls Try.prog 10 #[.pointer (some ⟨b, 0, none⟩), .agg e.cells] w fun x w' => x = .returned (.bool true) ∧ RTo w w' b (rOwn b v) ⟨r.L.set n (⟨e.pid, ⟨e.cr, why, (true), true⟩⟩ : Pr), r.last⟩ := by
  have hn : n < r.L.length := (idx_some hi).1
  have hlen := h.len
  obtain ⟨g, off, cap, hv, hcap, hcm, hgl⟩ := h.prs.at h.pos
  subst hv
  obtain ⟨w0, hw0⟩ : ∃ w0, w.alloc (.cells e.cells 40) = w0 := ⟨_, rfl⟩
  have hB := Blk.new w 40 e.cells
  have hG := only_alloc (only_refl w none) (.cells e.cells 40)
  have hT := h.gr hG
  have hbl := h.blk.lt
  rw [hw0] at hB hG hT
  have hsz : w0.heap.size = w.heap.size + 1 := by rw [← hw0, World.size_alloc]
  have hat := rat_any b _ r e.pid w0 hT
  rw [hi] at hat
  obtain ⟨d0, d1, d2, d3, d4, d5, d6, d7, d8⟩ := hT.prs.c rfl hn hs
  have a0 : w0.cell? ⟨b, 0, none⟩ = some (.slice (some ⟨g, off, none⟩) r.L.length cap) := hT.blk.cell 0
  have g0 : w0.cell? ⟨w.heap.size, 0, none⟩ = some (.int .i64 e.pid) := hB.cell 0
  have g1 : w0.cell? ⟨w.heap.size, 1, none⟩ = some (.int .i64 e.cr.r) := hB.cell 1
  have g2 : w0.cell? ⟨w.heap.size, 2, none⟩ = some (.int .i64 e.cr.e) := hB.cell 2
  have g3 : w0.cell? ⟨w.heap.size, 3, none⟩ = some (.int .i64 e.cr.s) := hB.cell 3
  have g4 : w0.cell? ⟨w.heap.size, 4, none⟩ = some (.int .i64 e.cr.g) := hB.cell 4
  have g5 : w0.cell? ⟨w.heap.size, 5, none⟩ = some (.int .i64 e.cr.h) := hB.cell 5
  have i0 : decide ((n : Int) < 0) = false := by simp
  have i1 : (0 : Int) ≤ n ∧ (n : Int) < (r.L.length : Int) := by omega
  have hbl0 : b < w0.heap.size := by omega
  have A6 : (e.cr.e == 0) = true := by simpa using hr
  clear hr
  have A7 : (why == 0) = true := by simpa using hwy
  clear hwy
  have q0 : (e.err != 0) = false := by simpa using he
  have q18 : (e.cl.op == 18) = false := by simp; omega
  have q19 : (e.cl.op == 19) = false := by simp; omega
  have q20 : (e.cl.op == 20) = false := by simp; omega
  have q26 : (e.cl.op == 26) = true := by simpa using hop
  have H := hide h
  have HB := hide hB
  have HG := hide hG
  have HT := hide hT
  have Hat := hide hat
  have Hn := hide hn
  obtain ⟨CC, hCC⟩ : ∃ CC, e.cells = CC := ⟨_, rfl⟩
  rw [hCC] at hw0 ⊢
  clear hB hG hT h hat hi hs hcap hcm hgl hn hlen
  go_enter Try.func10, Try.ntmps10
  go_wp2_with fail
  refine Hat.out.mono ?_
  rintro x1 w1 ⟨rfl, rfl⟩
  simp only [oi]
  go_wp2_with fail
  go_quiet (fail)
  go_upto_if 52 with (fail)
  have hA := RA.start nq (⟨e.pid, ⟨e.cr, why, true, true⟩⟩ : Pr) H.out HB.out HT.out HG.out hsz
  rw [hsz] at hA
  simp only [Pr.cells] at hA
  clear hsz hbl hbl0 hw0 d0 d1 d2 d3 d4 d5 d6 d7 d8 g0 g1 g2 g3 g4 g5 a0
  generalize (w0.drewN nq).alloc (.cells #[.int .i64 e.pid, .int .i64 e.cr.r, .int .i64 e.cr.e, .int .i64 e.cr.s, .int .i64 e.cr.g, .int .i64 e.cr.h, .int .i64 why, .bool true, .bool true] 52) = W, w.heap.size + 1 = pk at hA ⊢
  generalize w.heap.size = eb at hA ⊢
  have HA := hide hA
  have c0 : W.cell? ⟨pk, 0, none⟩ = some (.int .i64 e.pid) := hA.p.cell 0
  have c2 : W.cell? ⟨pk, 2, none⟩ = some (.int .i64 e.cr.e) := hA.p.cell 2
  have c6 : W.cell? ⟨pk, 6, none⟩ = some (.int .i64 why) := hA.p.cell 6
  have c7 : W.cell? ⟨pk, 7, none⟩ = some (.bool true) := hA.p.cell 7
  have c8 : W.cell? ⟨pk, 8, none⟩ = some (.bool true) := hA.p.cell 8
  have c1 : W.cell? ⟨pk, 1, none⟩ = some (.int .i64 e.cr.r) := hA.p.cell 1
  have c3 : W.cell? ⟨pk, 3, none⟩ = some (.int .i64 e.cr.s) := hA.p.cell 3
  have c4 : W.cell? ⟨pk, 4, none⟩ = some (.int .i64 e.cr.g) := hA.p.cell 4
  have c5 : W.cell? ⟨pk, 5, none⟩ = some (.int .i64 e.cr.h) := hA.p.cell 5
  have k6 : W.cell? ⟨eb, 6, none⟩ = some (.int .i64 e.cl.op) := hA.ev.cell 6
  have k12 : W.cell? ⟨eb, 12, none⟩ = some (.int .i64 e.cl.n) := hA.ev.cell 12
  have k26 : W.cell? ⟨eb, 26, none⟩ = some (.int .i64 e.err) := hA.ev.cell 26
  have b0 : W.cell? ⟨b, 0, none⟩ = some (.slice (some ⟨g, off, none⟩) r.L.length cap) := hA.tab.blk.cell 0
  clear hA
  have zp : W.frozen? ⟨pk, 7, none⟩ = false := HA.out.p.frozen 7
  have hpl : pk < W.heap.size := HA.out.p.lt
  go_wp2_with fail
  have HA2 := hide (HA.out.nt_ (true))
  clear c0 c1 c2 c3 c4 c5 c6 c7 c8 k6 k12 k26 b0 HA zp hpl
  generalize W.setCell ⟨pk, 7, none⟩ (.bool (true)) = W2 at HA2 ⊢
  have hqs : QS b pk (.slice (some ⟨g, off, none⟩) r.L.length cap) (⟨e.pid, ⟨e.cr, why, (true), true⟩⟩ : Pr) W2.drew := ⟨HA2.out.tab.blk.cell 0, RowAt.of (Blk.drew HA2.out.p)⟩
  refine wp_region_perm [0, 1, 2, 3, 4, 5, 6] [7] (by kernel_rfl) (by kernel_rfl) (QS b pk (.slice (some ⟨g, off, none⟩) r.L.length cap) (⟨e.pid, ⟨e.cr, why, (true), true⟩⟩ : Pr)) hqs ?_
  simp only [pick, List.getElem?_cons_zero, List.getElem?_cons_succ]
  iterate 7
    refine wpTake_cons ?_ (by rfl) ?_ ?_
    rotate_left
    · (intro W9 hSW; obtain ⟨hS1, j0, j1, j2, j3, j4, j5, j6, j7, j8⟩ := hSW; go_simp; try with_reducible rfl)
    simp only [Act.put, List.setIfInBounds_toArray, List.set_cons_zero, List.set_cons_succ]
  refine wpTake_nil ?_
  refine wpForce_one ?_
  obtain ⟨hf, hth⟩ := HA2.out.put rfl Hn.out 1
  have Hf := hide hf
  clear hf
  refine wpList_store_mid rfl 52 _ _ rfl g (off + n * 9) (⟨e.pid, ⟨e.cr, why, (true), true⟩⟩ : Pr).cells.toArray (by rfl) (by rfl) hth (by rw [show (⟨e.pid, ⟨e.cr, why, (true), true⟩⟩ : Pr).cells.toArray.size = 9 from rfl]; kernel_rfl) (all_oneCell_toArray (fun y hy => pcs_one [(⟨e.pid, ⟨e.cr, why, (true), true⟩⟩ : Pr)] y (by simpa [pcs] using hy))) ?_
  refine wpList_nil ?_
  refine NoPanic.normal ?_
  go_wp2
  go_ret
  exact ⟨rfl, Hf.out⟩

set_option maxHeartbeats 2000000 in
theorem rwell_note_bf (b : Nat) (v : Value) (r : RS) (e : Ev) (w : World) (h : RAt w b v r) (n : Nat) (why : Int) (hi : idx r.L e.pid = some n) (hs : r.L[n]? = some (⟨e.pid, ⟨e.cr, why, false, true⟩⟩ : Pr)) (hr : e.cr.e = 0) (hwy : why = 0) (he : e.err = 0) (hop : e.cl.op = 26) :
    Calls Try.prog 10 #[.pointer (some ⟨b, 0, none⟩), .agg e.cells] w fun x w' => x = .returned (.bool true) ∧ RTo w w' b (rOwn b v) ⟨r.L.set n (⟨e.pid, ⟨e.cr, why, (e.cl.n == 1), true⟩⟩ : Pr), r.last⟩ := by
  have hn : n < r.L.length := (idx_some hi).1
  have hlen := h.len
  obtain ⟨g, off, cap, hv, hcap, hcm, hgl⟩ := h.prs.at h.pos
  subst hv
  obtain ⟨w0, hw0⟩ : ∃ w0, w.alloc (.cells e.cells 40) = w0 := ⟨_, rfl⟩
  have hB := Blk.new w 40 e.cells
  have hG := only_alloc (only_refl w none) (.cells e.cells 40)
  have hT := h.gr hG
  have hbl := h.blk.lt
  rw [hw0] at hB hG hT
  have hsz : w0.heap.size = w.heap.size + 1 := by rw [← hw0, World.size_alloc]
  have hat := rat_any b _ r e.pid w0 hT
  rw [hi] at hat
  obtain ⟨d0, d1, d2, d3, d4, d5, d6, d7, d8⟩ := hT.prs.c rfl hn hs
  have a0 : w0.cell? ⟨b, 0, none⟩ = some (.slice (some ⟨g, off, none⟩) r.L.length cap) := hT.blk.cell 0
  have g0 : w0.cell? ⟨w.heap.size, 0, none⟩ = some (.int .i64 e.pid) := hB.cell 0
  have g1 : w0.cell? ⟨w.heap.size, 1, none⟩ = some (.int .i64 e.cr.r) := hB.cell 1
  have g2 : w0.cell? ⟨w.heap.size, 2, none⟩ = some (.int .i64 e.cr.e) := hB.cell 2
  have g3 : w0.cell? ⟨w.heap.size, 3, none⟩ = some (.int .i64 e.cr.s) := hB.cell 3
  have g4 : w0.cell? ⟨w.heap.size, 4, none⟩ = some (.int .i64 e.cr.g) := hB.cell 4
  have g5 : w0.cell? ⟨w.heap.size, 5, none⟩ = some (.int .i64 e.cr.h) := hB.cell 5
  have i0 : decide ((n : Int) < 0) = false := by simp
  have i1 : (0 : Int) ≤ n ∧ (n : Int) < (r.L.length : Int) := by omega
  have hbl0 : b < w0.heap.size := by omega
  have A6 : (e.cr.e == 0) = true := by simpa using hr
  clear hr
  have A7 : (why == 0) = true := by simpa using hwy
  clear hwy
  have q0 : (e.err != 0) = false := by simpa using he
  have q18 : (e.cl.op == 18) = false := by simp; omega
  have q19 : (e.cl.op == 19) = false := by simp; omega
  have q20 : (e.cl.op == 20) = false := by simp; omega
  have q26 : (e.cl.op == 26) = true := by simpa using hop
  have H := hide h
  have HB := hide hB
  have HG := hide hG
  have HT := hide hT
  have Hat := hide hat
  have Hn := hide hn
  obtain ⟨CC, hCC⟩ : ∃ CC, e.cells = CC := ⟨_, rfl⟩
  rw [hCC] at hw0 ⊢
  clear hB hG hT h hat hi hs hcap hcm hgl hn hlen
  go_enter Try.func10, Try.ntmps10
  go_wp2_with fail
  refine Hat.out.mono ?_
  rintro x1 w1 ⟨rfl, rfl⟩
  simp only [oi]
  go_wp2_with fail
  go_quiet (fail)
  go_upto_if 52 with (fail)
  have hA := RA.start nq (⟨e.pid, ⟨e.cr, why, false, true⟩⟩ : Pr) H.out HB.out HT.out HG.out hsz
  rw [hsz] at hA
  simp only [Pr.cells] at hA
  clear hsz hbl hbl0 hw0 d0 d1 d2 d3 d4 d5 d6 d7 d8 g0 g1 g2 g3 g4 g5 a0
  generalize (w0.drewN nq).alloc (.cells #[.int .i64 e.pid, .int .i64 e.cr.r, .int .i64 e.cr.e, .int .i64 e.cr.s, .int .i64 e.cr.g, .int .i64 e.cr.h, .int .i64 why, .bool false, .bool true] 52) = W, w.heap.size + 1 = pk at hA ⊢
  generalize w.heap.size = eb at hA ⊢
  have HA := hide hA
  have c0 : W.cell? ⟨pk, 0, none⟩ = some (.int .i64 e.pid) := hA.p.cell 0
  have c2 : W.cell? ⟨pk, 2, none⟩ = some (.int .i64 e.cr.e) := hA.p.cell 2
  have c6 : W.cell? ⟨pk, 6, none⟩ = some (.int .i64 why) := hA.p.cell 6
  have c7 : W.cell? ⟨pk, 7, none⟩ = some (.bool false) := hA.p.cell 7
  have c8 : W.cell? ⟨pk, 8, none⟩ = some (.bool true) := hA.p.cell 8
  have c1 : W.cell? ⟨pk, 1, none⟩ = some (.int .i64 e.cr.r) := hA.p.cell 1
  have c3 : W.cell? ⟨pk, 3, none⟩ = some (.int .i64 e.cr.s) := hA.p.cell 3
  have c4 : W.cell? ⟨pk, 4, none⟩ = some (.int .i64 e.cr.g) := hA.p.cell 4
  have c5 : W.cell? ⟨pk, 5, none⟩ = some (.int .i64 e.cr.h) := hA.p.cell 5
  have k6 : W.cell? ⟨eb, 6, none⟩ = some (.int .i64 e.cl.op) := hA.ev.cell 6
  have k12 : W.cell? ⟨eb, 12, none⟩ = some (.int .i64 e.cl.n) := hA.ev.cell 12
  have k26 : W.cell? ⟨eb, 26, none⟩ = some (.int .i64 e.err) := hA.ev.cell 26
  have b0 : W.cell? ⟨b, 0, none⟩ = some (.slice (some ⟨g, off, none⟩) r.L.length cap) := hA.tab.blk.cell 0
  clear hA
  have zp : W.frozen? ⟨pk, 7, none⟩ = false := HA.out.p.frozen 7
  have hpl : pk < W.heap.size := HA.out.p.lt
  go_wp2_with fail
  have HA2 := hide (HA.out.nt_ (e.cl.n == 1))
  clear c0 c1 c2 c3 c4 c5 c6 c7 c8 k6 k12 k26 b0 HA zp hpl
  generalize W.setCell ⟨pk, 7, none⟩ (.bool (e.cl.n == 1)) = W2 at HA2 ⊢
  have hqs : QS b pk (.slice (some ⟨g, off, none⟩) r.L.length cap) (⟨e.pid, ⟨e.cr, why, (e.cl.n == 1), true⟩⟩ : Pr) W2.drew := ⟨HA2.out.tab.blk.cell 0, RowAt.of (Blk.drew HA2.out.p)⟩
  refine wp_region_perm [0, 1, 2, 3, 4, 5, 6] [7] (by kernel_rfl) (by kernel_rfl) (QS b pk (.slice (some ⟨g, off, none⟩) r.L.length cap) (⟨e.pid, ⟨e.cr, why, (e.cl.n == 1), true⟩⟩ : Pr)) hqs ?_
  simp only [pick, List.getElem?_cons_zero, List.getElem?_cons_succ]
  iterate 7
    refine wpTake_cons ?_ (by rfl) ?_ ?_
    rotate_left
    · (intro W9 hSW; obtain ⟨hS1, j0, j1, j2, j3, j4, j5, j6, j7, j8⟩ := hSW; go_simp; try with_reducible rfl)
    simp only [Act.put, List.setIfInBounds_toArray, List.set_cons_zero, List.set_cons_succ]
  refine wpTake_nil ?_
  refine wpForce_one ?_
  obtain ⟨hf, hth⟩ := HA2.out.put rfl Hn.out 1
  have Hf := hide hf
  clear hf
  refine wpList_store_mid rfl 52 _ _ rfl g (off + n * 9) (⟨e.pid, ⟨e.cr, why, (e.cl.n == 1), true⟩⟩ : Pr).cells.toArray (by rfl) (by rfl) hth (by rw [show (⟨e.pid, ⟨e.cr, why, (e.cl.n == 1), true⟩⟩ : Pr).cells.toArray.size = 9 from rfl]; kernel_rfl) (all_oneCell_toArray (fun y hy => pcs_one [(⟨e.pid, ⟨e.cr, why, (e.cl.n == 1), true⟩⟩ : Pr)] y (by simpa [pcs] using hy))) ?_
  refine wpList_nil ?_
  refine NoPanic.normal ?_
  go_wp2
  go_ret
  exact ⟨rfl, Hf.out⟩

end Go.Proofs.Ytolmpejaakpikaa
