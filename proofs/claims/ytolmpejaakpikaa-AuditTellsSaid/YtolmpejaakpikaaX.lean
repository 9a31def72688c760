/- The document's well: programs, other users. -/
import Derived.Test.YtolmpejaakpikaaU
set_option linter.all false
namespace Go.Proofs.Ytolmpejaakpikaa
open Go.RowKit Go.Maps
set_option maxRecDepth 100000

set_option maxHeartbeats 2000000 in
theorem rwell_exec_bad1 (b : Nat) (v : Value) (r : RS) (e : Ev) (w : World) (h : RAt w b v r) (n : Nat) (why : Int) (nt pv : Bool) (hi : idx r.L e.pid = some n) (hs : r.L[n]? = some (⟨e.pid, ⟨e.cr, why, nt, pv⟩⟩ : Pr)) (R : Cr) (y : Int) (hr : e.cr.e ≠ 0) (he : e.err = 0) (hop : e.cl.op = 19) (hE : execF e.cr (e.i 2) (e.i 3) = (R, y)) (hy : y ≠ 0) :
    Calls Try.prog 10 #[.pointer (some ⟨b, 0, none⟩), .agg e.cells] w fun x w' => x = .returned (.bool false) ∧ w.grownBy w' none := by
  have hn : n < r.L.length := (idx_some hi).1
  have hlen := h.len
  obtain ⟨g, off, cap, hv, hcap, hcm, hgl⟩ := h.prs.at h.pos
  subst hv
  obtain ⟨w0, hw0⟩ : ∃ w0, w.alloc (.cells e.cells 40) = w0 := ⟨_, rfl⟩
  have hB := Blk.new w 40 e.cells
  have hG := only_alloc (only_refl w none) (.cells e.cells 40)
  have hT := h.gr hG
  have hbl := h.blk.lt
  rw [hw0] at hB hG hT
  have hsz : w0.heap.size = w.heap.size + 1 := by rw [← hw0, World.size_alloc]
  have hat := rat_any b _ r e.pid w0 hT
  rw [hi] at hat
  obtain ⟨d0, d1, d2, d3, d4, d5, d6, d7, d8⟩ := hT.prs.c rfl hn hs
  have a0 : w0.cell? ⟨b, 0, none⟩ = some (.slice (some ⟨g, off, none⟩) r.L.length cap) := hT.blk.cell 0
  have g0 : w0.cell? ⟨w.heap.size, 0, none⟩ = some (.int .i64 e.pid) := hB.cell 0
  have g1 : w0.cell? ⟨w.heap.size, 1, none⟩ = some (.int .i64 e.cr.r) := hB.cell 1
  have g2 : w0.cell? ⟨w.heap.size, 2, none⟩ = some (.int .i64 e.cr.e) := hB.cell 2
  have g3 : w0.cell? ⟨w.heap.size, 3, none⟩ = some (.int .i64 e.cr.s) := hB.cell 3
  have g4 : w0.cell? ⟨w.heap.size, 4, none⟩ = some (.int .i64 e.cr.g) := hB.cell 4
  have g5 : w0.cell? ⟨w.heap.size, 5, none⟩ = some (.int .i64 e.cr.h) := hB.cell 5
  have i0 : decide ((n : Int) < 0) = false := by simp
  have i1 : (0 : Int) ≤ n ∧ (n : Int) < (r.L.length : Int) := by omega
  have hbl0 : b < w0.heap.size := by omega
  have A6 : (e.cr.e == 0) = false := by simpa using hr
  clear hr
  have q0 : (e.err != 0) = false := by simpa using he
  have q18 : (e.cl.op == 18) = false := by simp; omega
  have q19 : (e.cl.op == 19) = true := by simpa using hop
  have HE := hide hE
  clear hE
  have qy : (y != 0) = true := by simpa using hy
  clear hy
  have H := hide h
  have HB := hide hB
  have HG := hide hG
  have HT := hide hT
  have Hat := hide hat
  have Hn := hide hn
  obtain ⟨CC, hCC⟩ : ∃ CC, e.cells = CC := ⟨_, rfl⟩
  rw [hCC] at hw0 ⊢
  clear hB hG hT h hat hi hs hcap hcm hgl hn hlen
  go_enter Try.func10, Try.ntmps10
  go_wp2_with fail
  refine Hat.out.mono ?_
  rintro x1 w1 ⟨rfl, rfl⟩
  simp only [oi]
  go_wp2_with fail
  go_quiet (fail)
  go_upto_if 52 with (fail)
  have hA := RA.start nq (⟨e.pid, ⟨e.cr, why, nt, pv⟩⟩ : Pr) H.out HB.out HT.out HG.out hsz
  rw [hsz] at hA
  simp only [Pr.cells] at hA
  clear hsz hbl hbl0 hw0 d0 d1 d2 d3 d4 d5 d6 d7 d8 g0 g1 g2 g3 g4 g5 a0
  generalize (w0.drewN nq).alloc (.cells #[.int .i64 e.pid, .int .i64 e.cr.r, .int .i64 e.cr.e, .int .i64 e.cr.s, .int .i64 e.cr.g, .int .i64 e.cr.h, .int .i64 why, .bool nt, .bool pv] 52) = W, w.heap.size + 1 = pk at hA ⊢
  generalize w.heap.size = eb at hA ⊢
  have HA := hide hA
  have c0 : W.cell? ⟨pk, 0, none⟩ = some (.int .i64 e.pid) := hA.p.cell 0
  have c2 : W.cell? ⟨pk, 2, none⟩ = some (.int .i64 e.cr.e) := hA.p.cell 2
  have c6 : W.cell? ⟨pk, 6, none⟩ = some (.int .i64 why) := hA.p.cell 6
  have c7 : W.cell? ⟨pk, 7, none⟩ = some (.bool nt) := hA.p.cell 7
  have c8 : W.cell? ⟨pk, 8, none⟩ = some (.bool pv) := hA.p.cell 8
  have c1 : W.cell? ⟨pk, 1, none⟩ = some (.int .i64 e.cr.r) := hA.p.cell 1
  have c3 : W.cell? ⟨pk, 3, none⟩ = some (.int .i64 e.cr.s) := hA.p.cell 3
  have c4 : W.cell? ⟨pk, 4, none⟩ = some (.int .i64 e.cr.g) := hA.p.cell 4
  have c5 : W.cell? ⟨pk, 5, none⟩ = some (.int .i64 e.cr.h) := hA.p.cell 5
  have k6 : W.cell? ⟨eb, 6, none⟩ = some (.int .i64 e.cl.op) := hA.ev.cell 6
  have k12 : W.cell? ⟨eb, 12, none⟩ = some (.int .i64 e.cl.n) := hA.ev.cell 12
  have k26 : W.cell? ⟨eb, 26, none⟩ = some (.int .i64 e.err) := hA.ev.cell 26
  have b0 : W.cell? ⟨b, 0, none⟩ = some (.slice (some ⟨g, off, none⟩) r.L.length cap) := hA.tab.blk.cell 0
  clear hA
  have k33 : W.cell? ⟨eb, 33, none⟩ = some (.int .i64 (e.i 2)) := HA.out.ev.cell 33
  have k34 : W.cell? ⟨eb, 34, none⟩ = some (.int .i64 (e.i 3)) := HA.out.ev.cell 34
  have hc : Calls Try.prog 16 #[.agg #[.int .i64 e.cr.r, .int .i64 e.cr.e, .int .i64 e.cr.s, .int .i64 e.cr.g, .int .i64 e.cr.h], .int .i64 (e.i 2), .int .i64 (e.i 3)] W (ends (execF e.cr (e.i 2) (e.i 3)) W) := rexec_calls e.cr.r e.cr.e e.cr.s e.cr.g e.cr.h (e.i 2) (e.i 3) W
  rw [HE.out] at hc
  have Hc := hide hc
  clear hc
  go_wp2_with fail
  refine Hc.out.mono ?_
  clear c0 c1 c2 c3 c4 c5 c6 c7 c8 k6 k12 k26 b0
  rintro x W2 ⟨rfl, hg2⟩
  have HA2 := hide (HA.out.gr' hg2)
  have c0 : W2.cell? ⟨pk, 0, none⟩ = some (.int .i64 e.pid) := HA2.out.p.cell 0
  have c6 : W2.cell? ⟨pk, 6, none⟩ = some (.int .i64 why) := HA2.out.p.cell 6
  have c7 : W2.cell? ⟨pk, 7, none⟩ = some (.bool nt) := HA2.out.p.cell 7
  have c8 : W2.cell? ⟨pk, 8, none⟩ = some (.bool pv) := HA2.out.p.cell 8
  clear hg2 Hc k33 k34
  go_wp2
  go_ret
  exact ⟨rfl, (HA2.out.gr' (only_alloc (only_refl W2 none) _)).gr⟩

set_option maxHeartbeats 2000000 in
theorem rwell_exec_bad2 (b : Nat) (v : Value) (r : RS) (e : Ev) (w : World) (h : RAt w b v r) (n : Nat) (why : Int) (nt pv : Bool) (hi : idx r.L e.pid = some n) (hs : r.L[n]? = some (⟨e.pid, ⟨e.cr, why, nt, pv⟩⟩ : Pr)) (R : Cr) (y : Int) (hr : e.cr.e = 0) (hwy : why ≠ 0) (he : e.err = 0) (hop : e.cl.op = 19) (hE : execF e.cr (e.i 2) (e.i 3) = (R, y)) (hy : y ≠ 0) :
    Calls Try.prog 10 #[.pointer (some ⟨b, 0, none⟩), .agg e.cells] w fun x w' => x = .returned (.bool false) ∧ w.grownBy w' none := by
  have hn : n < r.L.length := (idx_some hi).1
  have hlen := h.len
  obtain ⟨g, off, cap, hv, hcap, hcm, hgl⟩ := h.prs.at h.pos
  subst hv
  obtain ⟨w0, hw0⟩ : ∃ w0, w.alloc (.cells e.cells 40) = w0 := ⟨_, rfl⟩
  have hB := Blk.new w 40 e.cells
  have hG := only_alloc (only_refl w none) (.cells e.cells 40)
  have hT := h.gr hG
  have hbl := h.blk.lt
  rw [hw0] at hB hG hT
  have hsz : w0.heap.size = w.heap.size + 1 := by rw [← hw0, World.size_alloc]
  have hat := rat_any b _ r e.pid w0 hT
  rw [hi] at hat
  obtain ⟨d0, d1, d2, d3, d4, d5, d6, d7, d8⟩ := hT.prs.c rfl hn hs
  have a0 : w0.cell? ⟨b, 0, none⟩ = some (.slice (some ⟨g, off, none⟩) r.L.length cap) := hT.blk.cell 0
  have g0 : w0.cell? ⟨w.heap.size, 0, none⟩ = some (.int .i64 e.pid) := hB.cell 0
  have g1 : w0.cell? ⟨w.heap.size, 1, none⟩ = some (.int .i64 e.cr.r) := hB.cell 1
  have g2 : w0.cell? ⟨w.heap.size, 2, none⟩ = some (.int .i64 e.cr.e) := hB.cell 2
  have g3 : w0.cell? ⟨w.heap.size, 3, none⟩ = some (.int .i64 e.cr.s) := hB.cell 3
  have g4 : w0.cell? ⟨w.heap.size, 4, none⟩ = some (.int .i64 e.cr.g) := hB.cell 4
  have g5 : w0.cell? ⟨w.heap.size, 5, none⟩ = some (.int .i64 e.cr.h) := hB.cell 5
  have i0 : decide ((n : Int) < 0) = false := by simp
  have i1 : (0 : Int) ≤ n ∧ (n : Int) < (r.L.length : Int) := by omega
  have hbl0 : b < w0.heap.size := by omega
  have A6 : (e.cr.e == 0) = true := by simpa using hr
  clear hr
  have A7 : (why == 0) = false := by simpa using hwy
  clear hwy
  have q0 : (e.err != 0) = false := by simpa using he
  have q18 : (e.cl.op == 18) = false := by simp; omega
  have q19 : (e.cl.op == 19) = true := by simpa using hop
  have HE := hide hE
  clear hE
  have qy : (y != 0) = true := by simpa using hy
  clear hy
  have H := hide h
  have HB := hide hB
  have HG := hide hG
  have HT := hide hT
  have Hat := hide hat
  have Hn := hide hn
  obtain ⟨CC, hCC⟩ : ∃ CC, e.cells = CC := ⟨_, rfl⟩
  rw [hCC] at hw0 ⊢
  clear hB hG hT h hat hi hs hcap hcm hgl hn hlen
  go_enter Try.func10, Try.ntmps10
  go_wp2_with fail
  refine Hat.out.mono ?_
  rintro x1 w1 ⟨rfl, rfl⟩
  simp only [oi]
  go_wp2_with fail
  go_quiet (fail)
  go_upto_if 52 with (fail)
  have hA := RA.start nq (⟨e.pid, ⟨e.cr, why, nt, pv⟩⟩ : Pr) H.out HB.out HT.out HG.out hsz
  rw [hsz] at hA
  simp only [Pr.cells] at hA
  clear hsz hbl hbl0 hw0 d0 d1 d2 d3 d4 d5 d6 d7 d8 g0 g1 g2 g3 g4 g5 a0
  generalize (w0.drewN nq).alloc (.cells #[.int .i64 e.pid, .int .i64 e.cr.r, .int .i64 e.cr.e, .int .i64 e.cr.s, .int .i64 e.cr.g, .int .i64 e.cr.h, .int .i64 why, .bool nt, .bool pv] 52) = W, w.heap.size + 1 = pk at hA ⊢
  generalize w.heap.size = eb at hA ⊢
  have HA := hide hA
  have c0 : W.cell? ⟨pk, 0, none⟩ = some (.int .i64 e.pid) := hA.p.cell 0
  have c2 : W.cell? ⟨pk, 2, none⟩ = some (.int .i64 e.cr.e) := hA.p.cell 2
  have c6 : W.cell? ⟨pk, 6, none⟩ = some (.int .i64 why) := hA.p.cell 6
  have c7 : W.cell? ⟨pk, 7, none⟩ = some (.bool nt) := hA.p.cell 7
  have c8 : W.cell? ⟨pk, 8, none⟩ = some (.bool pv) := hA.p.cell 8
  have c1 : W.cell? ⟨pk, 1, none⟩ = some (.int .i64 e.cr.r) := hA.p.cell 1
  have c3 : W.cell? ⟨pk, 3, none⟩ = some (.int .i64 e.cr.s) := hA.p.cell 3
  have c4 : W.cell? ⟨pk, 4, none⟩ = some (.int .i64 e.cr.g) := hA.p.cell 4
  have c5 : W.cell? ⟨pk, 5, none⟩ = some (.int .i64 e.cr.h) := hA.p.cell 5
  have k6 : W.cell? ⟨eb, 6, none⟩ = some (.int .i64 e.cl.op) := hA.ev.cell 6
  have k12 : W.cell? ⟨eb, 12, none⟩ = some (.int .i64 e.cl.n) := hA.ev.cell 12
  have k26 : W.cell? ⟨eb, 26, none⟩ = some (.int .i64 e.err) := hA.ev.cell 26
  have b0 : W.cell? ⟨b, 0, none⟩ = some (.slice (some ⟨g, off, none⟩) r.L.length cap) := hA.tab.blk.cell 0
  clear hA
  have k33 : W.cell? ⟨eb, 33, none⟩ = some (.int .i64 (e.i 2)) := HA.out.ev.cell 33
  have k34 : W.cell? ⟨eb, 34, none⟩ = some (.int .i64 (e.i 3)) := HA.out.ev.cell 34
  have hc : Calls Try.prog 16 #[.agg #[.int .i64 e.cr.r, .int .i64 e.cr.e, .int .i64 e.cr.s, .int .i64 e.cr.g, .int .i64 e.cr.h], .int .i64 (e.i 2), .int .i64 (e.i 3)] W (ends (execF e.cr (e.i 2) (e.i 3)) W) := rexec_calls e.cr.r e.cr.e e.cr.s e.cr.g e.cr.h (e.i 2) (e.i 3) W
  rw [HE.out] at hc
  have Hc := hide hc
  clear hc
  go_wp2_with fail
  refine Hc.out.mono ?_
  clear c0 c1 c2 c3 c4 c5 c6 c7 c8 k6 k12 k26 b0
  rintro x W2 ⟨rfl, hg2⟩
  have HA2 := hide (HA.out.gr' hg2)
  have c0 : W2.cell? ⟨pk, 0, none⟩ = some (.int .i64 e.pid) := HA2.out.p.cell 0
  have c6 : W2.cell? ⟨pk, 6, none⟩ = some (.int .i64 why) := HA2.out.p.cell 6
  have c7 : W2.cell? ⟨pk, 7, none⟩ = some (.bool nt) := HA2.out.p.cell 7
  have c8 : W2.cell? ⟨pk, 8, none⟩ = some (.bool pv) := HA2.out.p.cell 8
  clear hg2 Hc k33 k34
  go_wp2
  go_ret
  exact ⟨rfl, (HA2.out.gr' (only_alloc (only_refl W2 none) _)).gr⟩

set_option maxHeartbeats 2000000 in
theorem rwell_exec_bad3 (b : Nat) (v : Value) (r : RS) (e : Ev) (w : World) (h : RAt w b v r) (n : Nat) (why : Int) (nt : Bool) (hi : idx r.L e.pid = some n) (hs : r.L[n]? = some (⟨e.pid, ⟨e.cr, why, nt, true⟩⟩ : Pr)) (R : Cr) (y : Int) (hr : e.cr.e = 0) (hwy : why = 0) (he : e.err = 0) (hop : e.cl.op = 19) (hE : execF e.cr (e.i 2) (e.i 3) = (R, y)) (hy : y ≠ 0) :
    Calls Try.prog 10 #[.pointer (some ⟨b, 0, none⟩), .agg e.cells] w fun x w' => x = .returned (.bool false) ∧ w.grownBy w' none := by
  have hn : n < r.L.length := (idx_some hi).1
  have hlen := h.len
  obtain ⟨g, off, cap, hv, hcap, hcm, hgl⟩ := h.prs.at h.pos
  subst hv
  obtain ⟨w0, hw0⟩ : ∃ w0, w.alloc (.cells e.cells 40) = w0 := ⟨_, rfl⟩
  have hB := Blk.new w 40 e.cells
  have hG := only_alloc (only_refl w none) (.cells e.cells 40)
  have hT := h.gr hG
  have hbl := h.blk.lt
  rw [hw0] at hB hG hT
  have hsz : w0.heap.size = w.heap.size + 1 := by rw [← hw0, World.size_alloc]
  have hat := rat_any b _ r e.pid w0 hT
  rw [hi] at hat
  obtain ⟨d0, d1, d2, d3, d4, d5, d6, d7, d8⟩ := hT.prs.c rfl hn hs
  have a0 : w0.cell? ⟨b, 0, none⟩ = some (.slice (some ⟨g, off, none⟩) r.L.length cap) := hT.blk.cell 0
  have g0 : w0.cell? ⟨w.heap.size, 0, none⟩ = some (.int .i64 e.pid) := hB.cell 0
  have g1 : w0.cell? ⟨w.heap.size, 1, none⟩ = some (.int .i64 e.cr.r) := hB.cell 1
  have g2 : w0.cell? ⟨w.heap.size, 2, none⟩ = some (.int .i64 e.cr.e) := hB.cell 2
  have g3 : w0.cell? ⟨w.heap.size, 3, none⟩ = some (.int .i64 e.cr.s) := hB.cell 3
  have g4 : w0.cell? ⟨w.heap.size, 4, none⟩ = some (.int .i64 e.cr.g) := hB.cell 4
  have g5 : w0.cell? ⟨w.heap.size, 5, none⟩ = some (.int .i64 e.cr.h) := hB.cell 5
  have i0 : decide ((n : Int) < 0) = false := by simp
  have i1 : (0 : Int) ≤ n ∧ (n : Int) < (r.L.length : Int) := by omega
  have hbl0 : b < w0.heap.size := by omega
  have A6 : (e.cr.e == 0) = true := by simpa using hr
  clear hr
  have A7 : (why == 0) = true := by simpa using hwy
  clear hwy
  have q0 : (e.err != 0) = false := by simpa using he
  have q18 : (e.cl.op == 18) = false := by simp; omega
  have q19 : (e.cl.op == 19) = true := by simpa using hop
  have HE := hide hE
  clear hE
  have qy : (y != 0) = true := by simpa using hy
  clear hy
  have H := hide h
  have HB := hide hB
  have HG := hide hG
  have HT := hide hT
  have Hat := hide hat
  have Hn := hide hn
  obtain ⟨CC, hCC⟩ : ∃ CC, e.cells = CC := ⟨_, rfl⟩
  rw [hCC] at hw0 ⊢
  clear hB hG hT h hat hi hs hcap hcm hgl hn hlen
  go_enter Try.func10, Try.ntmps10
  go_wp2_with fail
  refine Hat.out.mono ?_
  rintro x1 w1 ⟨rfl, rfl⟩
  simp only [oi]
  go_wp2_with fail
  go_quiet (fail)
  go_upto_if 52 with (fail)
  have hA := RA.start nq (⟨e.pid, ⟨e.cr, why, nt, true⟩⟩ : Pr) H.out HB.out HT.out HG.out hsz
  rw [hsz] at hA
  simp only [Pr.cells] at hA
  clear hsz hbl hbl0 hw0 d0 d1 d2 d3 d4 d5 d6 d7 d8 g0 g1 g2 g3 g4 g5 a0
  generalize (w0.drewN nq).alloc (.cells #[.int .i64 e.pid, .int .i64 e.cr.r, .int .i64 e.cr.e, .int .i64 e.cr.s, .int .i64 e.cr.g, .int .i64 e.cr.h, .int .i64 why, .bool nt, .bool true] 52) = W, w.heap.size + 1 = pk at hA ⊢
  generalize w.heap.size = eb at hA ⊢
  have HA := hide hA
  have c0 : W.cell? ⟨pk, 0, none⟩ = some (.int .i64 e.pid) := hA.p.cell 0
  have c2 : W.cell? ⟨pk, 2, none⟩ = some (.int .i64 e.cr.e) := hA.p.cell 2
  have c6 : W.cell? ⟨pk, 6, none⟩ = some (.int .i64 why) := hA.p.cell 6
  have c7 : W.cell? ⟨pk, 7, none⟩ = some (.bool nt) := hA.p.cell 7
  have c8 : W.cell? ⟨pk, 8, none⟩ = some (.bool true) := hA.p.cell 8
  have c1 : W.cell? ⟨pk, 1, none⟩ = some (.int .i64 e.cr.r) := hA.p.cell 1
  have c3 : W.cell? ⟨pk, 3, none⟩ = some (.int .i64 e.cr.s) := hA.p.cell 3
  have c4 : W.cell? ⟨pk, 4, none⟩ = some (.int .i64 e.cr.g) := hA.p.cell 4
  have c5 : W.cell? ⟨pk, 5, none⟩ = some (.int .i64 e.cr.h) := hA.p.cell 5
  have k6 : W.cell? ⟨eb, 6, none⟩ = some (.int .i64 e.cl.op) := hA.ev.cell 6
  have k12 : W.cell? ⟨eb, 12, none⟩ = some (.int .i64 e.cl.n) := hA.ev.cell 12
  have k26 : W.cell? ⟨eb, 26, none⟩ = some (.int .i64 e.err) := hA.ev.cell 26
  have b0 : W.cell? ⟨b, 0, none⟩ = some (.slice (some ⟨g, off, none⟩) r.L.length cap) := hA.tab.blk.cell 0
  clear hA
  have k33 : W.cell? ⟨eb, 33, none⟩ = some (.int .i64 (e.i 2)) := HA.out.ev.cell 33
  have k34 : W.cell? ⟨eb, 34, none⟩ = some (.int .i64 (e.i 3)) := HA.out.ev.cell 34
  have hc : Calls Try.prog 16 #[.agg #[.int .i64 e.cr.r, .int .i64 e.cr.e, .int .i64 e.cr.s, .int .i64 e.cr.g, .int .i64 e.cr.h], .int .i64 (e.i 2), .int .i64 (e.i 3)] W (ends (execF e.cr (e.i 2) (e.i 3)) W) := rexec_calls e.cr.r e.cr.e e.cr.s e.cr.g e.cr.h (e.i 2) (e.i 3) W
  rw [HE.out] at hc
  have Hc := hide hc
  clear hc
  go_wp2_with fail
  refine Hc.out.mono ?_
  clear c0 c1 c2 c3 c4 c5 c6 c7 c8 k6 k12 k26 b0
  rintro x W2 ⟨rfl, hg2⟩
  have HA2 := hide (HA.out.gr' hg2)
  have c0 : W2.cell? ⟨pk, 0, none⟩ = some (.int .i64 e.pid) := HA2.out.p.cell 0
  have c6 : W2.cell? ⟨pk, 6, none⟩ = some (.int .i64 why) := HA2.out.p.cell 6
  have c7 : W2.cell? ⟨pk, 7, none⟩ = some (.bool nt) := HA2.out.p.cell 7
  have c8 : W2.cell? ⟨pk, 8, none⟩ = some (.bool true) := HA2.out.p.cell 8
  clear hg2 Hc k33 k34
  go_wp2
  go_ret
  exact ⟨rfl, (HA2.out.gr' (only_alloc (only_refl W2 none) _)).gr⟩

set_option maxHeartbeats 2000000 in
theorem rwell_exec_a1 (b : Nat) (v : Value) (r : RS) (e : Ev) (w : World) (h : RAt w b v r) (n : Nat) (why : Int) (nt pv : Bool) (hi : idx r.L e.pid = some n) (hs : r.L[n]? = some (⟨e.pid, ⟨e.cr, why, nt, pv⟩⟩ : Pr)) (R : Cr) (hr : e.cr.e ≠ 0) (he : e.err = 0) (hop : e.cl.op = 19) (hE : execF e.cr (e.i 2) (e.i 3) = (R, 0)) (hR : R.e ≠ 0) :
    Calls Try.prog 10 #[.pointer (some ⟨b, 0, none⟩), .agg e.cells] w fun x w' => x = .returned (.bool true) ∧ RTo w w' b (rOwn b v) ⟨r.L.set n (⟨e.pid, ⟨R, 0, false, pv⟩⟩ : Pr), r.last⟩ := by
  have hn : n < r.L.length := (idx_some hi).1
  have hlen := h.len
  obtain ⟨g, off, cap, hv, hcap, hcm, hgl⟩ := h.prs.at h.pos
  subst hv
  obtain ⟨w0, hw0⟩ : ∃ w0, w.alloc (.cells e.cells 40) = w0 := ⟨_, rfl⟩
  have hB := Blk.new w 40 e.cells
  have hG := only_alloc (only_refl w none) (.cells e.cells 40)
  have hT := h.gr hG
  have hbl := h.blk.lt
  rw [hw0] at hB hG hT
  have hsz : w0.heap.size = w.heap.size + 1 := by rw [← hw0, World.size_alloc]
  have hat := rat_any b _ r e.pid w0 hT
  rw [hi] at hat
  obtain ⟨d0, d1, d2, d3, d4, d5, d6, d7, d8⟩ := hT.prs.c rfl hn hs
  have a0 : w0.cell? ⟨b, 0, none⟩ = some (.slice (some ⟨g, off, none⟩) r.L.length cap) := hT.blk.cell 0
  have g0 : w0.cell? ⟨w.heap.size, 0, none⟩ = some (.int .i64 e.pid) := hB.cell 0
  have g1 : w0.cell? ⟨w.heap.size, 1, none⟩ = some (.int .i64 e.cr.r) := hB.cell 1
  have g2 : w0.cell? ⟨w.heap.size, 2, none⟩ = some (.int .i64 e.cr.e) := hB.cell 2
  have g3 : w0.cell? ⟨w.heap.size, 3, none⟩ = some (.int .i64 e.cr.s) := hB.cell 3
  have g4 : w0.cell? ⟨w.heap.size, 4, none⟩ = some (.int .i64 e.cr.g) := hB.cell 4
  have g5 : w0.cell? ⟨w.heap.size, 5, none⟩ = some (.int .i64 e.cr.h) := hB.cell 5
  have i0 : decide ((n : Int) < 0) = false := by simp
  have i1 : (0 : Int) ≤ n ∧ (n : Int) < (r.L.length : Int) := by omega
  have hbl0 : b < w0.heap.size := by omega
  have A6 : (e.cr.e == 0) = false := by simpa using hr
  clear hr
  have q0 : (e.err != 0) = false := by simpa using he
  have q18 : (e.cl.op == 18) = false := by simp; omega
  have q19 : (e.cl.op == 19) = true := by simpa using hop
  have HE := hide hE
  clear hE
  have qR : (R.e != 0) = true := by simpa using hR
  clear hR
  have H := hide h
  have HB := hide hB
  have HG := hide hG
  have HT := hide hT
  have Hat := hide hat
  have Hn := hide hn
  obtain ⟨CC, hCC⟩ : ∃ CC, e.cells = CC := ⟨_, rfl⟩
  rw [hCC] at hw0 ⊢
  clear hB hG hT h hat hi hs hcap hcm hgl hn hlen
  go_enter Try.func10, Try.ntmps10
  go_wp2_with fail
  refine Hat.out.mono ?_
  rintro x1 w1 ⟨rfl, rfl⟩
  simp only [oi]
  go_wp2_with fail
  go_quiet (fail)
  go_upto_if 52 with (fail)
  have hA := RA.start nq (⟨e.pid, ⟨e.cr, why, nt, pv⟩⟩ : Pr) H.out HB.out HT.out HG.out hsz
  rw [hsz] at hA
  simp only [Pr.cells] at hA
  clear hsz hbl hbl0 hw0 d0 d1 d2 d3 d4 d5 d6 d7 d8 g0 g1 g2 g3 g4 g5 a0
  generalize (w0.drewN nq).alloc (.cells #[.int .i64 e.pid, .int .i64 e.cr.r, .int .i64 e.cr.e, .int .i64 e.cr.s, .int .i64 e.cr.g, .int .i64 e.cr.h, .int .i64 why, .bool nt, .bool pv] 52) = W, w.heap.size + 1 = pk at hA ⊢
  generalize w.heap.size = eb at hA ⊢
  have HA := hide hA
  have c0 : W.cell? ⟨pk, 0, none⟩ = some (.int .i64 e.pid) := hA.p.cell 0
  have c2 : W.cell? ⟨pk, 2, none⟩ = some (.int .i64 e.cr.e) := hA.p.cell 2
  have c6 : W.cell? ⟨pk, 6, none⟩ = some (.int .i64 why) := hA.p.cell 6
  have c7 : W.cell? ⟨pk, 7, none⟩ = some (.bool nt) := hA.p.cell 7
  have c8 : W.cell? ⟨pk, 8, none⟩ = some (.bool pv) := hA.p.cell 8
  have c1 : W.cell? ⟨pk, 1, none⟩ = some (.int .i64 e.cr.r) := hA.p.cell 1
  have c3 : W.cell? ⟨pk, 3, none⟩ = some (.int .i64 e.cr.s) := hA.p.cell 3
  have c4 : W.cell? ⟨pk, 4, none⟩ = some (.int .i64 e.cr.g) := hA.p.cell 4
  have c5 : W.cell? ⟨pk, 5, none⟩ = some (.int .i64 e.cr.h) := hA.p.cell 5
  have k6 : W.cell? ⟨eb, 6, none⟩ = some (.int .i64 e.cl.op) := hA.ev.cell 6
  have k12 : W.cell? ⟨eb, 12, none⟩ = some (.int .i64 e.cl.n) := hA.ev.cell 12
  have k26 : W.cell? ⟨eb, 26, none⟩ = some (.int .i64 e.err) := hA.ev.cell 26
  have b0 : W.cell? ⟨b, 0, none⟩ = some (.slice (some ⟨g, off, none⟩) r.L.length cap) := hA.tab.blk.cell 0
  clear hA
  have k33 : W.cell? ⟨eb, 33, none⟩ = some (.int .i64 (e.i 2)) := HA.out.ev.cell 33
  have k34 : W.cell? ⟨eb, 34, none⟩ = some (.int .i64 (e.i 3)) := HA.out.ev.cell 34
  have hc : Calls Try.prog 16 #[.agg #[.int .i64 e.cr.r, .int .i64 e.cr.e, .int .i64 e.cr.s, .int .i64 e.cr.g, .int .i64 e.cr.h], .int .i64 (e.i 2), .int .i64 (e.i 3)] W (ends (execF e.cr (e.i 2) (e.i 3)) W) := rexec_calls e.cr.r e.cr.e e.cr.s e.cr.g e.cr.h (e.i 2) (e.i 3) W
  rw [HE.out] at hc
  have Hc := hide hc
  clear hc
  go_wp2_with fail
  refine Hc.out.mono ?_
  clear c0 c1 c2 c3 c4 c5 c6 c7 c8 k6 k12 k26 b0
  rintro x W2 ⟨rfl, hg2⟩
  have HA2 := hide (HA.out.gr' hg2)
  have c0 : W2.cell? ⟨pk, 0, none⟩ = some (.int .i64 e.pid) := HA2.out.p.cell 0
  have c6 : W2.cell? ⟨pk, 6, none⟩ = some (.int .i64 why) := HA2.out.p.cell 6
  have c7 : W2.cell? ⟨pk, 7, none⟩ = some (.bool nt) := HA2.out.p.cell 7
  have c8 : W2.cell? ⟨pk, 8, none⟩ = some (.bool pv) := HA2.out.p.cell 8
  clear hg2 Hc k33 k34
  go_upto_if 83 with (fail)
  have HA3 := hide (HA2.out.gr' (only_alloc (only_refl W2 none) (.cells #[.int .i64 R.r, .int .i64 R.e, .int .i64 R.s, .int .i64 R.g, .int .i64 R.h] 28)))
  have hB3 := Blk.new W2 28 #[.int .i64 R.r, .int .i64 R.e, .int .i64 R.s, .int .i64 R.g, .int .i64 R.h]
  have hkl : pk < W2.heap.size := HA2.out.p.lt
  have hne : W2.heap.size ≠ pk := by omega
  have hbl : b < W2.heap.size := HA2.out.tab.blk.lt
  clear c0 c6 c7 c8 hkl hbl HA2
  generalize W2.alloc (.cells #[.int .i64 R.r, .int .i64 R.e, .int .i64 R.s, .int .i64 R.g, .int .i64 R.h] 28) = W3 at HA3 hB3 ⊢
  generalize W2.heap.size = rb at hB3 hne ⊢
  have r0 : W3.cell? ⟨rb, 0, none⟩ = some (.int .i64 R.r) := hB3.cell 0
  have r1 : W3.cell? ⟨rb, 1, none⟩ = some (.int .i64 R.e) := hB3.cell 1
  have r2 : W3.cell? ⟨rb, 2, none⟩ = some (.int .i64 R.s) := hB3.cell 2
  have r3 : W3.cell? ⟨rb, 3, none⟩ = some (.int .i64 R.g) := hB3.cell 3
  have r4 : W3.cell? ⟨rb, 4, none⟩ = some (.int .i64 R.h) := hB3.cell 4
  have c0 : W3.cell? ⟨pk, 0, none⟩ = some (.int .i64 e.pid) := HA3.out.p.cell 0
  have c1 : W3.cell? ⟨pk, 1, none⟩ = some (.int .i64 e.cr.r) := HA3.out.p.cell 1
  have c2 : W3.cell? ⟨pk, 2, none⟩ = some (.int .i64 e.cr.e) := HA3.out.p.cell 2
  have c3 : W3.cell? ⟨pk, 3, none⟩ = some (.int .i64 e.cr.s) := HA3.out.p.cell 3
  have c4 : W3.cell? ⟨pk, 4, none⟩ = some (.int .i64 e.cr.g) := HA3.out.p.cell 4
  have c5 : W3.cell? ⟨pk, 5, none⟩ = some (.int .i64 e.cr.h) := HA3.out.p.cell 5
  have c6 : W3.cell? ⟨pk, 6, none⟩ = some (.int .i64 why) := HA3.out.p.cell 6
  have c7 : W3.cell? ⟨pk, 7, none⟩ = some (.bool nt) := HA3.out.p.cell 7
  have c8 : W3.cell? ⟨pk, 8, none⟩ = some (.bool pv) := HA3.out.p.cell 8
  have zp : ∀ j, W3.frozen? ⟨pk, j, none⟩ = false := fun j => HA3.out.p.frozen j
  have hpl : pk < W3.heap.size := HA3.out.p.lt
  have hrl : rb < W3.heap.size := hB3.lt
  clear hB3
  go_wp2_with fail
  have HA4 := hide (((HA3.out.cred_ R).nt_ false).why_ 0)
  clear c0 c1 c2 c3 c4 c5 c6 c7 c8 r0 r1 r2 r3 r4 zp hpl hrl HA HA3 hne
  generalize ((((((W3.setCell ⟨pk, 1, none⟩ (.int .i64 R.r)).setCell ⟨pk, 2, none⟩ (.int .i64 R.e)).setCell ⟨pk, 3, none⟩ (.int .i64 R.s)).setCell ⟨pk, 4, none⟩ (.int .i64 R.g)).setCell ⟨pk, 5, none⟩ (.int .i64 R.h)).setCell ⟨pk, 7, none⟩ (.bool false)).setCell ⟨pk, 6, none⟩ (.int .i64 0) = W4 at HA4 ⊢
  have hqs : QS b pk (.slice (some ⟨g, off, none⟩) r.L.length cap) (⟨e.pid, ⟨R, 0, false, pv⟩⟩ : Pr) W4.drew := ⟨HA4.out.tab.blk.cell 0, RowAt.of (Blk.drew HA4.out.p)⟩
  refine wp_region_perm [0, 1, 2, 3, 4, 5, 6] [7] (by kernel_rfl) (by kernel_rfl) (QS b pk (.slice (some ⟨g, off, none⟩) r.L.length cap) (⟨e.pid, ⟨R, 0, false, pv⟩⟩ : Pr)) hqs ?_
  simp only [pick, List.getElem?_cons_zero, List.getElem?_cons_succ]
  iterate 7
    refine wpTake_cons ?_ (by rfl) ?_ ?_
    rotate_left
    · (intro W9 hSW; obtain ⟨hS1, j0, j1, j2, j3, j4, j5, j6, j7, j8⟩ := hSW; go_simp; try with_reducible rfl)
    simp only [Act.put, List.setIfInBounds_toArray, List.set_cons_zero, List.set_cons_succ]
  refine wpTake_nil ?_
  refine wpForce_one ?_
  obtain ⟨hf, hth⟩ := HA4.out.put rfl Hn.out 1
  have Hf := hide hf
  clear hf
  refine wpList_store_mid rfl 52 _ _ rfl g (off + n * 9) (⟨e.pid, ⟨R, 0, false, pv⟩⟩ : Pr).cells.toArray (by rfl) (by rfl) hth (by rw [show (⟨e.pid, ⟨R, 0, false, pv⟩⟩ : Pr).cells.toArray.size = 9 from rfl]; kernel_rfl) (all_oneCell_toArray (fun y hy => pcs_one [(⟨e.pid, ⟨R, 0, false, pv⟩⟩ : Pr)] y (by simpa [pcs] using hy))) ?_
  refine wpList_nil ?_
  refine NoPanic.normal ?_
  go_wp2
  go_ret
  exact ⟨rfl, Hf.out⟩

set_option maxHeartbeats 2000000 in
theorem rwell_exec_a2 (b : Nat) (v : Value) (r : RS) (e : Ev) (w : World) (h : RAt w b v r) (n : Nat) (why : Int) (nt pv : Bool) (hi : idx r.L e.pid = some n) (hs : r.L[n]? = some (⟨e.pid, ⟨e.cr, why, nt, pv⟩⟩ : Pr)) (R : Cr) (hr : e.cr.e = 0) (hwy : why ≠ 0) (he : e.err = 0) (hop : e.cl.op = 19) (hE : execF e.cr (e.i 2) (e.i 3) = (R, 0)) (hR : R.e ≠ 0) :
    Calls Try.prog 10 #[.pointer (some ⟨b, 0, none⟩), .agg e.cells] w fun x w' => x = .returned (.bool true) ∧ RTo w w' b (rOwn b v) ⟨r.L.set n (⟨e.pid, ⟨R, 0, false, pv⟩⟩ : Pr), r.last⟩ := by
  have hn : n < r.L.length := (idx_some hi).1
  have hlen := h.len
  obtain ⟨g, off, cap, hv, hcap, hcm, hgl⟩ := h.prs.at h.pos
  subst hv
  obtain ⟨w0, hw0⟩ : ∃ w0, w.alloc (.cells e.cells 40) = w0 := ⟨_, rfl⟩
  have hB := Blk.new w 40 e.cells
  have hG := only_alloc (only_refl w none) (.cells e.cells 40)
  have hT := h.gr hG
  have hbl := h.blk.lt
  rw [hw0] at hB hG hT
  have hsz : w0.heap.size = w.heap.size + 1 := by rw [← hw0, World.size_alloc]
  have hat := rat_any b _ r e.pid w0 hT
  rw [hi] at hat
  obtain ⟨d0, d1, d2, d3, d4, d5, d6, d7, d8⟩ := hT.prs.c rfl hn hs
  have a0 : w0.cell? ⟨b, 0, none⟩ = some (.slice (some ⟨g, off, none⟩) r.L.length cap) := hT.blk.cell 0
  have g0 : w0.cell? ⟨w.heap.size, 0, none⟩ = some (.int .i64 e.pid) := hB.cell 0
  have g1 : w0.cell? ⟨w.heap.size, 1, none⟩ = some (.int .i64 e.cr.r) := hB.cell 1
  have g2 : w0.cell? ⟨w.heap.size, 2, none⟩ = some (.int .i64 e.cr.e) := hB.cell 2
  have g3 : w0.cell? ⟨w.heap.size, 3, none⟩ = some (.int .i64 e.cr.s) := hB.cell 3
  have g4 : w0.cell? ⟨w.heap.size, 4, none⟩ = some (.int .i64 e.cr.g) := hB.cell 4
  have g5 : w0.cell? ⟨w.heap.size, 5, none⟩ = some (.int .i64 e.cr.h) := hB.cell 5
  have i0 : decide ((n : Int) < 0) = false := by simp
  have i1 : (0 : Int) ≤ n ∧ (n : Int) < (r.L.length : Int) := by omega
  have hbl0 : b < w0.heap.size := by omega
  have A6 : (e.cr.e == 0) = true := by simpa using hr
  clear hr
  have A7 : (why == 0) = false := by simpa using hwy
  clear hwy
  have q0 : (e.err != 0) = false := by simpa using he
  have q18 : (e.cl.op == 18) = false := by simp; omega
  have q19 : (e.cl.op == 19) = true := by simpa using hop
  have HE := hide hE
  clear hE
  have qR : (R.e != 0) = true := by simpa using hR
  clear hR
  have H := hide h
  have HB := hide hB
  have HG := hide hG
  have HT := hide hT
  have Hat := hide hat
  have Hn := hide hn
  obtain ⟨CC, hCC⟩ : ∃ CC, e.cells = CC := ⟨_, rfl⟩
  rw [hCC] at hw0 ⊢
  clear hB hG hT h hat hi hs hcap hcm hgl hn hlen
  go_enter Try.func10, Try.ntmps10
  go_wp2_with fail
  refine Hat.out.mono ?_
  rintro x1 w1 ⟨rfl, rfl⟩
  simp only [oi]
  go_wp2_with fail
  go_quiet (fail)
  go_upto_if 52 with (fail)
  have hA := RA.start nq (⟨e.pid, ⟨e.cr, why, nt, pv⟩⟩ : Pr) H.out HB.out HT.out HG.out hsz
  rw [hsz] at hA
  simp only [Pr.cells] at hA
  clear hsz hbl hbl0 hw0 d0 d1 d2 d3 d4 d5 d6 d7 d8 g0 g1 g2 g3 g4 g5 a0
  generalize (w0.drewN nq).alloc (.cells #[.int .i64 e.pid, .int .i64 e.cr.r, .int .i64 e.cr.e, .int .i64 e.cr.s, .int .i64 e.cr.g, .int .i64 e.cr.h, .int .i64 why, .bool nt, .bool pv] 52) = W, w.heap.size + 1 = pk at hA ⊢
  generalize w.heap.size = eb at hA ⊢
  have HA := hide hA
  have c0 : W.cell? ⟨pk, 0, none⟩ = some (.int .i64 e.pid) := hA.p.cell 0
  have c2 : W.cell? ⟨pk, 2, none⟩ = some (.int .i64 e.cr.e) := hA.p.cell 2
  have c6 : W.cell? ⟨pk, 6, none⟩ = some (.int .i64 why) := hA.p.cell 6
  have c7 : W.cell? ⟨pk, 7, none⟩ = some (.bool nt) := hA.p.cell 7
  have c8 : W.cell? ⟨pk, 8, none⟩ = some (.bool pv) := hA.p.cell 8
  have c1 : W.cell? ⟨pk, 1, none⟩ = some (.int .i64 e.cr.r) := hA.p.cell 1
  have c3 : W.cell? ⟨pk, 3, none⟩ = some (.int .i64 e.cr.s) := hA.p.cell 3
  have c4 : W.cell? ⟨pk, 4, none⟩ = some (.int .i64 e.cr.g) := hA.p.cell 4
  have c5 : W.cell? ⟨pk, 5, none⟩ = some (.int .i64 e.cr.h) := hA.p.cell 5
  have k6 : W.cell? ⟨eb, 6, none⟩ = some (.int .i64 e.cl.op) := hA.ev.cell 6
  have k12 : W.cell? ⟨eb, 12, none⟩ = some (.int .i64 e.cl.n) := hA.ev.cell 12
  have k26 : W.cell? ⟨eb, 26, none⟩ = some (.int .i64 e.err) := hA.ev.cell 26
  have b0 : W.cell? ⟨b, 0, none⟩ = some (.slice (some ⟨g, off, none⟩) r.L.length cap) := hA.tab.blk.cell 0
  clear hA
  have k33 : W.cell? ⟨eb, 33, none⟩ = some (.int .i64 (e.i 2)) := HA.out.ev.cell 33
  have k34 : W.cell? ⟨eb, 34, none⟩ = some (.int .i64 (e.i 3)) := HA.out.ev.cell 34
  have hc : Calls Try.prog 16 #[.agg #[.int .i64 e.cr.r, .int .i64 e.cr.e, .int .i64 e.cr.s, .int .i64 e.cr.g, .int .i64 e.cr.h], .int .i64 (e.i 2), .int .i64 (e.i 3)] W (ends (execF e.cr (e.i 2) (e.i 3)) W) := rexec_calls e.cr.r e.cr.e e.cr.s e.cr.g e.cr.h (e.i 2) (e.i 3) W
  rw [HE.out] at hc
  have Hc := hide hc
  clear hc
  go_wp2_with fail
  refine Hc.out.mono ?_
  clear c0 c1 c2 c3 c4 c5 c6 c7 c8 k6 k12 k26 b0
  rintro x W2 ⟨rfl, hg2⟩
  have HA2 := hide (HA.out.gr' hg2)
  have c0 : W2.cell? ⟨pk, 0, none⟩ = some (.int .i64 e.pid) := HA2.out.p.cell 0
  have c6 : W2.cell? ⟨pk, 6, none⟩ = some (.int .i64 why) := HA2.out.p.cell 6
  have c7 : W2.cell? ⟨pk, 7, none⟩ = some (.bool nt) := HA2.out.p.cell 7
  have c8 : W2.cell? ⟨pk, 8, none⟩ = some (.bool pv) := HA2.out.p.cell 8
  clear hg2 Hc k33 k34
  go_upto_if 83 with (fail)
  have HA3 := hide (HA2.out.gr' (only_alloc (only_refl W2 none) (.cells #[.int .i64 R.r, .int .i64 R.e, .int .i64 R.s, .int .i64 R.g, .int .i64 R.h] 28)))
  have hB3 := Blk.new W2 28 #[.int .i64 R.r, .int .i64 R.e, .int .i64 R.s, .int .i64 R.g, .int .i64 R.h]
  have hkl : pk < W2.heap.size := HA2.out.p.lt
  have hne : W2.heap.size ≠ pk := by omega
  have hbl : b < W2.heap.size := HA2.out.tab.blk.lt
  clear c0 c6 c7 c8 hkl hbl HA2
  generalize W2.alloc (.cells #[.int .i64 R.r, .int .i64 R.e, .int .i64 R.s, .int .i64 R.g, .int .i64 R.h] 28) = W3 at HA3 hB3 ⊢
  generalize W2.heap.size = rb at hB3 hne ⊢
  have r0 : W3.cell? ⟨rb, 0, none⟩ = some (.int .i64 R.r) := hB3.cell 0
  have r1 : W3.cell? ⟨rb, 1, none⟩ = some (.int .i64 R.e) := hB3.cell 1
  have r2 : W3.cell? ⟨rb, 2, none⟩ = some (.int .i64 R.s) := hB3.cell 2
  have r3 : W3.cell? ⟨rb, 3, none⟩ = some (.int .i64 R.g) := hB3.cell 3
  have r4 : W3.cell? ⟨rb, 4, none⟩ = some (.int .i64 R.h) := hB3.cell 4
  have c0 : W3.cell? ⟨pk, 0, none⟩ = some (.int .i64 e.pid) := HA3.out.p.cell 0
  have c1 : W3.cell? ⟨pk, 1, none⟩ = some (.int .i64 e.cr.r) := HA3.out.p.cell 1
  have c2 : W3.cell? ⟨pk, 2, none⟩ = some (.int .i64 e.cr.e) := HA3.out.p.cell 2
  have c3 : W3.cell? ⟨pk, 3, none⟩ = some (.int .i64 e.cr.s) := HA3.out.p.cell 3
  have c4 : W3.cell? ⟨pk, 4, none⟩ = some (.int .i64 e.cr.g) := HA3.out.p.cell 4
  have c5 : W3.cell? ⟨pk, 5, none⟩ = some (.int .i64 e.cr.h) := HA3.out.p.cell 5
  have c6 : W3.cell? ⟨pk, 6, none⟩ = some (.int .i64 why) := HA3.out.p.cell 6
  have c7 : W3.cell? ⟨pk, 7, none⟩ = some (.bool nt) := HA3.out.p.cell 7
  have c8 : W3.cell? ⟨pk, 8, none⟩ = some (.bool pv) := HA3.out.p.cell 8
  have zp : ∀ j, W3.frozen? ⟨pk, j, none⟩ = false := fun j => HA3.out.p.frozen j
  have hpl : pk < W3.heap.size := HA3.out.p.lt
  have hrl : rb < W3.heap.size := hB3.lt
  clear hB3
  go_wp2_with fail
  have HA4 := hide (((HA3.out.cred_ R).nt_ false).why_ 0)
  clear c0 c1 c2 c3 c4 c5 c6 c7 c8 r0 r1 r2 r3 r4 zp hpl hrl HA HA3 hne
  generalize ((((((W3.setCell ⟨pk, 1, none⟩ (.int .i64 R.r)).setCell ⟨pk, 2, none⟩ (.int .i64 R.e)).setCell ⟨pk, 3, none⟩ (.int .i64 R.s)).setCell ⟨pk, 4, none⟩ (.int .i64 R.g)).setCell ⟨pk, 5, none⟩ (.int .i64 R.h)).setCell ⟨pk, 7, none⟩ (.bool false)).setCell ⟨pk, 6, none⟩ (.int .i64 0) = W4 at HA4 ⊢
  have hqs : QS b pk (.slice (some ⟨g, off, none⟩) r.L.length cap) (⟨e.pid, ⟨R, 0, false, pv⟩⟩ : Pr) W4.drew := ⟨HA4.out.tab.blk.cell 0, RowAt.of (Blk.drew HA4.out.p)⟩
  refine wp_region_perm [0, 1, 2, 3, 4, 5, 6] [7] (by kernel_rfl) (by kernel_rfl) (QS b pk (.slice (some ⟨g, off, none⟩) r.L.length cap) (⟨e.pid, ⟨R, 0, false, pv⟩⟩ : Pr)) hqs ?_
  simp only [pick, List.getElem?_cons_zero, List.getElem?_cons_succ]
  iterate 7
    refine wpTake_cons ?_ (by rfl) ?_ ?_
    rotate_left
    · (intro W9 hSW; obtain ⟨hS1, j0, j1, j2, j3, j4, j5, j6, j7, j8⟩ := hSW; go_simp; try with_reducible rfl)
    simp only [Act.put, List.setIfInBounds_toArray, List.set_cons_zero, List.set_cons_succ]
  refine wpTake_nil ?_
  refine wpForce_one ?_
  obtain ⟨hf, hth⟩ := HA4.out.put rfl Hn.out 1
  have Hf := hide hf
  clear hf
  refine wpList_store_mid rfl 52 _ _ rfl g (off + n * 9) (⟨e.pid, ⟨R, 0, false, pv⟩⟩ : Pr).cells.toArray (by rfl) (by rfl) hth (by rw [show (⟨e.pid, ⟨R, 0, false, pv⟩⟩ : Pr).cells.toArray.size = 9 from rfl]; kernel_rfl) (all_oneCell_toArray (fun y hy => pcs_one [(⟨e.pid, ⟨R, 0, false, pv⟩⟩ : Pr)] y (by simpa [pcs] using hy))) ?_
  refine wpList_nil ?_
  refine NoPanic.normal ?_
  go_wp2
  go_ret
  exact ⟨rfl, Hf.out⟩

set_option maxHeartbeats 2000000 in
theorem rwell_exec_a3 (b : Nat) (v : Value) (r : RS) (e : Ev) (w : World) (h : RAt w b v r) (n : Nat) (why : Int) (nt : Bool) (hi : idx r.L e.pid = some n) (hs : r.L[n]? = some (⟨e.pid, ⟨e.cr, why, nt, true⟩⟩ : Pr)) (R : Cr) (hr : e.cr.e = 0) (hwy : why = 0) (he : e.err = 0) (hop : e.cl.op = 19) (hE : execF e.cr (e.i 2) (e.i 3) = (R, 0)) (hR : R.e ≠ 0) :
    Calls Try.prog 10 #[.pointer (some ⟨b, 0, none⟩), .agg e.cells] w fun x w' => x = .returned (.bool true) ∧ RTo w w' b (rOwn b v) ⟨r.L.set n (⟨e.pid, ⟨R, 0, false, true⟩⟩ : Pr), r.last⟩ := by
  have hn : n < r.L.length := (idx_some hi).1
  have hlen := h.len
  obtain ⟨g, off, cap, hv, hcap, hcm, hgl⟩ := h.prs.at h.pos
  subst hv
  obtain ⟨w0, hw0⟩ : ∃ w0, w.alloc (.cells e.cells 40) = w0 := ⟨_, rfl⟩
  have hB := Blk.new w 40 e.cells
  have hG := only_alloc (only_refl w none) (.cells e.cells 40)
  have hT := h.gr hG
  have hbl := h.blk.lt
  rw [hw0] at hB hG hT
  have hsz : w0.heap.size = w.heap.size + 1 := by rw [← hw0, World.size_alloc]
  have hat := rat_any b _ r e.pid w0 hT
  rw [hi] at hat
  obtain ⟨d0, d1, d2, d3, d4, d5, d6, d7, d8⟩ := hT.prs.c rfl hn hs
  have a0 : w0.cell? ⟨b, 0, none⟩ = some (.slice (some ⟨g, off, none⟩) r.L.length cap) := hT.blk.cell 0
  have g0 : w0.cell? ⟨w.heap.size, 0, none⟩ = some (.int .i64 e.pid) := hB.cell 0
  have g1 : w0.cell? ⟨w.heap.size, 1, none⟩ = some (.int .i64 e.cr.r) := hB.cell 1
  have g2 : w0.cell? ⟨w.heap.size, 2, none⟩ = some (.int .i64 e.cr.e) := hB.cell 2
  have g3 : w0.cell? ⟨w.heap.size, 3, none⟩ = some (.int .i64 e.cr.s) := hB.cell 3
  have g4 : w0.cell? ⟨w.heap.size, 4, none⟩ = some (.int .i64 e.cr.g) := hB.cell 4
  have g5 : w0.cell? ⟨w.heap.size, 5, none⟩ = some (.int .i64 e.cr.h) := hB.cell 5
  have i0 : decide ((n : Int) < 0) = false := by simp
  have i1 : (0 : Int) ≤ n ∧ (n : Int) < (r.L.length : Int) := by omega
  have hbl0 : b < w0.heap.size := by omega
  have A6 : (e.cr.e == 0) = true := by simpa using hr
  clear hr
  have A7 : (why == 0) = true := by simpa using hwy
  clear hwy
  have q0 : (e.err != 0) = false := by simpa using he
  have q18 : (e.cl.op == 18) = false := by simp; omega
  have q19 : (e.cl.op == 19) = true := by simpa using hop
  have HE := hide hE
  clear hE
  have qR : (R.e != 0) = true := by simpa using hR
  clear hR
  have H := hide h
  have HB := hide hB
  have HG := hide hG
  have HT := hide hT
  have Hat := hide hat
  have Hn := hide hn
  obtain ⟨CC, hCC⟩ : ∃ CC, e.cells = CC := ⟨_, rfl⟩
  rw [hCC] at hw0 ⊢
  clear hB hG hT h hat hi hs hcap hcm hgl hn hlen
  go_enter Try.func10, Try.ntmps10
  go_wp2_with fail
  refine Hat.out.mono ?_
  rintro x1 w1 ⟨rfl, rfl⟩
  simp only [oi]
  go_wp2_with fail
  go_quiet (fail)
  go_upto_if 52 with (fail)
  have hA := RA.start nq (⟨e.pid, ⟨e.cr, why, nt, true⟩⟩ : Pr) H.out HB.out HT.out HG.out hsz
  rw [hsz] at hA
  simp only [Pr.cells] at hA
  clear hsz hbl hbl0 hw0 d0 d1 d2 d3 d4 d5 d6 d7 d8 g0 g1 g2 g3 g4 g5 a0
  generalize (w0.drewN nq).alloc (.cells #[.int .i64 e.pid, .int .i64 e.cr.r, .int .i64 e.cr.e, .int .i64 e.cr.s, .int .i64 e.cr.g, .int .i64 e.cr.h, .int .i64 why, .bool nt, .bool true] 52) = W, w.heap.size + 1 = pk at hA ⊢
  generalize w.heap.size = eb at hA ⊢
  have HA := hide hA
  have c0 : W.cell? ⟨pk, 0, none⟩ = some (.int .i64 e.pid) := hA.p.cell 0
  have c2 : W.cell? ⟨pk, 2, none⟩ = some (.int .i64 e.cr.e) := hA.p.cell 2
  have c6 : W.cell? ⟨pk, 6, none⟩ = some (.int .i64 why) := hA.p.cell 6
  have c7 : W.cell? ⟨pk, 7, none⟩ = some (.bool nt) := hA.p.cell 7
  have c8 : W.cell? ⟨pk, 8, none⟩ = some (.bool true) := hA.p.cell 8
  have c1 : W.cell? ⟨pk, 1, none⟩ = some (.int .i64 e.cr.r) := hA.p.cell 1
  have c3 : W.cell? ⟨pk, 3, none⟩ = some (.int .i64 e.cr.s) := hA.p.cell 3
  have c4 : W.cell? ⟨pk, 4, none⟩ = some (.int .i64 e.cr.g) := hA.p.cell 4
  have c5 : W.cell? ⟨pk, 5, none⟩ = some (.int .i64 e.cr.h) := hA.p.cell 5
  have k6 : W.cell? ⟨eb, 6, none⟩ = some (.int .i64 e.cl.op) := hA.ev.cell 6
  have k12 : W.cell? ⟨eb, 12, none⟩ = some (.int .i64 e.cl.n) := hA.ev.cell 12
  have k26 : W.cell? ⟨eb, 26, none⟩ = some (.int .i64 e.err) := hA.ev.cell 26
  have b0 : W.cell? ⟨b, 0, none⟩ = some (.slice (some ⟨g, off, none⟩) r.L.length cap) := hA.tab.blk.cell 0
  clear hA
  have k33 : W.cell? ⟨eb, 33, none⟩ = some (.int .i64 (e.i 2)) := HA.out.ev.cell 33
  have k34 : W.cell? ⟨eb, 34, none⟩ = some (.int .i64 (e.i 3)) := HA.out.ev.cell 34
  have hc : Calls Try.prog 16 #[.agg #[.int .i64 e.cr.r, .int .i64 e.cr.e, .int .i64 e.cr.s, .int .i64 e.cr.g, .int .i64 e.cr.h], .int .i64 (e.i 2), .int .i64 (e.i 3)] W (ends (execF e.cr (e.i 2) (e.i 3)) W) := rexec_calls e.cr.r e.cr.e e.cr.s e.cr.g e.cr.h (e.i 2) (e.i 3) W
  rw [HE.out] at hc
  have Hc := hide hc
  clear hc
  go_wp2_with fail
  refine Hc.out.mono ?_
  clear c0 c1 c2 c3 c4 c5 c6 c7 c8 k6 k12 k26 b0
  rintro x W2 ⟨rfl, hg2⟩
  have HA2 := hide (HA.out.gr' hg2)
  have c0 : W2.cell? ⟨pk, 0, none⟩ = some (.int .i64 e.pid) := HA2.out.p.cell 0
  have c6 : W2.cell? ⟨pk, 6, none⟩ = some (.int .i64 why) := HA2.out.p.cell 6
  have c7 : W2.cell? ⟨pk, 7, none⟩ = some (.bool nt) := HA2.out.p.cell 7
  have c8 : W2.cell? ⟨pk, 8, none⟩ = some (.bool true) := HA2.out.p.cell 8
  clear hg2 Hc k33 k34
  go_upto_if 83 with (fail)
  have HA3 := hide (HA2.out.gr' (only_alloc (only_refl W2 none) (.cells #[.int .i64 R.r, .int .i64 R.e, .int .i64 R.s, .int .i64 R.g, .int .i64 R.h] 28)))
  have hB3 := Blk.new W2 28 #[.int .i64 R.r, .int .i64 R.e, .int .i64 R.s, .int .i64 R.g, .int .i64 R.h]
  have hkl : pk < W2.heap.size := HA2.out.p.lt
  have hne : W2.heap.size ≠ pk := by omega
  have hbl : b < W2.heap.size := HA2.out.tab.blk.lt
  clear c0 c6 c7 c8 hkl hbl HA2
  generalize W2.alloc (.cells #[.int .i64 R.r, .int .i64 R.e, .int .i64 R.s, .int .i64 R.g, .int .i64 R.h] 28) = W3 at HA3 hB3 ⊢
  generalize W2.heap.size = rb at hB3 hne ⊢
  have r0 : W3.cell? ⟨rb, 0, none⟩ = some (.int .i64 R.r) := hB3.cell 0
  have r1 : W3.cell? ⟨rb, 1, none⟩ = some (.int .i64 R.e) := hB3.cell 1
  have r2 : W3.cell? ⟨rb, 2, none⟩ = some (.int .i64 R.s) := hB3.cell 2
  have r3 : W3.cell? ⟨rb, 3, none⟩ = some (.int .i64 R.g) := hB3.cell 3
  have r4 : W3.cell? ⟨rb, 4, none⟩ = some (.int .i64 R.h) := hB3.cell 4
  have c0 : W3.cell? ⟨pk, 0, none⟩ = some (.int .i64 e.pid) := HA3.out.p.cell 0
  have c1 : W3.cell? ⟨pk, 1, none⟩ = some (.int .i64 e.cr.r) := HA3.out.p.cell 1
  have c2 : W3.cell? ⟨pk, 2, none⟩ = some (.int .i64 e.cr.e) := HA3.out.p.cell 2
  have c3 : W3.cell? ⟨pk, 3, none⟩ = some (.int .i64 e.cr.s) := HA3.out.p.cell 3
  have c4 : W3.cell? ⟨pk, 4, none⟩ = some (.int .i64 e.cr.g) := HA3.out.p.cell 4
  have c5 : W3.cell? ⟨pk, 5, none⟩ = some (.int .i64 e.cr.h) := HA3.out.p.cell 5
  have c6 : W3.cell? ⟨pk, 6, none⟩ = some (.int .i64 why) := HA3.out.p.cell 6
  have c7 : W3.cell? ⟨pk, 7, none⟩ = some (.bool nt) := HA3.out.p.cell 7
  have c8 : W3.cell? ⟨pk, 8, none⟩ = some (.bool true) := HA3.out.p.cell 8
  have zp : ∀ j, W3.frozen? ⟨pk, j, none⟩ = false := fun j => HA3.out.p.frozen j
  have hpl : pk < W3.heap.size := HA3.out.p.lt
  have hrl : rb < W3.heap.size := hB3.lt
  clear hB3
  go_wp2_with fail
  have HA4 := hide (((HA3.out.cred_ R).nt_ false).why_ 0)
  clear c0 c1 c2 c3 c4 c5 c6 c7 c8 r0 r1 r2 r3 r4 zp hpl hrl HA HA3 hne
  generalize ((((((W3.setCell ⟨pk, 1, none⟩ (.int .i64 R.r)).setCell ⟨pk, 2, none⟩ (.int .i64 R.e)).setCell ⟨pk, 3, none⟩ (.int .i64 R.s)).setCell ⟨pk, 4, none⟩ (.int .i64 R.g)).setCell ⟨pk, 5, none⟩ (.int .i64 R.h)).setCell ⟨pk, 7, none⟩ (.bool false)).setCell ⟨pk, 6, none⟩ (.int .i64 0) = W4 at HA4 ⊢
  have hqs : QS b pk (.slice (some ⟨g, off, none⟩) r.L.length cap) (⟨e.pid, ⟨R, 0, false, true⟩⟩ : Pr) W4.drew := ⟨HA4.out.tab.blk.cell 0, RowAt.of (Blk.drew HA4.out.p)⟩
  refine wp_region_perm [0, 1, 2, 3, 4, 5, 6] [7] (by kernel_rfl) (by kernel_rfl) (QS b pk (.slice (some ⟨g, off, none⟩) r.L.length cap) (⟨e.pid, ⟨R, 0, false, true⟩⟩ : Pr)) hqs ?_
  simp only [pick, List.getElem?_cons_zero, List.getElem?_cons_succ]
  iterate 7
    refine wpTake_cons ?_ (by rfl) ?_ ?_
    rotate_left
    · (intro W9 hSW; obtain ⟨hS1, j0, j1, j2, j3, j4, j5, j6, j7, j8⟩ := hSW; go_simp; try with_reducible rfl)
    simp only [Act.put, List.setIfInBounds_toArray, List.set_cons_zero, List.set_cons_succ]
  refine wpTake_nil ?_
  refine wpForce_one ?_
  obtain ⟨hf, hth⟩ := HA4.out.put rfl Hn.out 1
  have Hf := hide hf
  clear hf
  refine wpList_store_mid rfl 52 _ _ rfl g (off + n * 9) (⟨e.pid, ⟨R, 0, false, true⟩⟩ : Pr).cells.toArray (by rfl) (by rfl) hth (by rw [show (⟨e.pid, ⟨R, 0, false, true⟩⟩ : Pr).cells.toArray.size = 9 from rfl]; kernel_rfl) (all_oneCell_toArray (fun y hy => pcs_one [(⟨e.pid, ⟨R, 0, false, true⟩⟩ : Pr)] y (by simpa [pcs] using hy))) ?_
  refine wpList_nil ?_
  refine NoPanic.normal ?_
  go_wp2
  go_ret
  exact ⟨rfl, Hf.out⟩

set_option maxHeartbeats 2000000 in
theorem rwell_exec_b (b : Nat) (v : Value) (r : RS) (e : Ev) (w : World) (h : RAt w b v r) (n : Nat) (why : Int) (nt : Bool) (hi : idx r.L e.pid = some n) (hs : r.L[n]? = some (⟨e.pid, ⟨e.cr, why, nt, false⟩⟩ : Pr)) (R : Cr) (hr : e.cr.e ≠ 0) (hwy : why = 0) (he : e.err = 0) (hop : e.cl.op = 19) (hE : execF e.cr (e.i 2) (e.i 3) = (R, 0)) (hR : R.e = 0) :
    Calls Try.prog 10 #[.pointer (some ⟨b, 0, none⟩), .agg e.cells] w fun x w' => x = .returned (.bool true) ∧ RTo w w' b (rOwn b v) ⟨r.L.set n (⟨e.pid, ⟨R, 3, false, false⟩⟩ : Pr), r.last⟩ := by
  have hn : n < r.L.length := (idx_some hi).1
  have hlen := h.len
  obtain ⟨g, off, cap, hv, hcap, hcm, hgl⟩ := h.prs.at h.pos
  subst hv
  obtain ⟨w0, hw0⟩ : ∃ w0, w.alloc (.cells e.cells 40) = w0 := ⟨_, rfl⟩
  have hB := Blk.new w 40 e.cells
  have hG := only_alloc (only_refl w none) (.cells e.cells 40)
  have hT := h.gr hG
  have hbl := h.blk.lt
  rw [hw0] at hB hG hT
  have hsz : w0.heap.size = w.heap.size + 1 := by rw [← hw0, World.size_alloc]
  have hat := rat_any b _ r e.pid w0 hT
  rw [hi] at hat
  obtain ⟨d0, d1, d2, d3, d4, d5, d6, d7, d8⟩ := hT.prs.c rfl hn hs
  have a0 : w0.cell? ⟨b, 0, none⟩ = some (.slice (some ⟨g, off, none⟩) r.L.length cap) := hT.blk.cell 0
  have g0 : w0.cell? ⟨w.heap.size, 0, none⟩ = some (.int .i64 e.pid) := hB.cell 0
  have g1 : w0.cell? ⟨w.heap.size, 1, none⟩ = some (.int .i64 e.cr.r) := hB.cell 1
  have g2 : w0.cell? ⟨w.heap.size, 2, none⟩ = some (.int .i64 e.cr.e) := hB.cell 2
  have g3 : w0.cell? ⟨w.heap.size, 3, none⟩ = some (.int .i64 e.cr.s) := hB.cell 3
  have g4 : w0.cell? ⟨w.heap.size, 4, none⟩ = some (.int .i64 e.cr.g) := hB.cell 4
  have g5 : w0.cell? ⟨w.heap.size, 5, none⟩ = some (.int .i64 e.cr.h) := hB.cell 5
  have i0 : decide ((n : Int) < 0) = false := by simp
  have i1 : (0 : Int) ≤ n ∧ (n : Int) < (r.L.length : Int) := by omega
  have hbl0 : b < w0.heap.size := by omega
  have A6 : (e.cr.e == 0) = false := by simpa using hr
  clear hr
  have A7 : (why == 0) = true := by simpa using hwy
  clear hwy
  have q0 : (e.err != 0) = false := by simpa using he
  have q18 : (e.cl.op == 18) = false := by simp; omega
  have q19 : (e.cl.op == 19) = true := by simpa using hop
  have HE := hide hE
  clear hE
  have qR : (R.e != 0) = false := by simpa using hR
  clear hR
  have H := hide h
  have HB := hide hB
  have HG := hide hG
  have HT := hide hT
  have Hat := hide hat
  have Hn := hide hn
  obtain ⟨CC, hCC⟩ : ∃ CC, e.cells = CC := ⟨_, rfl⟩
  rw [hCC] at hw0 ⊢
  clear hB hG hT h hat hi hs hcap hcm hgl hn hlen
  go_enter Try.func10, Try.ntmps10
  go_wp2_with fail
  refine Hat.out.mono ?_
  rintro x1 w1 ⟨rfl, rfl⟩
  simp only [oi]
  go_wp2_with fail
  go_quiet (fail)
  go_upto_if 52 with (fail)
  have hA := RA.start nq (⟨e.pid, ⟨e.cr, why, nt, false⟩⟩ : Pr) H.out HB.out HT.out HG.out hsz
  rw [hsz] at hA
  simp only [Pr.cells] at hA
  clear hsz hbl hbl0 hw0 d0 d1 d2 d3 d4 d5 d6 d7 d8 g0 g1 g2 g3 g4 g5 a0
  generalize (w0.drewN nq).alloc (.cells #[.int .i64 e.pid, .int .i64 e.cr.r, .int .i64 e.cr.e, .int .i64 e.cr.s, .int .i64 e.cr.g, .int .i64 e.cr.h, .int .i64 why, .bool nt, .bool false] 52) = W, w.heap.size + 1 = pk at hA ⊢
  generalize w.heap.size = eb at hA ⊢
  have HA := hide hA
  have c0 : W.cell? ⟨pk, 0, none⟩ = some (.int .i64 e.pid) := hA.p.cell 0
  have c2 : W.cell? ⟨pk, 2, none⟩ = some (.int .i64 e.cr.e) := hA.p.cell 2
  have c6 : W.cell? ⟨pk, 6, none⟩ = some (.int .i64 why) := hA.p.cell 6
  have c7 : W.cell? ⟨pk, 7, none⟩ = some (.bool nt) := hA.p.cell 7
  have c8 : W.cell? ⟨pk, 8, none⟩ = some (.bool false) := hA.p.cell 8
  have c1 : W.cell? ⟨pk, 1, none⟩ = some (.int .i64 e.cr.r) := hA.p.cell 1
  have c3 : W.cell? ⟨pk, 3, none⟩ = some (.int .i64 e.cr.s) := hA.p.cell 3
  have c4 : W.cell? ⟨pk, 4, none⟩ = some (.int .i64 e.cr.g) := hA.p.cell 4
  have c5 : W.cell? ⟨pk, 5, none⟩ = some (.int .i64 e.cr.h) := hA.p.cell 5
  have k6 : W.cell? ⟨eb, 6, none⟩ = some (.int .i64 e.cl.op) := hA.ev.cell 6
  have k12 : W.cell? ⟨eb, 12, none⟩ = some (.int .i64 e.cl.n) := hA.ev.cell 12
  have k26 : W.cell? ⟨eb, 26, none⟩ = some (.int .i64 e.err) := hA.ev.cell 26
  have b0 : W.cell? ⟨b, 0, none⟩ = some (.slice (some ⟨g, off, none⟩) r.L.length cap) := hA.tab.blk.cell 0
  clear hA
  have k33 : W.cell? ⟨eb, 33, none⟩ = some (.int .i64 (e.i 2)) := HA.out.ev.cell 33
  have k34 : W.cell? ⟨eb, 34, none⟩ = some (.int .i64 (e.i 3)) := HA.out.ev.cell 34
  have hc : Calls Try.prog 16 #[.agg #[.int .i64 e.cr.r, .int .i64 e.cr.e, .int .i64 e.cr.s, .int .i64 e.cr.g, .int .i64 e.cr.h], .int .i64 (e.i 2), .int .i64 (e.i 3)] W (ends (execF e.cr (e.i 2) (e.i 3)) W) := rexec_calls e.cr.r e.cr.e e.cr.s e.cr.g e.cr.h (e.i 2) (e.i 3) W
  rw [HE.out] at hc
  have Hc := hide hc
  clear hc
  go_wp2_with fail
  refine Hc.out.mono ?_
  clear c0 c1 c2 c3 c4 c5 c6 c7 c8 k6 k12 k26 b0
  rintro x W2 ⟨rfl, hg2⟩
  have HA2 := hide (HA.out.gr' hg2)
  have c0 : W2.cell? ⟨pk, 0, none⟩ = some (.int .i64 e.pid) := HA2.out.p.cell 0
  have c6 : W2.cell? ⟨pk, 6, none⟩ = some (.int .i64 why) := HA2.out.p.cell 6
  have c7 : W2.cell? ⟨pk, 7, none⟩ = some (.bool nt) := HA2.out.p.cell 7
  have c8 : W2.cell? ⟨pk, 8, none⟩ = some (.bool false) := HA2.out.p.cell 8
  clear hg2 Hc k33 k34
  go_upto_if 83 with (fail)
  have HA3 := hide (HA2.out.gr' (only_alloc (only_refl W2 none) (.cells #[.int .i64 R.r, .int .i64 R.e, .int .i64 R.s, .int .i64 R.g, .int .i64 R.h] 28)))
  have hB3 := Blk.new W2 28 #[.int .i64 R.r, .int .i64 R.e, .int .i64 R.s, .int .i64 R.g, .int .i64 R.h]
  have hkl : pk < W2.heap.size := HA2.out.p.lt
  have hne : W2.heap.size ≠ pk := by omega
  have hbl : b < W2.heap.size := HA2.out.tab.blk.lt
  clear c0 c6 c7 c8 hkl hbl HA2
  generalize W2.alloc (.cells #[.int .i64 R.r, .int .i64 R.e, .int .i64 R.s, .int .i64 R.g, .int .i64 R.h] 28) = W3 at HA3 hB3 ⊢
  generalize W2.heap.size = rb at hB3 hne ⊢
  have r0 : W3.cell? ⟨rb, 0, none⟩ = some (.int .i64 R.r) := hB3.cell 0
  have r1 : W3.cell? ⟨rb, 1, none⟩ = some (.int .i64 R.e) := hB3.cell 1
  have r2 : W3.cell? ⟨rb, 2, none⟩ = some (.int .i64 R.s) := hB3.cell 2
  have r3 : W3.cell? ⟨rb, 3, none⟩ = some (.int .i64 R.g) := hB3.cell 3
  have r4 : W3.cell? ⟨rb, 4, none⟩ = some (.int .i64 R.h) := hB3.cell 4
  have c0 : W3.cell? ⟨pk, 0, none⟩ = some (.int .i64 e.pid) := HA3.out.p.cell 0
  have c1 : W3.cell? ⟨pk, 1, none⟩ = some (.int .i64 e.cr.r) := HA3.out.p.cell 1
  have c2 : W3.cell? ⟨pk, 2, none⟩ = some (.int .i64 e.cr.e) := HA3.out.p.cell 2
  have c3 : W3.cell? ⟨pk, 3, none⟩ = some (.int .i64 e.cr.s) := HA3.out.p.cell 3
  have c4 : W3.cell? ⟨pk, 4, none⟩ = some (.int .i64 e.cr.g) := HA3.out.p.cell 4
  have c5 : W3.cell? ⟨pk, 5, none⟩ = some (.int .i64 e.cr.h) := HA3.out.p.cell 5
  have c6 : W3.cell? ⟨pk, 6, none⟩ = some (.int .i64 why) := HA3.out.p.cell 6
  have c7 : W3.cell? ⟨pk, 7, none⟩ = some (.bool nt) := HA3.out.p.cell 7
  have c8 : W3.cell? ⟨pk, 8, none⟩ = some (.bool false) := HA3.out.p.cell 8
  have zp : ∀ j, W3.frozen? ⟨pk, j, none⟩ = false := fun j => HA3.out.p.frozen j
  have hpl : pk < W3.heap.size := HA3.out.p.lt
  have hrl : rb < W3.heap.size := hB3.lt
  clear hB3
  go_wp2_with fail
  have HA4 := hide (((HA3.out.cred_ R).nt_ false).why_ 3)
  clear c0 c1 c2 c3 c4 c5 c6 c7 c8 r0 r1 r2 r3 r4 zp hpl hrl HA HA3 hne
  generalize ((((((W3.setCell ⟨pk, 1, none⟩ (.int .i64 R.r)).setCell ⟨pk, 2, none⟩ (.int .i64 R.e)).setCell ⟨pk, 3, none⟩ (.int .i64 R.s)).setCell ⟨pk, 4, none⟩ (.int .i64 R.g)).setCell ⟨pk, 5, none⟩ (.int .i64 R.h)).setCell ⟨pk, 7, none⟩ (.bool false)).setCell ⟨pk, 6, none⟩ (.int .i64 3) = W4 at HA4 ⊢
  have hqs : QS b pk (.slice (some ⟨g, off, none⟩) r.L.length cap) (⟨e.pid, ⟨R, 3, false, false⟩⟩ : Pr) W4.drew := ⟨HA4.out.tab.blk.cell 0, RowAt.of (Blk.drew HA4.out.p)⟩
  refine wp_region_perm [0, 1, 2, 3, 4, 5, 6] [7] (by kernel_rfl) (by kernel_rfl) (QS b pk (.slice (some ⟨g, off, none⟩) r.L.length cap) (⟨e.pid, ⟨R, 3, false, false⟩⟩ : Pr)) hqs ?_
  simp only [pick, List.getElem?_cons_zero, List.getElem?_cons_succ]
  iterate 7
    refine wpTake_cons ?_ (by rfl) ?_ ?_
    rotate_left
    · (intro W9 hSW; obtain ⟨hS1, j0, j1, j2, j3, j4, j5, j6, j7, j8⟩ := hSW; go_simp; try with_reducible rfl)
    simp only [Act.put, List.setIfInBounds_toArray, List.set_cons_zero, List.set_cons_succ]
  refine wpTake_nil ?_
  refine wpForce_one ?_
  obtain ⟨hf, hth⟩ := HA4.out.put rfl Hn.out 1
  have Hf := hide hf
  clear hf
  refine wpList_store_mid rfl 52 _ _ rfl g (off + n * 9) (⟨e.pid, ⟨R, 3, false, false⟩⟩ : Pr).cells.toArray (by rfl) (by rfl) hth (by rw [show (⟨e.pid, ⟨R, 3, false, false⟩⟩ : Pr).cells.toArray.size = 9 from rfl]; kernel_rfl) (all_oneCell_toArray (fun y hy => pcs_one [(⟨e.pid, ⟨R, 3, false, false⟩⟩ : Pr)] y (by simpa [pcs] using hy))) ?_
  refine wpList_nil ?_
  refine NoPanic.normal ?_
  go_wp2
  go_ret
  exact ⟨rfl, Hf.out⟩

set_option maxHeartbeats 2000000 in
theorem rwell_exec_c1 (b : Nat) (v : Value) (r : RS) (e : Ev) (w : World) (h : RAt w b v r) (n : Nat) (why : Int) (nt pv : Bool) (hi : idx r.L e.pid = some n) (hs : r.L[n]? = some (⟨e.pid, ⟨e.cr, why, nt, pv⟩⟩ : Pr)) (R : Cr) (hr : e.cr.e ≠ 0) (hwy : why ≠ 0) (he : e.err = 0) (hop : e.cl.op = 19) (hE : execF e.cr (e.i 2) (e.i 3) = (R, 0)) (hR : R.e = 0) :
    Calls Try.prog 10 #[.pointer (some ⟨b, 0, none⟩), .agg e.cells] w fun x w' => x = .returned (.bool true) ∧ RTo w w' b (rOwn b v) ⟨r.L.set n (⟨e.pid, ⟨R, why, false, pv⟩⟩ : Pr), r.last⟩ := by
  have hn : n < r.L.length := (idx_some hi).1
  have hlen := h.len
  obtain ⟨g, off, cap, hv, hcap, hcm, hgl⟩ := h.prs.at h.pos
  subst hv
  obtain ⟨w0, hw0⟩ : ∃ w0, w.alloc (.cells e.cells 40) = w0 := ⟨_, rfl⟩
  have hB := Blk.new w 40 e.cells
  have hG := only_alloc (only_refl w none) (.cells e.cells 40)
  have hT := h.gr hG
  have hbl := h.blk.lt
  rw [hw0] at hB hG hT
  have hsz : w0.heap.size = w.heap.size + 1 := by rw [← hw0, World.size_alloc]
  have hat := rat_any b _ r e.pid w0 hT
  rw [hi] at hat
  obtain ⟨d0, d1, d2, d3, d4, d5, d6, d7, d8⟩ := hT.prs.c rfl hn hs
  have a0 : w0.cell? ⟨b, 0, none⟩ = some (.slice (some ⟨g, off, none⟩) r.L.length cap) := hT.blk.cell 0
  have g0 : w0.cell? ⟨w.heap.size, 0, none⟩ = some (.int .i64 e.pid) := hB.cell 0
  have g1 : w0.cell? ⟨w.heap.size, 1, none⟩ = some (.int .i64 e.cr.r) := hB.cell 1
  have g2 : w0.cell? ⟨w.heap.size, 2, none⟩ = some (.int .i64 e.cr.e) := hB.cell 2
  have g3 : w0.cell? ⟨w.heap.size, 3, none⟩ = some (.int .i64 e.cr.s) := hB.cell 3
  have g4 : w0.cell? ⟨w.heap.size, 4, none⟩ = some (.int .i64 e.cr.g) := hB.cell 4
  have g5 : w0.cell? ⟨w.heap.size, 5, none⟩ = some (.int .i64 e.cr.h) := hB.cell 5
  have i0 : decide ((n : Int) < 0) = false := by simp
  have i1 : (0 : Int) ≤ n ∧ (n : Int) < (r.L.length : Int) := by omega
  have hbl0 : b < w0.heap.size := by omega
  have A6 : (e.cr.e == 0) = false := by simpa using hr
  clear hr
  have A7 : (why == 0) = false := by simpa using hwy
  clear hwy
  have q0 : (e.err != 0) = false := by simpa using he
  have q18 : (e.cl.op == 18) = false := by simp; omega
  have q19 : (e.cl.op == 19) = true := by simpa using hop
  have HE := hide hE
  clear hE
  have qR : (R.e != 0) = false := by simpa using hR
  clear hR
  have H := hide h
  have HB := hide hB
  have HG := hide hG
  have HT := hide hT
  have Hat := hide hat
  have Hn := hide hn
  obtain ⟨CC, hCC⟩ : ∃ CC, e.cells = CC := ⟨_, rfl⟩
  rw [hCC] at hw0 ⊢
  clear hB hG hT h hat hi hs hcap hcm hgl hn hlen
  go_enter Try.func10, Try.ntmps10
  go_wp2_with fail
  refine Hat.out.mono ?_
  rintro x1 w1 ⟨rfl, rfl⟩
  simp only [oi]
  go_wp2_with fail
  go_quiet (fail)
  go_upto_if 52 with (fail)
  have hA := RA.start nq (⟨e.pid, ⟨e.cr, why, nt, pv⟩⟩ : Pr) H.out HB.out HT.out HG.out hsz
  rw [hsz] at hA
  simp only [Pr.cells] at hA
  clear hsz hbl hbl0 hw0 d0 d1 d2 d3 d4 d5 d6 d7 d8 g0 g1 g2 g3 g4 g5 a0
  generalize (w0.drewN nq).alloc (.cells #[.int .i64 e.pid, .int .i64 e.cr.r, .int .i64 e.cr.e, .int .i64 e.cr.s, .int .i64 e.cr.g, .int .i64 e.cr.h, .int .i64 why, .bool nt, .bool pv] 52) = W, w.heap.size + 1 = pk at hA ⊢
  generalize w.heap.size = eb at hA ⊢
  have HA := hide hA
  have c0 : W.cell? ⟨pk, 0, none⟩ = some (.int .i64 e.pid) := hA.p.cell 0
  have c2 : W.cell? ⟨pk, 2, none⟩ = some (.int .i64 e.cr.e) := hA.p.cell 2
  have c6 : W.cell? ⟨pk, 6, none⟩ = some (.int .i64 why) := hA.p.cell 6
  have c7 : W.cell? ⟨pk, 7, none⟩ = some (.bool nt) := hA.p.cell 7
  have c8 : W.cell? ⟨pk, 8, none⟩ = some (.bool pv) := hA.p.cell 8
  have c1 : W.cell? ⟨pk, 1, none⟩ = some (.int .i64 e.cr.r) := hA.p.cell 1
  have c3 : W.cell? ⟨pk, 3, none⟩ = some (.int .i64 e.cr.s) := hA.p.cell 3
  have c4 : W.cell? ⟨pk, 4, none⟩ = some (.int .i64 e.cr.g) := hA.p.cell 4
  have c5 : W.cell? ⟨pk, 5, none⟩ = some (.int .i64 e.cr.h) := hA.p.cell 5
  have k6 : W.cell? ⟨eb, 6, none⟩ = some (.int .i64 e.cl.op) := hA.ev.cell 6
  have k12 : W.cell? ⟨eb, 12, none⟩ = some (.int .i64 e.cl.n) := hA.ev.cell 12
  have k26 : W.cell? ⟨eb, 26, none⟩ = some (.int .i64 e.err) := hA.ev.cell 26
  have b0 : W.cell? ⟨b, 0, none⟩ = some (.slice (some ⟨g, off, none⟩) r.L.length cap) := hA.tab.blk.cell 0
  clear hA
  have k33 : W.cell? ⟨eb, 33, none⟩ = some (.int .i64 (e.i 2)) := HA.out.ev.cell 33
  have k34 : W.cell? ⟨eb, 34, none⟩ = some (.int .i64 (e.i 3)) := HA.out.ev.cell 34
  have hc : Calls Try.prog 16 #[.agg #[.int .i64 e.cr.r, .int .i64 e.cr.e, .int .i64 e.cr.s, .int .i64 e.cr.g, .int .i64 e.cr.h], .int .i64 (e.i 2), .int .i64 (e.i 3)] W (ends (execF e.cr (e.i 2) (e.i 3)) W) := rexec_calls e.cr.r e.cr.e e.cr.s e.cr.g e.cr.h (e.i 2) (e.i 3) W
  rw [HE.out] at hc
  have Hc := hide hc
  clear hc
  go_wp2_with fail
  refine Hc.out.mono ?_
  clear c0 c1 c2 c3 c4 c5 c6 c7 c8 k6 k12 k26 b0
  rintro x W2 ⟨rfl, hg2⟩
  have HA2 := hide (HA.out.gr' hg2)
  have c0 : W2.cell? ⟨pk, 0, none⟩ = some (.int .i64 e.pid) := HA2.out.p.cell 0
  have c6 : W2.cell? ⟨pk, 6, none⟩ = some (.int .i64 why) := HA2.out.p.cell 6
  have c7 : W2.cell? ⟨pk, 7, none⟩ = some (.bool nt) := HA2.out.p.cell 7
  have c8 : W2.cell? ⟨pk, 8, none⟩ = some (.bool pv) := HA2.out.p.cell 8
  clear hg2 Hc k33 k34
  go_upto_if 83 with (fail)
  have HA3 := hide (HA2.out.gr' (only_alloc (only_refl W2 none) (.cells #[.int .i64 R.r, .int .i64 R.e, .int .i64 R.s, .int .i64 R.g, .int .i64 R.h] 28)))
  have hB3 := Blk.new W2 28 #[.int .i64 R.r, .int .i64 R.e, .int .i64 R.s, .int .i64 R.g, .int .i64 R.h]
  have hkl : pk < W2.heap.size := HA2.out.p.lt
  have hne : W2.heap.size ≠ pk := by omega
  have hbl : b < W2.heap.size := HA2.out.tab.blk.lt
  clear c0 c6 c7 c8 hkl hbl HA2
  generalize W2.alloc (.cells #[.int .i64 R.r, .int .i64 R.e, .int .i64 R.s, .int .i64 R.g, .int .i64 R.h] 28) = W3 at HA3 hB3 ⊢
  generalize W2.heap.size = rb at hB3 hne ⊢
  have r0 : W3.cell? ⟨rb, 0, none⟩ = some (.int .i64 R.r) := hB3.cell 0
  have r1 : W3.cell? ⟨rb, 1, none⟩ = some (.int .i64 R.e) := hB3.cell 1
  have r2 : W3.cell? ⟨rb, 2, none⟩ = some (.int .i64 R.s) := hB3.cell 2
  have r3 : W3.cell? ⟨rb, 3, none⟩ = some (.int .i64 R.g) := hB3.cell 3
  have r4 : W3.cell? ⟨rb, 4, none⟩ = some (.int .i64 R.h) := hB3.cell 4
  have c0 : W3.cell? ⟨pk, 0, none⟩ = some (.int .i64 e.pid) := HA3.out.p.cell 0
  have c1 : W3.cell? ⟨pk, 1, none⟩ = some (.int .i64 e.cr.r) := HA3.out.p.cell 1
  have c2 : W3.cell? ⟨pk, 2, none⟩ = some (.int .i64 e.cr.e) := HA3.out.p.cell 2
  have c3 : W3.cell? ⟨pk, 3, none⟩ = some (.int .i64 e.cr.s) := HA3.out.p.cell 3
  have c4 : W3.cell? ⟨pk, 4, none⟩ = some (.int .i64 e.cr.g) := HA3.out.p.cell 4
  have c5 : W3.cell? ⟨pk, 5, none⟩ = some (.int .i64 e.cr.h) := HA3.out.p.cell 5
  have c6 : W3.cell? ⟨pk, 6, none⟩ = some (.int .i64 why) := HA3.out.p.cell 6
  have c7 : W3.cell? ⟨pk, 7, none⟩ = some (.bool nt) := HA3.out.p.cell 7
  have c8 : W3.cell? ⟨pk, 8, none⟩ = some (.bool pv) := HA3.out.p.cell 8
  have zp : ∀ j, W3.frozen? ⟨pk, j, none⟩ = false := fun j => HA3.out.p.frozen j
  have hpl : pk < W3.heap.size := HA3.out.p.lt
  have hrl : rb < W3.heap.size := hB3.lt
  clear hB3
  go_wp2_with fail
  have HA4 := hide ((HA3.out.cred_ R).nt_ false)
  clear c0 c1 c2 c3 c4 c5 c6 c7 c8 r0 r1 r2 r3 r4 zp hpl hrl HA HA3 hne
  generalize ((((((W3.setCell ⟨pk, 1, none⟩ (.int .i64 R.r)).setCell ⟨pk, 2, none⟩ (.int .i64 R.e)).setCell ⟨pk, 3, none⟩ (.int .i64 R.s)).setCell ⟨pk, 4, none⟩ (.int .i64 R.g)).setCell ⟨pk, 5, none⟩ (.int .i64 R.h)).setCell ⟨pk, 7, none⟩ (.bool false)) = W4 at HA4 ⊢
  have hqs : QS b pk (.slice (some ⟨g, off, none⟩) r.L.length cap) (⟨e.pid, ⟨R, why, false, pv⟩⟩ : Pr) W4.drew := ⟨HA4.out.tab.blk.cell 0, RowAt.of (Blk.drew HA4.out.p)⟩
  refine wp_region_perm [0, 1, 2, 3, 4, 5, 6] [7] (by kernel_rfl) (by kernel_rfl) (QS b pk (.slice (some ⟨g, off, none⟩) r.L.length cap) (⟨e.pid, ⟨R, why, false, pv⟩⟩ : Pr)) hqs ?_
  simp only [pick, List.getElem?_cons_zero, List.getElem?_cons_succ]
  iterate 7
    refine wpTake_cons ?_ (by rfl) ?_ ?_
    rotate_left
    · (intro W9 hSW; obtain ⟨hS1, j0, j1, j2, j3, j4, j5, j6, j7, j8⟩ := hSW; go_simp; try with_reducible rfl)
    simp only [Act.put, List.setIfInBounds_toArray, List.set_cons_zero, List.set_cons_succ]
  refine wpTake_nil ?_
  refine wpForce_one ?_
  obtain ⟨hf, hth⟩ := HA4.out.put rfl Hn.out 1
  have Hf := hide hf
  clear hf
  refine wpList_store_mid rfl 52 _ _ rfl g (off + n * 9) (⟨e.pid, ⟨R, why, false, pv⟩⟩ : Pr).cells.toArray (by rfl) (by rfl) hth (by rw [show (⟨e.pid, ⟨R, why, false, pv⟩⟩ : Pr).cells.toArray.size = 9 from rfl]; kernel_rfl) (all_oneCell_toArray (fun y hy => pcs_one [(⟨e.pid, ⟨R, why, false, pv⟩⟩ : Pr)] y (by simpa [pcs] using hy))) ?_
  refine wpList_nil ?_
  refine NoPanic.normal ?_
  go_wp2
  go_ret
  exact ⟨rfl, Hf.out⟩

set_option maxHeartbeats 2000000 in
theorem rwell_exec_c2 (b : Nat) (v : Value) (r : RS) (e : Ev) (w : World) (h : RAt w b v r) (n : Nat) (why : Int) (nt pv : Bool) (hi : idx r.L e.pid = some n) (hs : r.L[n]? = some (⟨e.pid, ⟨e.cr, why, nt, pv⟩⟩ : Pr)) (R : Cr) (hr : e.cr.e = 0) (hwy : why ≠ 0) (he : e.err = 0) (hop : e.cl.op = 19) (hE : execF e.cr (e.i 2) (e.i 3) = (R, 0)) (hR : R.e = 0) :
    Calls Try.prog 10 #[.pointer (some ⟨b, 0, none⟩), .agg e.cells] w fun x w' => x = .returned (.bool true) ∧ RTo w w' b (rOwn b v) ⟨r.L.set n (⟨e.pid, ⟨R, why, false, pv⟩⟩ : Pr), r.last⟩ := by
  have hn : n < r.L.length := (idx_some hi).1
  have hlen := h.len
  obtain ⟨g, off, cap, hv, hcap, hcm, hgl⟩ := h.prs.at h.pos
  subst hv
  obtain ⟨w0, hw0⟩ : ∃ w0, w.alloc (.cells e.cells 40) = w0 := ⟨_, rfl⟩
  have hB := Blk.new w 40 e.cells
  have hG := only_alloc (only_refl w none) (.cells e.cells 40)
  have hT := h.gr hG
  have hbl := h.blk.lt
  rw [hw0] at hB hG hT
  have hsz : w0.heap.size = w.heap.size + 1 := by rw [← hw0, World.size_alloc]
  have hat := rat_any b _ r e.pid w0 hT
  rw [hi] at hat
  obtain ⟨d0, d1, d2, d3, d4, d5, d6, d7, d8⟩ := hT.prs.c rfl hn hs
  have a0 : w0.cell? ⟨b, 0, none⟩ = some (.slice (some ⟨g, off, none⟩) r.L.length cap) := hT.blk.cell 0
  have g0 : w0.cell? ⟨w.heap.size, 0, none⟩ = some (.int .i64 e.pid) := hB.cell 0
  have g1 : w0.cell? ⟨w.heap.size, 1, none⟩ = some (.int .i64 e.cr.r) := hB.cell 1
  have g2 : w0.cell? ⟨w.heap.size, 2, none⟩ = some (.int .i64 e.cr.e) := hB.cell 2
  have g3 : w0.cell? ⟨w.heap.size, 3, none⟩ = some (.int .i64 e.cr.s) := hB.cell 3
  have g4 : w0.cell? ⟨w.heap.size, 4, none⟩ = some (.int .i64 e.cr.g) := hB.cell 4
  have g5 : w0.cell? ⟨w.heap.size, 5, none⟩ = some (.int .i64 e.cr.h) := hB.cell 5
  have i0 : decide ((n : Int) < 0) = false := by simp
  have i1 : (0 : Int) ≤ n ∧ (n : Int) < (r.L.length : Int) := by omega
  have hbl0 : b < w0.heap.size := by omega
  have A6 : (e.cr.e == 0) = true := by simpa using hr
  clear hr
  have A7 : (why == 0) = false := by simpa using hwy
  clear hwy
  have q0 : (e.err != 0) = false := by simpa using he
  have q18 : (e.cl.op == 18) = false := by simp; omega
  have q19 : (e.cl.op == 19) = true := by simpa using hop
  have HE := hide hE
  clear hE
  have qR : (R.e != 0) = false := by simpa using hR
  clear hR
  have H := hide h
  have HB := hide hB
  have HG := hide hG
  have HT := hide hT
  have Hat := hide hat
  have Hn := hide hn
  obtain ⟨CC, hCC⟩ : ∃ CC, e.cells = CC := ⟨_, rfl⟩
  rw [hCC] at hw0 ⊢
  clear hB hG hT h hat hi hs hcap hcm hgl hn hlen
  go_enter Try.func10, Try.ntmps10
  go_wp2_with fail
  refine Hat.out.mono ?_
  rintro x1 w1 ⟨rfl, rfl⟩
  simp only [oi]
  go_wp2_with fail
  go_quiet (fail)
  go_upto_if 52 with (fail)
  have hA := RA.start nq (⟨e.pid, ⟨e.cr, why, nt, pv⟩⟩ : Pr) H.out HB.out HT.out HG.out hsz
  rw [hsz] at hA
  simp only [Pr.cells] at hA
  clear hsz hbl hbl0 hw0 d0 d1 d2 d3 d4 d5 d6 d7 d8 g0 g1 g2 g3 g4 g5 a0
  generalize (w0.drewN nq).alloc (.cells #[.int .i64 e.pid, .int .i64 e.cr.r, .int .i64 e.cr.e, .int .i64 e.cr.s, .int .i64 e.cr.g, .int .i64 e.cr.h, .int .i64 why, .bool nt, .bool pv] 52) = W, w.heap.size + 1 = pk at hA ⊢
  generalize w.heap.size = eb at hA ⊢
  have HA := hide hA
  have c0 : W.cell? ⟨pk, 0, none⟩ = some (.int .i64 e.pid) := hA.p.cell 0
  have c2 : W.cell? ⟨pk, 2, none⟩ = some (.int .i64 e.cr.e) := hA.p.cell 2
  have c6 : W.cell? ⟨pk, 6, none⟩ = some (.int .i64 why) := hA.p.cell 6
  have c7 : W.cell? ⟨pk, 7, none⟩ = some (.bool nt) := hA.p.cell 7
  have c8 : W.cell? ⟨pk, 8, none⟩ = some (.bool pv) := hA.p.cell 8
  have c1 : W.cell? ⟨pk, 1, none⟩ = some (.int .i64 e.cr.r) := hA.p.cell 1
  have c3 : W.cell? ⟨pk, 3, none⟩ = some (.int .i64 e.cr.s) := hA.p.cell 3
  have c4 : W.cell? ⟨pk, 4, none⟩ = some (.int .i64 e.cr.g) := hA.p.cell 4
  have c5 : W.cell? ⟨pk, 5, none⟩ = some (.int .i64 e.cr.h) := hA.p.cell 5
  have k6 : W.cell? ⟨eb, 6, none⟩ = some (.int .i64 e.cl.op) := hA.ev.cell 6
  have k12 : W.cell? ⟨eb, 12, none⟩ = some (.int .i64 e.cl.n) := hA.ev.cell 12
  have k26 : W.cell? ⟨eb, 26, none⟩ = some (.int .i64 e.err) := hA.ev.cell 26
  have b0 : W.cell? ⟨b, 0, none⟩ = some (.slice (some ⟨g, off, none⟩) r.L.length cap) := hA.tab.blk.cell 0
  clear hA
  have k33 : W.cell? ⟨eb, 33, none⟩ = some (.int .i64 (e.i 2)) := HA.out.ev.cell 33
  have k34 : W.cell? ⟨eb, 34, none⟩ = some (.int .i64 (e.i 3)) := HA.out.ev.cell 34
  have hc : Calls Try.prog 16 #[.agg #[.int .i64 e.cr.r, .int .i64 e.cr.e, .int .i64 e.cr.s, .int .i64 e.cr.g, .int .i64 e.cr.h], .int .i64 (e.i 2), .int .i64 (e.i 3)] W (ends (execF e.cr (e.i 2) (e.i 3)) W) := rexec_calls e.cr.r e.cr.e e.cr.s e.cr.g e.cr.h (e.i 2) (e.i 3) W
  rw [HE.out] at hc
  have Hc := hide hc
  clear hc
  go_wp2_with fail
  refine Hc.out.mono ?_
  clear c0 c1 c2 c3 c4 c5 c6 c7 c8 k6 k12 k26 b0
  rintro x W2 ⟨rfl, hg2⟩
  have HA2 := hide (HA.out.gr' hg2)
  have c0 : W2.cell? ⟨pk, 0, none⟩ = some (.int .i64 e.pid) := HA2.out.p.cell 0
  have c6 : W2.cell? ⟨pk, 6, none⟩ = some (.int .i64 why) := HA2.out.p.cell 6
  have c7 : W2.cell? ⟨pk, 7, none⟩ = some (.bool nt) := HA2.out.p.cell 7
  have c8 : W2.cell? ⟨pk, 8, none⟩ = some (.bool pv) := HA2.out.p.cell 8
  clear hg2 Hc k33 k34
  go_upto_if 83 with (fail)
  have HA3 := hide (HA2.out.gr' (only_alloc (only_refl W2 none) (.cells #[.int .i64 R.r, .int .i64 R.e, .int .i64 R.s, .int .i64 R.g, .int .i64 R.h] 28)))
  have hB3 := Blk.new W2 28 #[.int .i64 R.r, .int .i64 R.e, .int .i64 R.s, .int .i64 R.g, .int .i64 R.h]
  have hkl : pk < W2.heap.size := HA2.out.p.lt
  have hne : W2.heap.size ≠ pk := by omega
  have hbl : b < W2.heap.size := HA2.out.tab.blk.lt
  clear c0 c6 c7 c8 hkl hbl HA2
  generalize W2.alloc (.cells #[.int .i64 R.r, .int .i64 R.e, .int .i64 R.s, .int .i64 R.g, .int .i64 R.h] 28) = W3 at HA3 hB3 ⊢
  generalize W2.heap.size = rb at hB3 hne ⊢
  have r0 : W3.cell? ⟨rb, 0, none⟩ = some (.int .i64 R.r) := hB3.cell 0
  have r1 : W3.cell? ⟨rb, 1, none⟩ = some (.int .i64 R.e) := hB3.cell 1
  have r2 : W3.cell? ⟨rb, 2, none⟩ = some (.int .i64 R.s) := hB3.cell 2
  have r3 : W3.cell? ⟨rb, 3, none⟩ = some (.int .i64 R.g) := hB3.cell 3
  have r4 : W3.cell? ⟨rb, 4, none⟩ = some (.int .i64 R.h) := hB3.cell 4
  have c0 : W3.cell? ⟨pk, 0, none⟩ = some (.int .i64 e.pid) := HA3.out.p.cell 0
  have c1 : W3.cell? ⟨pk, 1, none⟩ = some (.int .i64 e.cr.r) := HA3.out.p.cell 1
  have c2 : W3.cell? ⟨pk, 2, none⟩ = some (.int .i64 e.cr.e) := HA3.out.p.cell 2
  have c3 : W3.cell? ⟨pk, 3, none⟩ = some (.int .i64 e.cr.s) := HA3.out.p.cell 3
  have c4 : W3.cell? ⟨pk, 4, none⟩ = some (.int .i64 e.cr.g) := HA3.out.p.cell 4
  have c5 : W3.cell? ⟨pk, 5, none⟩ = some (.int .i64 e.cr.h) := HA3.out.p.cell 5
  have c6 : W3.cell? ⟨pk, 6, none⟩ = some (.int .i64 why) := HA3.out.p.cell 6
  have c7 : W3.cell? ⟨pk, 7, none⟩ = some (.bool nt) := HA3.out.p.cell 7
  have c8 : W3.cell? ⟨pk, 8, none⟩ = some (.bool pv) := HA3.out.p.cell 8
  have zp : ∀ j, W3.frozen? ⟨pk, j, none⟩ = false := fun j => HA3.out.p.frozen j
  have hpl : pk < W3.heap.size := HA3.out.p.lt
  have hrl : rb < W3.heap.size := hB3.lt
  clear hB3
  go_wp2_with fail
  have HA4 := hide ((HA3.out.cred_ R).nt_ false)
  clear c0 c1 c2 c3 c4 c5 c6 c7 c8 r0 r1 r2 r3 r4 zp hpl hrl HA HA3 hne
  generalize ((((((W3.setCell ⟨pk, 1, none⟩ (.int .i64 R.r)).setCell ⟨pk, 2, none⟩ (.int .i64 R.e)).setCell ⟨pk, 3, none⟩ (.int .i64 R.s)).setCell ⟨pk, 4, none⟩ (.int .i64 R.g)).setCell ⟨pk, 5, none⟩ (.int .i64 R.h)).setCell ⟨pk, 7, none⟩ (.bool false)) = W4 at HA4 ⊢
  have hqs : QS b pk (.slice (some ⟨g, off, none⟩) r.L.length cap) (⟨e.pid, ⟨R, why, false, pv⟩⟩ : Pr) W4.drew := ⟨HA4.out.tab.blk.cell 0, RowAt.of (Blk.drew HA4.out.p)⟩
  refine wp_region_perm [0, 1, 2, 3, 4, 5, 6] [7] (by kernel_rfl) (by kernel_rfl) (QS b pk (.slice (some ⟨g, off, none⟩) r.L.length cap) (⟨e.pid, ⟨R, why, false, pv⟩⟩ : Pr)) hqs ?_
  simp only [pick, List.getElem?_cons_zero, List.getElem?_cons_succ]
  iterate 7
    refine wpTake_cons ?_ (by rfl) ?_ ?_
    rotate_left
    · (intro W9 hSW; obtain ⟨hS1, j0, j1, j2, j3, j4, j5, j6, j7, j8⟩ := hSW; go_simp; try with_reducible rfl)
    simp only [Act.put, List.setIfInBounds_toArray, List.set_cons_zero, List.set_cons_succ]
  refine wpTake_nil ?_
  refine wpForce_one ?_
  obtain ⟨hf, hth⟩ := HA4.out.put rfl Hn.out 1
  have Hf := hide hf
  clear hf
  refine wpList_store_mid rfl 52 _ _ rfl g (off + n * 9) (⟨e.pid, ⟨R, why, false, pv⟩⟩ : Pr).cells.toArray (by rfl) (by rfl) hth (by rw [show (⟨e.pid, ⟨R, why, false, pv⟩⟩ : Pr).cells.toArray.size = 9 from rfl]; kernel_rfl) (all_oneCell_toArray (fun y hy => pcs_one [(⟨e.pid, ⟨R, why, false, pv⟩⟩ : Pr)] y (by simpa [pcs] using hy))) ?_
  refine wpList_nil ?_
  refine NoPanic.normal ?_
  go_wp2
  go_ret
  exact ⟨rfl, Hf.out⟩

set_option maxHeartbeats 2000000 in
theorem rwell_exec_d1 (b : Nat) (v : Value) (r : RS) (e : Ev) (w : World) (h : RAt w b v r) (n : Nat) (why : Int) (nt : Bool) (hi : idx r.L e.pid = some n) (hs : r.L[n]? = some (⟨e.pid, ⟨e.cr, why, nt, true⟩⟩ : Pr)) (R : Cr) (hr : e.cr.e ≠ 0) (hwy : why = 0) (he : e.err = 0) (hop : e.cl.op = 19) (hE : execF e.cr (e.i 2) (e.i 3) = (R, 0)) (hR : R.e = 0) :
    Calls Try.prog 10 #[.pointer (some ⟨b, 0, none⟩), .agg e.cells] w fun x w' => x = .returned (.bool true) ∧ RTo w w' b (rOwn b v) ⟨r.L.set n (⟨e.pid, ⟨R, why, false, true⟩⟩ : Pr), r.last⟩ := by
  have hn : n < r.L.length := (idx_some hi).1
  have hlen := h.len
  obtain ⟨g, off, cap, hv, hcap, hcm, hgl⟩ := h.prs.at h.pos
  subst hv
  obtain ⟨w0, hw0⟩ : ∃ w0, w.alloc (.cells e.cells 40) = w0 := ⟨_, rfl⟩
  have hB := Blk.new w 40 e.cells
  have hG := only_alloc (only_refl w none) (.cells e.cells 40)
  have hT := h.gr hG
  have hbl := h.blk.lt
  rw [hw0] at hB hG hT
  have hsz : w0.heap.size = w.heap.size + 1 := by rw [← hw0, World.size_alloc]
  have hat := rat_any b _ r e.pid w0 hT
  rw [hi] at hat
  obtain ⟨d0, d1, d2, d3, d4, d5, d6, d7, d8⟩ := hT.prs.c rfl hn hs
  have a0 : w0.cell? ⟨b, 0, none⟩ = some (.slice (some ⟨g, off, none⟩) r.L.length cap) := hT.blk.cell 0
  have g0 : w0.cell? ⟨w.heap.size, 0, none⟩ = some (.int .i64 e.pid) := hB.cell 0
  have g1 : w0.cell? ⟨w.heap.size, 1, none⟩ = some (.int .i64 e.cr.r) := hB.cell 1
  have g2 : w0.cell? ⟨w.heap.size, 2, none⟩ = some (.int .i64 e.cr.e) := hB.cell 2
  have g3 : w0.cell? ⟨w.heap.size, 3, none⟩ = some (.int .i64 e.cr.s) := hB.cell 3
  have g4 : w0.cell? ⟨w.heap.size, 4, none⟩ = some (.int .i64 e.cr.g) := hB.cell 4
  have g5 : w0.cell? ⟨w.heap.size, 5, none⟩ = some (.int .i64 e.cr.h) := hB.cell 5
  have i0 : decide ((n : Int) < 0) = false := by simp
  have i1 : (0 : Int) ≤ n ∧ (n : Int) < (r.L.length : Int) := by omega
  have hbl0 : b < w0.heap.size := by omega
  have A6 : (e.cr.e == 0) = false := by simpa using hr
  clear hr
  have A7 : (why == 0) = true := by simpa using hwy
  clear hwy
  have q0 : (e.err != 0) = false := by simpa using he
  have q18 : (e.cl.op == 18) = false := by simp; omega
  have q19 : (e.cl.op == 19) = true := by simpa using hop
  have HE := hide hE
  clear hE
  have qR : (R.e != 0) = false := by simpa using hR
  clear hR
  have H := hide h
  have HB := hide hB
  have HG := hide hG
  have HT := hide hT
  have Hat := hide hat
  have Hn := hide hn
  obtain ⟨CC, hCC⟩ : ∃ CC, e.cells = CC := ⟨_, rfl⟩
  rw [hCC] at hw0 ⊢
  clear hB hG hT h hat hi hs hcap hcm hgl hn hlen
  go_enter Try.func10, Try.ntmps10
  go_wp2_with fail
  refine Hat.out.mono ?_
  rintro x1 w1 ⟨rfl, rfl⟩
  simp only [oi]
  go_wp2_with fail
  go_quiet (fail)
  go_upto_if 52 with (fail)
  have hA := RA.start nq (⟨e.pid, ⟨e.cr, why, nt, true⟩⟩ : Pr) H.out HB.out HT.out HG.out hsz
  rw [hsz] at hA
  simp only [Pr.cells] at hA
  clear hsz hbl hbl0 hw0 d0 d1 d2 d3 d4 d5 d6 d7 d8 g0 g1 g2 g3 g4 g5 a0
  generalize (w0.drewN nq).alloc (.cells #[.int .i64 e.pid, .int .i64 e.cr.r, .int .i64 e.cr.e, .int .i64 e.cr.s, .int .i64 e.cr.g, .int .i64 e.cr.h, .int .i64 why, .bool nt, .bool true] 52) = W, w.heap.size + 1 = pk at hA ⊢
  generalize w.heap.size = eb at hA ⊢
  have HA := hide hA
  have c0 : W.cell? ⟨pk, 0, none⟩ = some (.int .i64 e.pid) := hA.p.cell 0
  have c2 : W.cell? ⟨pk, 2, none⟩ = some (.int .i64 e.cr.e) := hA.p.cell 2
  have c6 : W.cell? ⟨pk, 6, none⟩ = some (.int .i64 why) := hA.p.cell 6
  have c7 : W.cell? ⟨pk, 7, none⟩ = some (.bool nt) := hA.p.cell 7
  have c8 : W.cell? ⟨pk, 8, none⟩ = some (.bool true) := hA.p.cell 8
  have c1 : W.cell? ⟨pk, 1, none⟩ = some (.int .i64 e.cr.r) := hA.p.cell 1
  have c3 : W.cell? ⟨pk, 3, none⟩ = some (.int .i64 e.cr.s) := hA.p.cell 3
  have c4 : W.cell? ⟨pk, 4, none⟩ = some (.int .i64 e.cr.g) := hA.p.cell 4
  have c5 : W.cell? ⟨pk, 5, none⟩ = some (.int .i64 e.cr.h) := hA.p.cell 5
  have k6 : W.cell? ⟨eb, 6, none⟩ = some (.int .i64 e.cl.op) := hA.ev.cell 6
  have k12 : W.cell? ⟨eb, 12, none⟩ = some (.int .i64 e.cl.n) := hA.ev.cell 12
  have k26 : W.cell? ⟨eb, 26, none⟩ = some (.int .i64 e.err) := hA.ev.cell 26
  have b0 : W.cell? ⟨b, 0, none⟩ = some (.slice (some ⟨g, off, none⟩) r.L.length cap) := hA.tab.blk.cell 0
  clear hA
  have k33 : W.cell? ⟨eb, 33, none⟩ = some (.int .i64 (e.i 2)) := HA.out.ev.cell 33
  have k34 : W.cell? ⟨eb, 34, none⟩ = some (.int .i64 (e.i 3)) := HA.out.ev.cell 34
  have hc : Calls Try.prog 16 #[.agg #[.int .i64 e.cr.r, .int .i64 e.cr.e, .int .i64 e.cr.s, .int .i64 e.cr.g, .int .i64 e.cr.h], .int .i64 (e.i 2), .int .i64 (e.i 3)] W (ends (execF e.cr (e.i 2) (e.i 3)) W) := rexec_calls e.cr.r e.cr.e e.cr.s e.cr.g e.cr.h (e.i 2) (e.i 3) W
  rw [HE.out] at hc
  have Hc := hide hc
  clear hc
  go_wp2_with fail
  refine Hc.out.mono ?_
  clear c0 c1 c2 c3 c4 c5 c6 c7 c8 k6 k12 k26 b0
  rintro x W2 ⟨rfl, hg2⟩
  have HA2 := hide (HA.out.gr' hg2)
  have c0 : W2.cell? ⟨pk, 0, none⟩ = some (.int .i64 e.pid) := HA2.out.p.cell 0
  have c6 : W2.cell? ⟨pk, 6, none⟩ = some (.int .i64 why) := HA2.out.p.cell 6
  have c7 : W2.cell? ⟨pk, 7, none⟩ = some (.bool nt) := HA2.out.p.cell 7
  have c8 : W2.cell? ⟨pk, 8, none⟩ = some (.bool true) := HA2.out.p.cell 8
  clear hg2 Hc k33 k34
  go_upto_if 83 with (fail)
  have HA3 := hide (HA2.out.gr' (only_alloc (only_refl W2 none) (.cells #[.int .i64 R.r, .int .i64 R.e, .int .i64 R.s, .int .i64 R.g, .int .i64 R.h] 28)))
  have hB3 := Blk.new W2 28 #[.int .i64 R.r, .int .i64 R.e, .int .i64 R.s, .int .i64 R.g, .int .i64 R.h]
  have hkl : pk < W2.heap.size := HA2.out.p.lt
  have hne : W2.heap.size ≠ pk := by omega
  have hbl : b < W2.heap.size := HA2.out.tab.blk.lt
  clear c0 c6 c7 c8 hkl hbl HA2
  generalize W2.alloc (.cells #[.int .i64 R.r, .int .i64 R.e, .int .i64 R.s, .int .i64 R.g, .int .i64 R.h] 28) = W3 at HA3 hB3 ⊢
  generalize W2.heap.size = rb at hB3 hne ⊢
  have r0 : W3.cell? ⟨rb, 0, none⟩ = some (.int .i64 R.r) := hB3.cell 0
  have r1 : W3.cell? ⟨rb, 1, none⟩ = some (.int .i64 R.e) := hB3.cell 1
  have r2 : W3.cell? ⟨rb, 2, none⟩ = some (.int .i64 R.s) := hB3.cell 2
  have r3 : W3.cell? ⟨rb, 3, none⟩ = some (.int .i64 R.g) := hB3.cell 3
  have r4 : W3.cell? ⟨rb, 4, none⟩ = some (.int .i64 R.h) := hB3.cell 4
  have c0 : W3.cell? ⟨pk, 0, none⟩ = some (.int .i64 e.pid) := HA3.out.p.cell 0
  have c1 : W3.cell? ⟨pk, 1, none⟩ = some (.int .i64 e.cr.r) := HA3.out.p.cell 1
  have c2 : W3.cell? ⟨pk, 2, none⟩ = some (.int .i64 e.cr.e) := HA3.out.p.cell 2
  have c3 : W3.cell? ⟨pk, 3, none⟩ = some (.int .i64 e.cr.s) := HA3.out.p.cell 3
  have c4 : W3.cell? ⟨pk, 4, none⟩ = some (.int .i64 e.cr.g) := HA3.out.p.cell 4
  have c5 : W3.cell? ⟨pk, 5, none⟩ = some (.int .i64 e.cr.h) := HA3.out.p.cell 5
  have c6 : W3.cell? ⟨pk, 6, none⟩ = some (.int .i64 why) := HA3.out.p.cell 6
  have c7 : W3.cell? ⟨pk, 7, none⟩ = some (.bool nt) := HA3.out.p.cell 7
  have c8 : W3.cell? ⟨pk, 8, none⟩ = some (.bool true) := HA3.out.p.cell 8
  have zp : ∀ j, W3.frozen? ⟨pk, j, none⟩ = false := fun j => HA3.out.p.frozen j
  have hpl : pk < W3.heap.size := HA3.out.p.lt
  have hrl : rb < W3.heap.size := hB3.lt
  clear hB3
  go_wp2_with fail
  have HA4 := hide ((HA3.out.cred_ R).nt_ false)
  clear c0 c1 c2 c3 c4 c5 c6 c7 c8 r0 r1 r2 r3 r4 zp hpl hrl HA HA3 hne
  generalize ((((((W3.setCell ⟨pk, 1, none⟩ (.int .i64 R.r)).setCell ⟨pk, 2, none⟩ (.int .i64 R.e)).setCell ⟨pk, 3, none⟩ (.int .i64 R.s)).setCell ⟨pk, 4, none⟩ (.int .i64 R.g)).setCell ⟨pk, 5, none⟩ (.int .i64 R.h)).setCell ⟨pk, 7, none⟩ (.bool false)) = W4 at HA4 ⊢
  have hqs : QS b pk (.slice (some ⟨g, off, none⟩) r.L.length cap) (⟨e.pid, ⟨R, why, false, true⟩⟩ : Pr) W4.drew := ⟨HA4.out.tab.blk.cell 0, RowAt.of (Blk.drew HA4.out.p)⟩
  refine wp_region_perm [0, 1, 2, 3, 4, 5, 6] [7] (by kernel_rfl) (by kernel_rfl) (QS b pk (.slice (some ⟨g, off, none⟩) r.L.length cap) (⟨e.pid, ⟨R, why, false, true⟩⟩ : Pr)) hqs ?_
  simp only [pick, List.getElem?_cons_zero, List.getElem?_cons_succ]
  iterate 7
    refine wpTake_cons ?_ (by rfl) ?_ ?_
    rotate_left
    · (intro W9 hSW; obtain ⟨hS1, j0, j1, j2, j3, j4, j5, j6, j7, j8⟩ := hSW; go_simp; try with_reducible rfl)
    simp only [Act.put, List.setIfInBounds_toArray, List.set_cons_zero, List.set_cons_succ]
  refine wpTake_nil ?_
  refine wpForce_one ?_
  obtain ⟨hf, hth⟩ := HA4.out.put rfl Hn.out 1
  have Hf := hide hf
  clear hf
  refine wpList_store_mid rfl 52 _ _ rfl g (off + n * 9) (⟨e.pid, ⟨R, why, false, true⟩⟩ : Pr).cells.toArray (by rfl) (by rfl) hth (by rw [show (⟨e.pid, ⟨R, why, false, true⟩⟩ : Pr).cells.toArray.size = 9 from rfl]; kernel_rfl) (all_oneCell_toArray (fun y hy => pcs_one [(⟨e.pid, ⟨R, why, false, true⟩⟩ : Pr)] y (by simpa [pcs] using hy))) ?_
  refine wpList_nil ?_
  refine NoPanic.normal ?_
  go_wp2
  go_ret
  exact ⟨rfl, Hf.out⟩

set_option maxHeartbeats 2000000 in
theorem rwell_exec_d3 (b : Nat) (v : Value) (r : RS) (e : Ev) (w : World) (h : RAt w b v r) (n : Nat) (why : Int) (nt : Bool) (hi : idx r.L e.pid = some n) (hs : r.L[n]? = some (⟨e.pid, ⟨e.cr, why, nt, true⟩⟩ : Pr)) (R : Cr) (hr : e.cr.e = 0) (hwy : why = 0) (he : e.err = 0) (hop : e.cl.op = 19) (hE : execF e.cr (e.i 2) (e.i 3) = (R, 0)) (hR : R.e = 0) :
    Calls Try.prog 10 #[.pointer (some ⟨b, 0, none⟩), .agg e.cells] w fun x w' => x = .returned (.bool true) ∧ RTo w w' b (rOwn b v) ⟨r.L.set n (⟨e.pid, ⟨R, why, false, true⟩⟩ : Pr), r.last⟩ := by
  have hn : n < r.L.length := (idx_some hi).1
  have hlen := h.len
  obtain ⟨g, off, cap, hv, hcap, hcm, hgl⟩ := h.prs.at h.pos
  subst hv
  obtain ⟨w0, hw0⟩ : ∃ w0, w.alloc (.cells e.cells 40) = w0 := ⟨_, rfl⟩
  have hB := Blk.new w 40 e.cells
  have hG := only_alloc (only_refl w none) (.cells e.cells 40)
  have hT := h.gr hG
  have hbl := h.blk.lt
  rw [hw0] at hB hG hT
  have hsz : w0.heap.size = w.heap.size + 1 := by rw [← hw0, World.size_alloc]
  have hat := rat_any b _ r e.pid w0 hT
  rw [hi] at hat
  obtain ⟨d0, d1, d2, d3, d4, d5, d6, d7, d8⟩ := hT.prs.c rfl hn hs
  have a0 : w0.cell? ⟨b, 0, none⟩ = some (.slice (some ⟨g, off, none⟩) r.L.length cap) := hT.blk.cell 0
  have g0 : w0.cell? ⟨w.heap.size, 0, none⟩ = some (.int .i64 e.pid) := hB.cell 0
  have g1 : w0.cell? ⟨w.heap.size, 1, none⟩ = some (.int .i64 e.cr.r) := hB.cell 1
  have g2 : w0.cell? ⟨w.heap.size, 2, none⟩ = some (.int .i64 e.cr.e) := hB.cell 2
  have g3 : w0.cell? ⟨w.heap.size, 3, none⟩ = some (.int .i64 e.cr.s) := hB.cell 3
  have g4 : w0.cell? ⟨w.heap.size, 4, none⟩ = some (.int .i64 e.cr.g) := hB.cell 4
  have g5 : w0.cell? ⟨w.heap.size, 5, none⟩ = some (.int .i64 e.cr.h) := hB.cell 5
  have i0 : decide ((n : Int) < 0) = false := by simp
  have i1 : (0 : Int) ≤ n ∧ (n : Int) < (r.L.length : Int) := by omega
  have hbl0 : b < w0.heap.size := by omega
  have A6 : (e.cr.e == 0) = true := by simpa using hr
  clear hr
  have A7 : (why == 0) = true := by simpa using hwy
  clear hwy
  have q0 : (e.err != 0) = false := by simpa using he
  have q18 : (e.cl.op == 18) = false := by simp; omega
  have q19 : (e.cl.op == 19) = true := by simpa using hop
  have HE := hide hE
  clear hE
  have qR : (R.e != 0) = false := by simpa using hR
  clear hR
  have H := hide h
  have HB := hide hB
  have HG := hide hG
  have HT := hide hT
  have Hat := hide hat
  have Hn := hide hn
  obtain ⟨CC, hCC⟩ : ∃ CC, e.cells = CC := ⟨_, rfl⟩
  rw [hCC] at hw0 ⊢
  clear hB hG hT h hat hi hs hcap hcm hgl hn hlen
  go_enter Try.func10, Try.ntmps10
  go_wp2_with fail
  refine Hat.out.mono ?_
  rintro x1 w1 ⟨rfl, rfl⟩
  simp only [oi]
  go_wp2_with fail
  go_quiet (fail)
  go_upto_if 52 with (fail)
  have hA := RA.start nq (⟨e.pid, ⟨e.cr, why, nt, true⟩⟩ : Pr) H.out HB.out HT.out HG.out hsz
  rw [hsz] at hA
  simp only [Pr.cells] at hA
  clear hsz hbl hbl0 hw0 d0 d1 d2 d3 d4 d5 d6 d7 d8 g0 g1 g2 g3 g4 g5 a0
  generalize (w0.drewN nq).alloc (.cells #[.int .i64 e.pid, .int .i64 e.cr.r, .int .i64 e.cr.e, .int .i64 e.cr.s, .int .i64 e.cr.g, .int .i64 e.cr.h, .int .i64 why, .bool nt, .bool true] 52) = W, w.heap.size + 1 = pk at hA ⊢
  generalize w.heap.size = eb at hA ⊢
  have HA := hide hA
  have c0 : W.cell? ⟨pk, 0, none⟩ = some (.int .i64 e.pid) := hA.p.cell 0
  have c2 : W.cell? ⟨pk, 2, none⟩ = some (.int .i64 e.cr.e) := hA.p.cell 2
  have c6 : W.cell? ⟨pk, 6, none⟩ = some (.int .i64 why) := hA.p.cell 6
  have c7 : W.cell? ⟨pk, 7, none⟩ = some (.bool nt) := hA.p.cell 7
  have c8 : W.cell? ⟨pk, 8, none⟩ = some (.bool true) := hA.p.cell 8
  have c1 : W.cell? ⟨pk, 1, none⟩ = some (.int .i64 e.cr.r) := hA.p.cell 1
  have c3 : W.cell? ⟨pk, 3, none⟩ = some (.int .i64 e.cr.s) := hA.p.cell 3
  have c4 : W.cell? ⟨pk, 4, none⟩ = some (.int .i64 e.cr.g) := hA.p.cell 4
  have c5 : W.cell? ⟨pk, 5, none⟩ = some (.int .i64 e.cr.h) := hA.p.cell 5
  have k6 : W.cell? ⟨eb, 6, none⟩ = some (.int .i64 e.cl.op) := hA.ev.cell 6
  have k12 : W.cell? ⟨eb, 12, none⟩ = some (.int .i64 e.cl.n) := hA.ev.cell 12
  have k26 : W.cell? ⟨eb, 26, none⟩ = some (.int .i64 e.err) := hA.ev.cell 26
  have b0 : W.cell? ⟨b, 0, none⟩ = some (.slice (some ⟨g, off, none⟩) r.L.length cap) := hA.tab.blk.cell 0
  clear hA
  have k33 : W.cell? ⟨eb, 33, none⟩ = some (.int .i64 (e.i 2)) := HA.out.ev.cell 33
  have k34 : W.cell? ⟨eb, 34, none⟩ = some (.int .i64 (e.i 3)) := HA.out.ev.cell 34
  have hc : Calls Try.prog 16 #[.agg #[.int .i64 e.cr.r, .int .i64 e.cr.e, .int .i64 e.cr.s, .int .i64 e.cr.g, .int .i64 e.cr.h], .int .i64 (e.i 2), .int .i64 (e.i 3)] W (ends (execF e.cr (e.i 2) (e.i 3)) W) := rexec_calls e.cr.r e.cr.e e.cr.s e.cr.g e.cr.h (e.i 2) (e.i 3) W
  rw [HE.out] at hc
  have Hc := hide hc
  clear hc
  go_wp2_with fail
  refine Hc.out.mono ?_
  clear c0 c1 c2 c3 c4 c5 c6 c7 c8 k6 k12 k26 b0
  rintro x W2 ⟨rfl, hg2⟩
  have HA2 := hide (HA.out.gr' hg2)
  have c0 : W2.cell? ⟨pk, 0, none⟩ = some (.int .i64 e.pid) := HA2.out.p.cell 0
  have c6 : W2.cell? ⟨pk, 6, none⟩ = some (.int .i64 why) := HA2.out.p.cell 6
  have c7 : W2.cell? ⟨pk, 7, none⟩ = some (.bool nt) := HA2.out.p.cell 7
  have c8 : W2.cell? ⟨pk, 8, none⟩ = some (.bool true) := HA2.out.p.cell 8
  clear hg2 Hc k33 k34
  go_upto_if 83 with (fail)
  have HA3 := hide (HA2.out.gr' (only_alloc (only_refl W2 none) (.cells #[.int .i64 R.r, .int .i64 R.e, .int .i64 R.s, .int .i64 R.g, .int .i64 R.h] 28)))
  have hB3 := Blk.new W2 28 #[.int .i64 R.r, .int .i64 R.e, .int .i64 R.s, .int .i64 R.g, .int .i64 R.h]
  have hkl : pk < W2.heap.size := HA2.out.p.lt
  have hne : W2.heap.size ≠ pk := by omega
  have hbl : b < W2.heap.size := HA2.out.tab.blk.lt
  clear c0 c6 c7 c8 hkl hbl HA2
  generalize W2.alloc (.cells #[.int .i64 R.r, .int .i64 R.e, .int .i64 R.s, .int .i64 R.g, .int .i64 R.h] 28) = W3 at HA3 hB3 ⊢
  generalize W2.heap.size = rb at hB3 hne ⊢
  have r0 : W3.cell? ⟨rb, 0, none⟩ = some (.int .i64 R.r) := hB3.cell 0
  have r1 : W3.cell? ⟨rb, 1, none⟩ = some (.int .i64 R.e) := hB3.cell 1
  have r2 : W3.cell? ⟨rb, 2, none⟩ = some (.int .i64 R.s) := hB3.cell 2
  have r3 : W3.cell? ⟨rb, 3, none⟩ = some (.int .i64 R.g) := hB3.cell 3
  have r4 : W3.cell? ⟨rb, 4, none⟩ = some (.int .i64 R.h) := hB3.cell 4
  have c0 : W3.cell? ⟨pk, 0, none⟩ = some (.int .i64 e.pid) := HA3.out.p.cell 0
  have c1 : W3.cell? ⟨pk, 1, none⟩ = some (.int .i64 e.cr.r) := HA3.out.p.cell 1
  have c2 : W3.cell? ⟨pk, 2, none⟩ = some (.int .i64 e.cr.e) := HA3.out.p.cell 2
  have c3 : W3.cell? ⟨pk, 3, none⟩ = some (.int .i64 e.cr.s) := HA3.out.p.cell 3
  have c4 : W3.cell? ⟨pk, 4, none⟩ = some (.int .i64 e.cr.g) := HA3.out.p.cell 4
  have c5 : W3.cell? ⟨pk, 5, none⟩ = some (.int .i64 e.cr.h) := HA3.out.p.cell 5
  have c6 : W3.cell? ⟨pk, 6, none⟩ = some (.int .i64 why) := HA3.out.p.cell 6
  have c7 : W3.cell? ⟨pk, 7, none⟩ = some (.bool nt) := HA3.out.p.cell 7
  have c8 : W3.cell? ⟨pk, 8, none⟩ = some (.bool true) := HA3.out.p.cell 8
  have zp : ∀ j, W3.frozen? ⟨pk, j, none⟩ = false := fun j => HA3.out.p.frozen j
  have hpl : pk < W3.heap.size := HA3.out.p.lt
  have hrl : rb < W3.heap.size := hB3.lt
  clear hB3
  go_wp2_with fail
  have HA4 := hide ((HA3.out.cred_ R).nt_ false)
  clear c0 c1 c2 c3 c4 c5 c6 c7 c8 r0 r1 r2 r3 r4 zp hpl hrl HA HA3 hne
  generalize ((((((W3.setCell ⟨pk, 1, none⟩ (.int .i64 R.r)).setCell ⟨pk, 2, none⟩ (.int .i64 R.e)).setCell ⟨pk, 3, none⟩ (.int .i64 R.s)).setCell ⟨pk, 4, none⟩ (.int .i64 R.g)).setCell ⟨pk, 5, none⟩ (.int .i64 R.h)).setCell ⟨pk, 7, none⟩ (.bool false)) = W4 at HA4 ⊢
  have hqs : QS b pk (.slice (some ⟨g, off, none⟩) r.L.length cap) (⟨e.pid, ⟨R, why, false, true⟩⟩ : Pr) W4.drew := ⟨HA4.out.tab.blk.cell 0, RowAt.of (Blk.drew HA4.out.p)⟩
  refine wp_region_perm [0, 1, 2, 3, 4, 5, 6] [7] (by kernel_rfl) (by kernel_rfl) (QS b pk (.slice (some ⟨g, off, none⟩) r.L.length cap) (⟨e.pid, ⟨R, why, false, true⟩⟩ : Pr)) hqs ?_
  simp only [pick, List.getElem?_cons_zero, List.getElem?_cons_succ]
  iterate 7
    refine wpTake_cons ?_ (by rfl) ?_ ?_
    rotate_left
    · (intro W9 hSW; obtain ⟨hS1, j0, j1, j2, j3, j4, j5, j6, j7, j8⟩ := hSW; go_simp; try with_reducible rfl)
    simp only [Act.put, List.setIfInBounds_toArray, List.set_cons_zero, List.set_cons_succ]
  refine wpTake_nil ?_
  refine wpForce_one ?_
  obtain ⟨hf, hth⟩ := HA4.out.put rfl Hn.out 1
  have Hf := hide hf
  clear hf
  refine wpList_store_mid rfl 52 _ _ rfl g (off + n * 9) (⟨e.pid, ⟨R, why, false, true⟩⟩ : Pr).cells.toArray (by rfl) (by rfl) hth (by rw [show (⟨e.pid, ⟨R, why, false, true⟩⟩ : Pr).cells.toArray.size = 9 from rfl]; kernel_rfl) (all_oneCell_toArray (fun y hy => pcs_one [(⟨e.pid, ⟨R, why, false, true⟩⟩ : Pr)] y (by simpa [pcs] using hy))) ?_
  refine wpList_nil ?_
  refine NoPanic.normal ?_
  go_wp2
  go_ret
  exact ⟨rfl, Hf.out⟩

end Go.Proofs.Ytolmpejaakpikaa
