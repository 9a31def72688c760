/- The document's well: forks, exits, notes, takes. -/
import Derived.Test.YtolmpejaakpikaaR
import Derived.Test.YtolmpejaakpikaaI
set_option linter.all false
namespace Go.Proofs.Ytolmpejaakpikaa
open Go.RowKit Go.Maps
set_option maxRecDepth 100000

theorem RTo.from_ {w W w' : World} {b : Nat} {v : Value} {r r' : RS} (hg : w.grownBy W none) (hv : RAt w b v r) (h : RTo W w' b (rOwn b v) r') : RTo w w' b (rOwn b v) r' := by
  obtain ⟨v', h1, h2, h3⟩ := h
  exact ⟨v', h1, fun k hk => (h2 k hk).imp id (fun e => Nat.le_trans hg.size e), (Chg.of_grown hg (fun _ h => by cases h) : Chg (rOwn b v) w W).trans h3 (fun _ _ h => h)⟩
def forkWhy (pid why : Int) : Int := if pid = 1 then 2 else why
def del (L : List Pr) (k : Nat) : List Pr := L.take k ++ L.drop (k + 1)
theorem pcs_del (L : List Pr) (k : Nat) : (pcs L).take (k * 9) ++ (pcs L).drop ((k + 1) * 9) = pcs (del L k) := by
  rw [pcs_take, pcs_drop, ← pcs_append]; rfl
theorem tail_src {w : World} {L : List Pr} {g off cap k : Nat} {ya : Option Addr} (h : PrsIs w 52 (.slice (some ⟨g, off, none⟩) L.length cap) L) (hk : k < L.length) (hcap : L.length ≤ cap) (hya : ya = (if cap = k + 1 then some (⟨g, off, none⟩ : Addr) else some ⟨g, off + (k + 1) * 9, none⟩)) :
    Src Try.prog 9 53 (.slice ya (L.length - (k + 1)) (cap - (k + 1))) (L.length - (k + 1)) ((pcs L).drop ((k + 1) * 9)) w := by
  subst hya
  by_cases hc : cap = k + 1
  · rw [if_pos hc]
    have e1 : L.length - (k + 1) = 0 := by omega
    have e2 : cap - (k + 1) = 0 := by omega
    have e3 : (pcs L).drop ((k + 1) * 9) = [] := List.drop_eq_nil_of_le (by rw [pcs_length]; omega)
    rw [e1, e2, e3]
    exact Own.src (e' := 52) (Own.empty h) (by kernel_rfl) (by simp)
  · rw [if_neg hc]
    exact Own.src (e' := 52) (h.from_ (k + 1) (by omega)) (by kernel_rfl) (fun u hu => pcs_one L u (List.mem_of_mem_drop hu))

set_option maxHeartbeats 2000000 in
theorem rwell_fork_bad (b : Nat) (v : Value) (r : RS) (e : Ev) (w : World) (h : RAt w b v r) (n : Nat) (why : Int) (nt pv : Bool) (hi : idx r.L e.pid = some n) (hs : r.L[n]? = some (⟨e.pid, ⟨e.cr, why, nt, pv⟩⟩ : Pr)) (hr : e.cr.e ≠ 0 ∨ (e.cr.e = 0 ∧ why ≠ 0) ∨ (e.cr.e = 0 ∧ why = 0 ∧ pv = true)) (he : e.err = 0) (hop : e.cl.op = 18) (hl : e.an < 2 ∨ e.an ≤ r.last) :
    Calls Try.prog 10 #[.pointer (some ⟨b, 0, none⟩), .agg e.cells] w fun x w' => x = .returned (.bool false) ∧ w.grownBy w' none := by
  have hn : n < r.L.length := (idx_some hi).1
  have hlen := h.len
  obtain ⟨g, off, cap, hv, hcap, hcm, hgl⟩ := h.prs.at h.pos
  subst hv
  obtain ⟨w0, hw0⟩ : ∃ w0, w.alloc (.cells e.cells 40) = w0 := ⟨_, rfl⟩
  have hB := Blk.new w 40 e.cells
  have hG := only_alloc (only_refl w none) (.cells e.cells 40)
  have hT := h.gr hG
  have hbl := h.blk.lt
  rw [hw0] at hB hG hT
  have hsz : w0.heap.size = w.heap.size + 1 := by rw [← hw0, World.size_alloc]
  have hat := rat_any b _ r e.pid w0 hT
  rw [hi] at hat
  obtain ⟨d0, d1, d2, d3, d4, d5, d6, d7, d8⟩ := hT.prs.c rfl hn hs
  have a0 : w0.cell? ⟨b, 0, none⟩ = some (.slice (some ⟨g, off, none⟩) r.L.length cap) := hT.blk.cell 0
  have g0 : w0.cell? ⟨w.heap.size, 0, none⟩ = some (.int .i64 e.pid) := hB.cell 0
  have g1 : w0.cell? ⟨w.heap.size, 1, none⟩ = some (.int .i64 e.cr.r) := hB.cell 1
  have g2 : w0.cell? ⟨w.heap.size, 2, none⟩ = some (.int .i64 e.cr.e) := hB.cell 2
  have g3 : w0.cell? ⟨w.heap.size, 3, none⟩ = some (.int .i64 e.cr.s) := hB.cell 3
  have g4 : w0.cell? ⟨w.heap.size, 4, none⟩ = some (.int .i64 e.cr.g) := hB.cell 4
  have g5 : w0.cell? ⟨w.heap.size, 5, none⟩ = some (.int .i64 e.cr.h) := hB.cell 5
  have i0 : decide ((n : Int) < 0) = false := by simp
  have i1 : (0 : Int) ≤ n ∧ (n : Int) < (r.L.length : Int) := by omega
  have hbl0 : b < w0.heap.size := by omega
  have Hr := hide hr
  clear hr
  have q0 : (e.err != 0) = false := by simpa using he
  have q18 : (e.cl.op == 18) = true := by simpa using hop
  have H := hide h
  have HB := hide hB
  have HG := hide hG
  have HT := hide hT
  have Hat := hide hat
  have Hn := hide hn
  obtain ⟨CC, hCC⟩ : ∃ CC, e.cells = CC := ⟨_, rfl⟩
  rw [hCC] at hw0 ⊢
  clear hB hG hT h hat hi hs hcap hcm hgl hn hlen
  go_enter Try.func10, Try.ntmps10
  go_wp2_with fail
  refine Hat.out.mono ?_
  rintro x1 w1 ⟨rfl, rfl⟩
  simp only [oi]
  rcases Hr.out with a6 | ⟨a6, a7⟩ | ⟨a6, a7, a8⟩
  · have A6 : (e.cr.e == 0) = false := by simpa using a6
    clear Hr a6
    go_wp2_with fail
    go_quiet (fail)
    go_upto_if 52 with (fail)
    have hA := RA.start nq (⟨e.pid, ⟨e.cr, why, nt, pv⟩⟩ : Pr) H.out HB.out HT.out HG.out hsz
    rw [hsz] at hA
    simp only [Pr.cells] at hA
    clear hsz hbl hbl0 hw0 d0 d1 d2 d3 d4 d5 d6 d7 d8 g0 g1 g2 g3 g4 g5 a0
    generalize (w0.drewN nq).alloc (.cells #[.int .i64 e.pid, .int .i64 e.cr.r, .int .i64 e.cr.e, .int .i64 e.cr.s, .int .i64 e.cr.g, .int .i64 e.cr.h, .int .i64 why, .bool nt, .bool pv] 52) = W, w.heap.size + 1 = pk at hA ⊢
    generalize w.heap.size = eb at hA ⊢
    have HA := hide hA
    have c0 : W.cell? ⟨pk, 0, none⟩ = some (.int .i64 e.pid) := hA.p.cell 0
    have c2 : W.cell? ⟨pk, 2, none⟩ = some (.int .i64 e.cr.e) := hA.p.cell 2
    have c6 : W.cell? ⟨pk, 6, none⟩ = some (.int .i64 why) := hA.p.cell 6
    have c7 : W.cell? ⟨pk, 7, none⟩ = some (.bool nt) := hA.p.cell 7
    have c8 : W.cell? ⟨pk, 8, none⟩ = some (.bool pv) := hA.p.cell 8
    have c1 : W.cell? ⟨pk, 1, none⟩ = some (.int .i64 e.cr.r) := hA.p.cell 1
    have c3 : W.cell? ⟨pk, 3, none⟩ = some (.int .i64 e.cr.s) := hA.p.cell 3
    have c4 : W.cell? ⟨pk, 4, none⟩ = some (.int .i64 e.cr.g) := hA.p.cell 4
    have c5 : W.cell? ⟨pk, 5, none⟩ = some (.int .i64 e.cr.h) := hA.p.cell 5
    have k6 : W.cell? ⟨eb, 6, none⟩ = some (.int .i64 e.cl.op) := hA.ev.cell 6
    have k12 : W.cell? ⟨eb, 12, none⟩ = some (.int .i64 e.cl.n) := hA.ev.cell 12
    have k26 : W.cell? ⟨eb, 26, none⟩ = some (.int .i64 e.err) := hA.ev.cell 26
    have b0 : W.cell? ⟨b, 0, none⟩ = some (.slice (some ⟨g, off, none⟩) r.L.length cap) := hA.tab.blk.cell 0
    clear hA
    have hc := rfork_bad b _ r (⟨e.pid, ⟨e.cr, why, nt, pv⟩⟩ : Pr) e W HA.out.tab hl
    rw [hCC] at hc
    simp only [Pr.agg] at hc
    have Hc := hide hc
    clear hc
    go_wp2_with (refine wpList_loadEv rfl _ rfl HA.out.ev rfl ?_)
    refine Hc.out.mono ?_
    rintro x w2 ⟨rfl, hg2⟩
    have HG2 := hide (only_trans HA.out.gr hg2)
    clear hg2 Hc
    clear c0 c1 c2 c3 c4 c5 c6 c7 c8 k6 k12 k26
    go_wp2
    go_ret
    exact ⟨rfl, HG2.out⟩
  · have A6 : (e.cr.e == 0) = true := by simpa using a6
    have A7 : (why == 0) = false := by simpa using a7
    clear Hr a6 a7
    go_wp2_with fail
    go_quiet (fail)
    go_upto_if 52 with (fail)
    have hA := RA.start nq (⟨e.pid, ⟨e.cr, why, nt, pv⟩⟩ : Pr) H.out HB.out HT.out HG.out hsz
    rw [hsz] at hA
    simp only [Pr.cells] at hA
    clear hsz hbl hbl0 hw0 d0 d1 d2 d3 d4 d5 d6 d7 d8 g0 g1 g2 g3 g4 g5 a0
    generalize (w0.drewN nq).alloc (.cells #[.int .i64 e.pid, .int .i64 e.cr.r, .int .i64 e.cr.e, .int .i64 e.cr.s, .int .i64 e.cr.g, .int .i64 e.cr.h, .int .i64 why, .bool nt, .bool pv] 52) = W, w.heap.size + 1 = pk at hA ⊢
    generalize w.heap.size = eb at hA ⊢
    have HA := hide hA
    have c0 : W.cell? ⟨pk, 0, none⟩ = some (.int .i64 e.pid) := hA.p.cell 0
    have c2 : W.cell? ⟨pk, 2, none⟩ = some (.int .i64 e.cr.e) := hA.p.cell 2
    have c6 : W.cell? ⟨pk, 6, none⟩ = some (.int .i64 why) := hA.p.cell 6
    have c7 : W.cell? ⟨pk, 7, none⟩ = some (.bool nt) := hA.p.cell 7
    have c8 : W.cell? ⟨pk, 8, none⟩ = some (.bool pv) := hA.p.cell 8
    have c1 : W.cell? ⟨pk, 1, none⟩ = some (.int .i64 e.cr.r) := hA.p.cell 1
    have c3 : W.cell? ⟨pk, 3, none⟩ = some (.int .i64 e.cr.s) := hA.p.cell 3
    have c4 : W.cell? ⟨pk, 4, none⟩ = some (.int .i64 e.cr.g) := hA.p.cell 4
    have c5 : W.cell? ⟨pk, 5, none⟩ = some (.int .i64 e.cr.h) := hA.p.cell 5
    have k6 : W.cell? ⟨eb, 6, none⟩ = some (.int .i64 e.cl.op) := hA.ev.cell 6
    have k12 : W.cell? ⟨eb, 12, none⟩ = some (.int .i64 e.cl.n) := hA.ev.cell 12
    have k26 : W.cell? ⟨eb, 26, none⟩ = some (.int .i64 e.err) := hA.ev.cell 26
    have b0 : W.cell? ⟨b, 0, none⟩ = some (.slice (some ⟨g, off, none⟩) r.L.length cap) := hA.tab.blk.cell 0
    clear hA
    have hc := rfork_bad b _ r (⟨e.pid, ⟨e.cr, why, nt, pv⟩⟩ : Pr) e W HA.out.tab hl
    rw [hCC] at hc
    simp only [Pr.agg] at hc
    have Hc := hide hc
    clear hc
    go_wp2_with (refine wpList_loadEv rfl _ rfl HA.out.ev rfl ?_)
    refine Hc.out.mono ?_
    rintro x w2 ⟨rfl, hg2⟩
    have HG2 := hide (only_trans HA.out.gr hg2)
    clear hg2 Hc
    clear c0 c1 c2 c3 c4 c5 c6 c7 c8 k6 k12 k26
    go_wp2
    go_ret
    exact ⟨rfl, HG2.out⟩
  · subst a8
    have A6 : (e.cr.e == 0) = true := by simpa using a6
    have A7 : (why == 0) = true := by simpa using a7
    clear Hr a6 a7
    go_wp2_with fail
    go_quiet (fail)
    go_upto_if 52 with (fail)
    have hA := RA.start nq (⟨e.pid, ⟨e.cr, why, nt, true⟩⟩ : Pr) H.out HB.out HT.out HG.out hsz
    rw [hsz] at hA
    simp only [Pr.cells] at hA
    clear hsz hbl hbl0 hw0 d0 d1 d2 d3 d4 d5 d6 d7 d8 g0 g1 g2 g3 g4 g5 a0
    generalize (w0.drewN nq).alloc (.cells #[.int .i64 e.pid, .int .i64 e.cr.r, .int .i64 e.cr.e, .int .i64 e.cr.s, .int .i64 e.cr.g, .int .i64 e.cr.h, .int .i64 why, .bool nt, .bool true] 52) = W, w.heap.size + 1 = pk at hA ⊢
    generalize w.heap.size = eb at hA ⊢
    have HA := hide hA
    have c0 : W.cell? ⟨pk, 0, none⟩ = some (.int .i64 e.pid) := hA.p.cell 0
    have c2 : W.cell? ⟨pk, 2, none⟩ = some (.int .i64 e.cr.e) := hA.p.cell 2
    have c6 : W.cell? ⟨pk, 6, none⟩ = some (.int .i64 why) := hA.p.cell 6
    have c7 : W.cell? ⟨pk, 7, none⟩ = some (.bool nt) := hA.p.cell 7
    have c8 : W.cell? ⟨pk, 8, none⟩ = some (.bool true) := hA.p.cell 8
    have c1 : W.cell? ⟨pk, 1, none⟩ = some (.int .i64 e.cr.r) := hA.p.cell 1
    have c3 : W.cell? ⟨pk, 3, none⟩ = some (.int .i64 e.cr.s) := hA.p.cell 3
    have c4 : W.cell? ⟨pk, 4, none⟩ = some (.int .i64 e.cr.g) := hA.p.cell 4
    have c5 : W.cell? ⟨pk, 5, none⟩ = some (.int .i64 e.cr.h) := hA.p.cell 5
    have k6 : W.cell? ⟨eb, 6, none⟩ = some (.int .i64 e.cl.op) := hA.ev.cell 6
    have k12 : W.cell? ⟨eb, 12, none⟩ = some (.int .i64 e.cl.n) := hA.ev.cell 12
    have k26 : W.cell? ⟨eb, 26, none⟩ = some (.int .i64 e.err) := hA.ev.cell 26
    have b0 : W.cell? ⟨b, 0, none⟩ = some (.slice (some ⟨g, off, none⟩) r.L.length cap) := hA.tab.blk.cell 0
    clear hA
    have hc := rfork_bad b _ r (⟨e.pid, ⟨e.cr, why, nt, true⟩⟩ : Pr) e W HA.out.tab hl
    rw [hCC] at hc
    simp only [Pr.agg] at hc
    have Hc := hide hc
    clear hc
    go_wp2_with (refine wpList_loadEv rfl _ rfl HA.out.ev rfl ?_)
    refine Hc.out.mono ?_
    rintro x w2 ⟨rfl, hg2⟩
    have HG2 := hide (only_trans HA.out.gr hg2)
    clear hg2 Hc
    clear c0 c1 c2 c3 c4 c5 c6 c7 c8 k6 k12 k26
    go_wp2
    go_ret
    exact ⟨rfl, HG2.out⟩

set_option maxHeartbeats 2000000 in
theorem rwell_fork_ok (b : Nat) (v : Value) (r : RS) (e : Ev) (w : World) (h : RAt w b v r) (n : Nat) (why : Int) (nt pv : Bool) (hi : idx r.L e.pid = some n) (hs : r.L[n]? = some (⟨e.pid, ⟨e.cr, why, nt, pv⟩⟩ : Pr)) (hr : e.cr.e ≠ 0 ∨ (e.cr.e = 0 ∧ why ≠ 0) ∨ (e.cr.e = 0 ∧ why = 0 ∧ pv = true)) (he : e.err = 0) (hop : e.cl.op = 18) (hl : r.last < e.an) (h2 : 2 ≤ e.an) (hlen2 : r.L.length < 1000000) :
    Calls Try.prog 10 #[.pointer (some ⟨b, 0, none⟩), .agg e.cells] w fun x w' => x = .returned (.bool true) ∧ RTo w w' b (rOwn b v) ⟨r.L ++ [⟨e.an, ⟨e.cr, forkWhy e.pid why, false, pv⟩⟩], e.an⟩ := by
  have hn : n < r.L.length := (idx_some hi).1
  have hlen := h.len
  obtain ⟨g, off, cap, hv, hcap, hcm, hgl⟩ := h.prs.at h.pos
  subst hv
  obtain ⟨w0, hw0⟩ : ∃ w0, w.alloc (.cells e.cells 40) = w0 := ⟨_, rfl⟩
  have hB := Blk.new w 40 e.cells
  have hG := only_alloc (only_refl w none) (.cells e.cells 40)
  have hT := h.gr hG
  have hbl := h.blk.lt
  rw [hw0] at hB hG hT
  have hsz : w0.heap.size = w.heap.size + 1 := by rw [← hw0, World.size_alloc]
  have hat := rat_any b _ r e.pid w0 hT
  rw [hi] at hat
  obtain ⟨d0, d1, d2, d3, d4, d5, d6, d7, d8⟩ := hT.prs.c rfl hn hs
  have a0 : w0.cell? ⟨b, 0, none⟩ = some (.slice (some ⟨g, off, none⟩) r.L.length cap) := hT.blk.cell 0
  have g0 : w0.cell? ⟨w.heap.size, 0, none⟩ = some (.int .i64 e.pid) := hB.cell 0
  have g1 : w0.cell? ⟨w.heap.size, 1, none⟩ = some (.int .i64 e.cr.r) := hB.cell 1
  have g2 : w0.cell? ⟨w.heap.size, 2, none⟩ = some (.int .i64 e.cr.e) := hB.cell 2
  have g3 : w0.cell? ⟨w.heap.size, 3, none⟩ = some (.int .i64 e.cr.s) := hB.cell 3
  have g4 : w0.cell? ⟨w.heap.size, 4, none⟩ = some (.int .i64 e.cr.g) := hB.cell 4
  have g5 : w0.cell? ⟨w.heap.size, 5, none⟩ = some (.int .i64 e.cr.h) := hB.cell 5
  have i0 : decide ((n : Int) < 0) = false := by simp
  have i1 : (0 : Int) ≤ n ∧ (n : Int) < (r.L.length : Int) := by omega
  have hbl0 : b < w0.heap.size := by omega
  have Hr := hide hr
  clear hr
  have q0 : (e.err != 0) = false := by simpa using he
  have q18 : (e.cl.op == 18) = true := by simpa using hop
  have H := hide h
  have HB := hide hB
  have HG := hide hG
  have HT := hide hT
  have Hat := hide hat
  have Hn := hide hn
  obtain ⟨CC, hCC⟩ : ∃ CC, e.cells = CC := ⟨_, rfl⟩
  rw [hCC] at hw0 ⊢
  clear hB hG hT h hat hi hs hcap hcm hgl hn hlen
  go_enter Try.func10, Try.ntmps10
  go_wp2_with fail
  refine Hat.out.mono ?_
  rintro x1 w1 ⟨rfl, rfl⟩
  simp only [oi]
  rcases Hr.out with a6 | ⟨a6, a7⟩ | ⟨a6, a7, a8⟩
  · have A6 : (e.cr.e == 0) = false := by simpa using a6
    clear Hr a6
    go_wp2_with fail
    go_quiet (fail)
    go_upto_if 52 with (fail)
    have hA := RA.start nq (⟨e.pid, ⟨e.cr, why, nt, pv⟩⟩ : Pr) H.out HB.out HT.out HG.out hsz
    rw [hsz] at hA
    simp only [Pr.cells] at hA
    clear hsz hbl hbl0 hw0 d0 d1 d2 d3 d4 d5 d6 d7 d8 g0 g1 g2 g3 g4 g5 a0
    generalize (w0.drewN nq).alloc (.cells #[.int .i64 e.pid, .int .i64 e.cr.r, .int .i64 e.cr.e, .int .i64 e.cr.s, .int .i64 e.cr.g, .int .i64 e.cr.h, .int .i64 why, .bool nt, .bool pv] 52) = W, w.heap.size + 1 = pk at hA ⊢
    generalize w.heap.size = eb at hA ⊢
    have HA := hide hA
    have c0 : W.cell? ⟨pk, 0, none⟩ = some (.int .i64 e.pid) := hA.p.cell 0
    have c2 : W.cell? ⟨pk, 2, none⟩ = some (.int .i64 e.cr.e) := hA.p.cell 2
    have c6 : W.cell? ⟨pk, 6, none⟩ = some (.int .i64 why) := hA.p.cell 6
    have c7 : W.cell? ⟨pk, 7, none⟩ = some (.bool nt) := hA.p.cell 7
    have c8 : W.cell? ⟨pk, 8, none⟩ = some (.bool pv) := hA.p.cell 8
    have c1 : W.cell? ⟨pk, 1, none⟩ = some (.int .i64 e.cr.r) := hA.p.cell 1
    have c3 : W.cell? ⟨pk, 3, none⟩ = some (.int .i64 e.cr.s) := hA.p.cell 3
    have c4 : W.cell? ⟨pk, 4, none⟩ = some (.int .i64 e.cr.g) := hA.p.cell 4
    have c5 : W.cell? ⟨pk, 5, none⟩ = some (.int .i64 e.cr.h) := hA.p.cell 5
    have k6 : W.cell? ⟨eb, 6, none⟩ = some (.int .i64 e.cl.op) := hA.ev.cell 6
    have k12 : W.cell? ⟨eb, 12, none⟩ = some (.int .i64 e.cl.n) := hA.ev.cell 12
    have k26 : W.cell? ⟨eb, 26, none⟩ = some (.int .i64 e.err) := hA.ev.cell 26
    have b0 : W.cell? ⟨b, 0, none⟩ = some (.slice (some ⟨g, off, none⟩) r.L.length cap) := hA.tab.blk.cell 0
    clear hA
    have hc : Calls Try.prog 15 #[.pointer (some ⟨b, 0, none⟩), (⟨e.pid, ⟨e.cr, why, nt, pv⟩⟩ : Pr).agg, .agg e.cells] W fun x w' => x = .returned (.bool true) ∧ RTo W w' b (rOwn b (.slice (some ⟨g, off, none⟩) r.L.length cap)) ⟨r.L ++ [⟨e.an, ⟨e.cr, forkWhy e.pid why, false, pv⟩⟩], e.an⟩ := by
      unfold forkWhy
      by_cases h1 : e.pid = 1
      · rw [if_pos h1]
        exact rfork_one b _ r (⟨e.pid, ⟨e.cr, why, nt, pv⟩⟩ : Pr) e W HA.out.tab hl h2 hlen2 (by simpa using h1)
      · rw [if_neg h1]
        exact rfork_other b _ r (⟨e.pid, ⟨e.cr, why, nt, pv⟩⟩ : Pr) e W HA.out.tab hl h2 hlen2 (by simpa using h1)
    rw [hCC] at hc
    simp only [Pr.agg] at hc
    have Hc := hide hc
    clear hc
    go_wp2_with (refine wpList_loadEv rfl _ rfl HA.out.ev rfl ?_)
    refine Hc.out.mono ?_
    rintro x w2 ⟨rfl, hr2⟩
    have HG2 := hide (RTo.from_ HA.out.gr H.out hr2)
    clear hr2 Hc
    clear c0 c1 c2 c3 c4 c5 c6 c7 c8 k6 k12 k26
    go_wp2
    go_ret
    exact ⟨rfl, HG2.out⟩
  · have A6 : (e.cr.e == 0) = true := by simpa using a6
    have A7 : (why == 0) = false := by simpa using a7
    clear Hr a6 a7
    go_wp2_with fail
    go_quiet (fail)
    go_upto_if 52 with (fail)
    have hA := RA.start nq (⟨e.pid, ⟨e.cr, why, nt, pv⟩⟩ : Pr) H.out HB.out HT.out HG.out hsz
    rw [hsz] at hA
    simp only [Pr.cells] at hA
    clear hsz hbl hbl0 hw0 d0 d1 d2 d3 d4 d5 d6 d7 d8 g0 g1 g2 g3 g4 g5 a0
    generalize (w0.drewN nq).alloc (.cells #[.int .i64 e.pid, .int .i64 e.cr.r, .int .i64 e.cr.e, .int .i64 e.cr.s, .int .i64 e.cr.g, .int .i64 e.cr.h, .int .i64 why, .bool nt, .bool pv] 52) = W, w.heap.size + 1 = pk at hA ⊢
    generalize w.heap.size = eb at hA ⊢
    have HA := hide hA
    have c0 : W.cell? ⟨pk, 0, none⟩ = some (.int .i64 e.pid) := hA.p.cell 0
    have c2 : W.cell? ⟨pk, 2, none⟩ = some (.int .i64 e.cr.e) := hA.p.cell 2
    have c6 : W.cell? ⟨pk, 6, none⟩ = some (.int .i64 why) := hA.p.cell 6
    have c7 : W.cell? ⟨pk, 7, none⟩ = some (.bool nt) := hA.p.cell 7
    have c8 : W.cell? ⟨pk, 8, none⟩ = some (.bool pv) := hA.p.cell 8
    have c1 : W.cell? ⟨pk, 1, none⟩ = some (.int .i64 e.cr.r) := hA.p.cell 1
    have c3 : W.cell? ⟨pk, 3, none⟩ = some (.int .i64 e.cr.s) := hA.p.cell 3
    have c4 : W.cell? ⟨pk, 4, none⟩ = some (.int .i64 e.cr.g) := hA.p.cell 4
    have c5 : W.cell? ⟨pk, 5, none⟩ = some (.int .i64 e.cr.h) := hA.p.cell 5
    have k6 : W.cell? ⟨eb, 6, none⟩ = some (.int .i64 e.cl.op) := hA.ev.cell 6
    have k12 : W.cell? ⟨eb, 12, none⟩ = some (.int .i64 e.cl.n) := hA.ev.cell 12
    have k26 : W.cell? ⟨eb, 26, none⟩ = some (.int .i64 e.err) := hA.ev.cell 26
    have b0 : W.cell? ⟨b, 0, none⟩ = some (.slice (some ⟨g, off, none⟩) r.L.length cap) := hA.tab.blk.cell 0
    clear hA
    have hc : Calls Try.prog 15 #[.pointer (some ⟨b, 0, none⟩), (⟨e.pid, ⟨e.cr, why, nt, pv⟩⟩ : Pr).agg, .agg e.cells] W fun x w' => x = .returned (.bool true) ∧ RTo W w' b (rOwn b (.slice (some ⟨g, off, none⟩) r.L.length cap)) ⟨r.L ++ [⟨e.an, ⟨e.cr, forkWhy e.pid why, false, pv⟩⟩], e.an⟩ := by
      unfold forkWhy
      by_cases h1 : e.pid = 1
      · rw [if_pos h1]
        exact rfork_one b _ r (⟨e.pid, ⟨e.cr, why, nt, pv⟩⟩ : Pr) e W HA.out.tab hl h2 hlen2 (by simpa using h1)
      · rw [if_neg h1]
        exact rfork_other b _ r (⟨e.pid, ⟨e.cr, why, nt, pv⟩⟩ : Pr) e W HA.out.tab hl h2 hlen2 (by simpa using h1)
    rw [hCC] at hc
    simp only [Pr.agg] at hc
    have Hc := hide hc
    clear hc
    go_wp2_with (refine wpList_loadEv rfl _ rfl HA.out.ev rfl ?_)
    refine Hc.out.mono ?_
    rintro x w2 ⟨rfl, hr2⟩
    have HG2 := hide (RTo.from_ HA.out.gr H.out hr2)
    clear hr2 Hc
    clear c0 c1 c2 c3 c4 c5 c6 c7 c8 k6 k12 k26
    go_wp2
    go_ret
    exact ⟨rfl, HG2.out⟩
  · subst a8
    have A6 : (e.cr.e == 0) = true := by simpa using a6
    have A7 : (why == 0) = true := by simpa using a7
    clear Hr a6 a7
    go_wp2_with fail
    go_quiet (fail)
    go_upto_if 52 with (fail)
    have hA := RA.start nq (⟨e.pid, ⟨e.cr, why, nt, true⟩⟩ : Pr) H.out HB.out HT.out HG.out hsz
    rw [hsz] at hA
    simp only [Pr.cells] at hA
    clear hsz hbl hbl0 hw0 d0 d1 d2 d3 d4 d5 d6 d7 d8 g0 g1 g2 g3 g4 g5 a0
    generalize (w0.drewN nq).alloc (.cells #[.int .i64 e.pid, .int .i64 e.cr.r, .int .i64 e.cr.e, .int .i64 e.cr.s, .int .i64 e.cr.g, .int .i64 e.cr.h, .int .i64 why, .bool nt, .bool true] 52) = W, w.heap.size + 1 = pk at hA ⊢
    generalize w.heap.size = eb at hA ⊢
    have HA := hide hA
    have c0 : W.cell? ⟨pk, 0, none⟩ = some (.int .i64 e.pid) := hA.p.cell 0
    have c2 : W.cell? ⟨pk, 2, none⟩ = some (.int .i64 e.cr.e) := hA.p.cell 2
    have c6 : W.cell? ⟨pk, 6, none⟩ = some (.int .i64 why) := hA.p.cell 6
    have c7 : W.cell? ⟨pk, 7, none⟩ = some (.bool nt) := hA.p.cell 7
    have c8 : W.cell? ⟨pk, 8, none⟩ = some (.bool true) := hA.p.cell 8
    have c1 : W.cell? ⟨pk, 1, none⟩ = some (.int .i64 e.cr.r) := hA.p.cell 1
    have c3 : W.cell? ⟨pk, 3, none⟩ = some (.int .i64 e.cr.s) := hA.p.cell 3
    have c4 : W.cell? ⟨pk, 4, none⟩ = some (.int .i64 e.cr.g) := hA.p.cell 4
    have c5 : W.cell? ⟨pk, 5, none⟩ = some (.int .i64 e.cr.h) := hA.p.cell 5
    have k6 : W.cell? ⟨eb, 6, none⟩ = some (.int .i64 e.cl.op) := hA.ev.cell 6
    have k12 : W.cell? ⟨eb, 12, none⟩ = some (.int .i64 e.cl.n) := hA.ev.cell 12
    have k26 : W.cell? ⟨eb, 26, none⟩ = some (.int .i64 e.err) := hA.ev.cell 26
    have b0 : W.cell? ⟨b, 0, none⟩ = some (.slice (some ⟨g, off, none⟩) r.L.length cap) := hA.tab.blk.cell 0
    clear hA
    have hc : Calls Try.prog 15 #[.pointer (some ⟨b, 0, none⟩), (⟨e.pid, ⟨e.cr, why, nt, true⟩⟩ : Pr).agg, .agg e.cells] W fun x w' => x = .returned (.bool true) ∧ RTo W w' b (rOwn b (.slice (some ⟨g, off, none⟩) r.L.length cap)) ⟨r.L ++ [⟨e.an, ⟨e.cr, forkWhy e.pid why, false, true⟩⟩], e.an⟩ := by
      unfold forkWhy
      by_cases h1 : e.pid = 1
      · rw [if_pos h1]
        exact rfork_one b _ r (⟨e.pid, ⟨e.cr, why, nt, true⟩⟩ : Pr) e W HA.out.tab hl h2 hlen2 (by simpa using h1)
      · rw [if_neg h1]
        exact rfork_other b _ r (⟨e.pid, ⟨e.cr, why, nt, true⟩⟩ : Pr) e W HA.out.tab hl h2 hlen2 (by simpa using h1)
    rw [hCC] at hc
    simp only [Pr.agg] at hc
    have Hc := hide hc
    clear hc
    go_wp2_with (refine wpList_loadEv rfl _ rfl HA.out.ev rfl ?_)
    refine Hc.out.mono ?_
    rintro x w2 ⟨rfl, hr2⟩
    have HG2 := hide (RTo.from_ HA.out.gr H.out hr2)
    clear hr2 Hc
    clear c0 c1 c2 c3 c4 c5 c6 c7 c8 k6 k12 k26
    go_wp2
    go_ret
    exact ⟨rfl, HG2.out⟩

set_option maxHeartbeats 2000000 in
theorem rwell_exit_one (b : Nat) (v : Value) (r : RS) (e : Ev) (w : World) (h : RAt w b v r) (n : Nat) (why : Int) (nt pv : Bool) (hi : idx r.L e.pid = some n) (hs : r.L[n]? = some (⟨e.pid, ⟨e.cr, why, nt, pv⟩⟩ : Pr)) (hr : e.cr.e ≠ 0 ∨ (e.cr.e = 0 ∧ why ≠ 0) ∨ (e.cr.e = 0 ∧ why = 0 ∧ pv = true)) (he : e.err = 0) (hop : e.cl.op = 20) (hp : e.pid = 1) :
    Calls Try.prog 10 #[.pointer (some ⟨b, 0, none⟩), .agg e.cells] w fun x w' => x = .returned (.bool false) ∧ w.grownBy w' none := by
  have hn : n < r.L.length := (idx_some hi).1
  have hlen := h.len
  obtain ⟨g, off, cap, hv, hcap, hcm, hgl⟩ := h.prs.at h.pos
  subst hv
  obtain ⟨w0, hw0⟩ : ∃ w0, w.alloc (.cells e.cells 40) = w0 := ⟨_, rfl⟩
  have hB := Blk.new w 40 e.cells
  have hG := only_alloc (only_refl w none) (.cells e.cells 40)
  have hT := h.gr hG
  have hbl := h.blk.lt
  rw [hw0] at hB hG hT
  have hsz : w0.heap.size = w.heap.size + 1 := by rw [← hw0, World.size_alloc]
  have hat := rat_any b _ r e.pid w0 hT
  rw [hi] at hat
  obtain ⟨d0, d1, d2, d3, d4, d5, d6, d7, d8⟩ := hT.prs.c rfl hn hs
  have a0 : w0.cell? ⟨b, 0, none⟩ = some (.slice (some ⟨g, off, none⟩) r.L.length cap) := hT.blk.cell 0
  have g0 : w0.cell? ⟨w.heap.size, 0, none⟩ = some (.int .i64 e.pid) := hB.cell 0
  have g1 : w0.cell? ⟨w.heap.size, 1, none⟩ = some (.int .i64 e.cr.r) := hB.cell 1
  have g2 : w0.cell? ⟨w.heap.size, 2, none⟩ = some (.int .i64 e.cr.e) := hB.cell 2
  have g3 : w0.cell? ⟨w.heap.size, 3, none⟩ = some (.int .i64 e.cr.s) := hB.cell 3
  have g4 : w0.cell? ⟨w.heap.size, 4, none⟩ = some (.int .i64 e.cr.g) := hB.cell 4
  have g5 : w0.cell? ⟨w.heap.size, 5, none⟩ = some (.int .i64 e.cr.h) := hB.cell 5
  have i0 : decide ((n : Int) < 0) = false := by simp
  have i1 : (0 : Int) ≤ n ∧ (n : Int) < (r.L.length : Int) := by omega
  have hbl0 : b < w0.heap.size := by omega
  have Hr := hide hr
  clear hr
  have q0 : (e.err != 0) = false := by simpa using he
  have q18 : (e.cl.op == 18) = false := by simp; omega
  have q19 : (e.cl.op == 19) = false := by simp; omega
  have q20 : (e.cl.op == 20) = true := by simpa using hop
  have qp : (e.pid == 1) = true := by simpa using hp
  clear hp
  have H := hide h
  have HB := hide hB
  have HG := hide hG
  have HT := hide hT
  have Hat := hide hat
  have Hn := hide hn
  obtain ⟨CC, hCC⟩ : ∃ CC, e.cells = CC := ⟨_, rfl⟩
  rw [hCC] at hw0 ⊢
  clear hB hG hT h hat hi hs hcap hcm hgl hn hlen
  go_enter Try.func10, Try.ntmps10
  go_wp2_with fail
  refine Hat.out.mono ?_
  rintro x1 w1 ⟨rfl, rfl⟩
  simp only [oi]
  rcases Hr.out with a6 | ⟨a6, a7⟩ | ⟨a6, a7, a8⟩
  · have A6 : (e.cr.e == 0) = false := by simpa using a6
    clear Hr a6
    go_wp2_with fail
    go_quiet (fail)
    go_upto_if 52 with (fail)
    have hA := RA.start nq (⟨e.pid, ⟨e.cr, why, nt, pv⟩⟩ : Pr) H.out HB.out HT.out HG.out hsz
    rw [hsz] at hA
    simp only [Pr.cells] at hA
    clear hsz hbl hbl0 hw0 d0 d1 d2 d3 d4 d5 d6 d7 d8 g0 g1 g2 g3 g4 g5 a0
    generalize (w0.drewN nq).alloc (.cells #[.int .i64 e.pid, .int .i64 e.cr.r, .int .i64 e.cr.e, .int .i64 e.cr.s, .int .i64 e.cr.g, .int .i64 e.cr.h, .int .i64 why, .bool nt, .bool pv] 52) = W, w.heap.size + 1 = pk at hA ⊢
    generalize w.heap.size = eb at hA ⊢
    have HA := hide hA
    have c0 : W.cell? ⟨pk, 0, none⟩ = some (.int .i64 e.pid) := hA.p.cell 0
    have c2 : W.cell? ⟨pk, 2, none⟩ = some (.int .i64 e.cr.e) := hA.p.cell 2
    have c6 : W.cell? ⟨pk, 6, none⟩ = some (.int .i64 why) := hA.p.cell 6
    have c7 : W.cell? ⟨pk, 7, none⟩ = some (.bool nt) := hA.p.cell 7
    have c8 : W.cell? ⟨pk, 8, none⟩ = some (.bool pv) := hA.p.cell 8
    have c1 : W.cell? ⟨pk, 1, none⟩ = some (.int .i64 e.cr.r) := hA.p.cell 1
    have c3 : W.cell? ⟨pk, 3, none⟩ = some (.int .i64 e.cr.s) := hA.p.cell 3
    have c4 : W.cell? ⟨pk, 4, none⟩ = some (.int .i64 e.cr.g) := hA.p.cell 4
    have c5 : W.cell? ⟨pk, 5, none⟩ = some (.int .i64 e.cr.h) := hA.p.cell 5
    have k6 : W.cell? ⟨eb, 6, none⟩ = some (.int .i64 e.cl.op) := hA.ev.cell 6
    have k12 : W.cell? ⟨eb, 12, none⟩ = some (.int .i64 e.cl.n) := hA.ev.cell 12
    have k26 : W.cell? ⟨eb, 26, none⟩ = some (.int .i64 e.err) := hA.ev.cell 26
    have b0 : W.cell? ⟨b, 0, none⟩ = some (.slice (some ⟨g, off, none⟩) r.L.length cap) := hA.tab.blk.cell 0
    clear hA
    go_wp2
    go_ret
    exact ⟨rfl, HA.out.gr⟩
  · have A6 : (e.cr.e == 0) = true := by simpa using a6
    have A7 : (why == 0) = false := by simpa using a7
    clear Hr a6 a7
    go_wp2_with fail
    go_quiet (fail)
    go_upto_if 52 with (fail)
    have hA := RA.start nq (⟨e.pid, ⟨e.cr, why, nt, pv⟩⟩ : Pr) H.out HB.out HT.out HG.out hsz
    rw [hsz] at hA
    simp only [Pr.cells] at hA
    clear hsz hbl hbl0 hw0 d0 d1 d2 d3 d4 d5 d6 d7 d8 g0 g1 g2 g3 g4 g5 a0
    generalize (w0.drewN nq).alloc (.cells #[.int .i64 e.pid, .int .i64 e.cr.r, .int .i64 e.cr.e, .int .i64 e.cr.s, .int .i64 e.cr.g, .int .i64 e.cr.h, .int .i64 why, .bool nt, .bool pv] 52) = W, w.heap.size + 1 = pk at hA ⊢
    generalize w.heap.size = eb at hA ⊢
    have HA := hide hA
    have c0 : W.cell? ⟨pk, 0, none⟩ = some (.int .i64 e.pid) := hA.p.cell 0
    have c2 : W.cell? ⟨pk, 2, none⟩ = some (.int .i64 e.cr.e) := hA.p.cell 2
    have c6 : W.cell? ⟨pk, 6, none⟩ = some (.int .i64 why) := hA.p.cell 6
    have c7 : W.cell? ⟨pk, 7, none⟩ = some (.bool nt) := hA.p.cell 7
    have c8 : W.cell? ⟨pk, 8, none⟩ = some (.bool pv) := hA.p.cell 8
    have c1 : W.cell? ⟨pk, 1, none⟩ = some (.int .i64 e.cr.r) := hA.p.cell 1
    have c3 : W.cell? ⟨pk, 3, none⟩ = some (.int .i64 e.cr.s) := hA.p.cell 3
    have c4 : W.cell? ⟨pk, 4, none⟩ = some (.int .i64 e.cr.g) := hA.p.cell 4
    have c5 : W.cell? ⟨pk, 5, none⟩ = some (.int .i64 e.cr.h) := hA.p.cell 5
    have k6 : W.cell? ⟨eb, 6, none⟩ = some (.int .i64 e.cl.op) := hA.ev.cell 6
    have k12 : W.cell? ⟨eb, 12, none⟩ = some (.int .i64 e.cl.n) := hA.ev.cell 12
    have k26 : W.cell? ⟨eb, 26, none⟩ = some (.int .i64 e.err) := hA.ev.cell 26
    have b0 : W.cell? ⟨b, 0, none⟩ = some (.slice (some ⟨g, off, none⟩) r.L.length cap) := hA.tab.blk.cell 0
    clear hA
    go_wp2
    go_ret
    exact ⟨rfl, HA.out.gr⟩
  · subst a8
    have A6 : (e.cr.e == 0) = true := by simpa using a6
    have A7 : (why == 0) = true := by simpa using a7
    clear Hr a6 a7
    go_wp2_with fail
    go_quiet (fail)
    go_upto_if 52 with (fail)
    have hA := RA.start nq (⟨e.pid, ⟨e.cr, why, nt, true⟩⟩ : Pr) H.out HB.out HT.out HG.out hsz
    rw [hsz] at hA
    simp only [Pr.cells] at hA
    clear hsz hbl hbl0 hw0 d0 d1 d2 d3 d4 d5 d6 d7 d8 g0 g1 g2 g3 g4 g5 a0
    generalize (w0.drewN nq).alloc (.cells #[.int .i64 e.pid, .int .i64 e.cr.r, .int .i64 e.cr.e, .int .i64 e.cr.s, .int .i64 e.cr.g, .int .i64 e.cr.h, .int .i64 why, .bool nt, .bool true] 52) = W, w.heap.size + 1 = pk at hA ⊢
    generalize w.heap.size = eb at hA ⊢
    have HA := hide hA
    have c0 : W.cell? ⟨pk, 0, none⟩ = some (.int .i64 e.pid) := hA.p.cell 0
    have c2 : W.cell? ⟨pk, 2, none⟩ = some (.int .i64 e.cr.e) := hA.p.cell 2
    have c6 : W.cell? ⟨pk, 6, none⟩ = some (.int .i64 why) := hA.p.cell 6
    have c7 : W.cell? ⟨pk, 7, none⟩ = some (.bool nt) := hA.p.cell 7
    have c8 : W.cell? ⟨pk, 8, none⟩ = some (.bool true) := hA.p.cell 8
    have c1 : W.cell? ⟨pk, 1, none⟩ = some (.int .i64 e.cr.r) := hA.p.cell 1
    have c3 : W.cell? ⟨pk, 3, none⟩ = some (.int .i64 e.cr.s) := hA.p.cell 3
    have c4 : W.cell? ⟨pk, 4, none⟩ = some (.int .i64 e.cr.g) := hA.p.cell 4
    have c5 : W.cell? ⟨pk, 5, none⟩ = some (.int .i64 e.cr.h) := hA.p.cell 5
    have k6 : W.cell? ⟨eb, 6, none⟩ = some (.int .i64 e.cl.op) := hA.ev.cell 6
    have k12 : W.cell? ⟨eb, 12, none⟩ = some (.int .i64 e.cl.n) := hA.ev.cell 12
    have k26 : W.cell? ⟨eb, 26, none⟩ = some (.int .i64 e.err) := hA.ev.cell 26
    have b0 : W.cell? ⟨b, 0, none⟩ = some (.slice (some ⟨g, off, none⟩) r.L.length cap) := hA.tab.blk.cell 0
    clear hA
    go_wp2
    go_ret
    exact ⟨rfl, HA.out.gr⟩

/-- The exit's region, behind its reads. -/
theorem exit_end {w W w3 : World} {b eb pk : Nat} {v : Value} {r : RS} {e : Ev} {s : Pr} (H : RA w W b eb pk v r e s) (hC2 : Chg nobody W w3) {fo : Option Addr} {n fc : Nat} (hn : n < r.L.length) (h1 : 1 < r.L.length)
    (ho : PrsIs w3 52 (.slice fo (del r.L n).length fc) (del r.L n)) (hv : ∀ i, (Value.slice fo (del r.L n).length fc).ownBlock = some i → W.heap.size ≤ i) :
    RTo w (w3.setCell ⟨b, 0, none⟩ (.slice fo (del r.L n).length fc)) b (rOwn b v) ⟨del r.L n, r.last⟩ := by
  have hdl : (del r.L n).length = r.L.length - 1 := by simp [del]; omega
  have hlen := H.tab.len
  have hTf := H.tab.newL hC2 (fun h => h) (del r.L n) ho (by omega) (by omega)
  refine ⟨_, hTf, ?_, (((Chg.of_grown H.gr (fun _ h => by cases h) : Chg (rOwn b v) w W)).trans hC2 (fun _ _ h => h.elim)).setCell (p := ⟨b, 0, none⟩) (.inl (.inl rfl)) _⟩
  rintro i (e | e)
  · exact .inl (.inl e)
  · exact .inr (Nat.le_trans H.gr.size (hv i e))

set_option maxHeartbeats 2000000 in
theorem rwell_exit (b : Nat) (v : Value) (r : RS) (e : Ev) (w : World) (h : RAt w b v r) (n : Nat) (why : Int) (nt pv : Bool) (hi : idx r.L e.pid = some n) (hs : r.L[n]? = some (⟨e.pid, ⟨e.cr, why, nt, pv⟩⟩ : Pr)) (hr : e.cr.e ≠ 0 ∨ (e.cr.e = 0 ∧ why ≠ 0) ∨ (e.cr.e = 0 ∧ why = 0 ∧ pv = true)) (he : e.err = 0) (hop : e.cl.op = 20) (hp : e.pid ≠ 1) (h1 : 1 < r.L.length) :
    Calls Try.prog 10 #[.pointer (some ⟨b, 0, none⟩), .agg e.cells] w fun x w' => x = .returned (.bool true) ∧ RTo w w' b (rOwn b v) ⟨del r.L n, r.last⟩ := by
  have hn : n < r.L.length := (idx_some hi).1
  have hlen := h.len
  obtain ⟨g, off, cap, hv, hcap, hcm, hgl⟩ := h.prs.at h.pos
  subst hv
  obtain ⟨w0, hw0⟩ : ∃ w0, w.alloc (.cells e.cells 40) = w0 := ⟨_, rfl⟩
  have hB := Blk.new w 40 e.cells
  have hG := only_alloc (only_refl w none) (.cells e.cells 40)
  have hT := h.gr hG
  have hbl := h.blk.lt
  rw [hw0] at hB hG hT
  have hsz : w0.heap.size = w.heap.size + 1 := by rw [← hw0, World.size_alloc]
  have hat := rat_any b _ r e.pid w0 hT
  rw [hi] at hat
  obtain ⟨d0, d1, d2, d3, d4, d5, d6, d7, d8⟩ := hT.prs.c rfl hn hs
  have a0 : w0.cell? ⟨b, 0, none⟩ = some (.slice (some ⟨g, off, none⟩) r.L.length cap) := hT.blk.cell 0
  have g0 : w0.cell? ⟨w.heap.size, 0, none⟩ = some (.int .i64 e.pid) := hB.cell 0
  have g1 : w0.cell? ⟨w.heap.size, 1, none⟩ = some (.int .i64 e.cr.r) := hB.cell 1
  have g2 : w0.cell? ⟨w.heap.size, 2, none⟩ = some (.int .i64 e.cr.e) := hB.cell 2
  have g3 : w0.cell? ⟨w.heap.size, 3, none⟩ = some (.int .i64 e.cr.s) := hB.cell 3
  have g4 : w0.cell? ⟨w.heap.size, 4, none⟩ = some (.int .i64 e.cr.g) := hB.cell 4
  have g5 : w0.cell? ⟨w.heap.size, 5, none⟩ = some (.int .i64 e.cr.h) := hB.cell 5
  have i0 : decide ((n : Int) < 0) = false := by simp
  have i1 : (0 : Int) ≤ n ∧ (n : Int) < (r.L.length : Int) := by omega
  have hbl0 : b < w0.heap.size := by omega
  have Hr := hide hr
  clear hr
  have q0 : (e.err != 0) = false := by simpa using he
  have q18 : (e.cl.op == 18) = false := by simp; omega
  have q19 : (e.cl.op == 19) = false := by simp; omega
  have q20 : (e.cl.op == 20) = true := by simpa using hop
  have qp : (e.pid == 1) = false := by simpa using hp
  clear hp
  have Hcap := hide (show r.L.length ≤ cap ∧ cap ≤ maxLen from ⟨hcap, hcm⟩)
  have Hcap1 := hide hlen
  have H := hide h
  have HB := hide hB
  have HG := hide hG
  have HT := hide hT
  have Hat := hide hat
  have Hn := hide hn
  obtain ⟨CC, hCC⟩ : ∃ CC, e.cells = CC := ⟨_, rfl⟩
  rw [hCC] at hw0 ⊢
  clear hB hG hT h hat hi hs hcap hcm hgl hn hlen
  go_enter Try.func10, Try.ntmps10
  go_wp2_with fail
  refine Hat.out.mono ?_
  rintro x1 w1 ⟨rfl, rfl⟩
  simp only [oi]
  rcases Hr.out with a6 | ⟨a6, a7⟩ | ⟨a6, a7, a8⟩
  · have A6 : (e.cr.e == 0) = false := by simpa using a6
    clear Hr a6
    go_wp2_with fail
    go_quiet (fail)
    go_upto_if 52 with (fail)
    have hA := RA.start nq (⟨e.pid, ⟨e.cr, why, nt, pv⟩⟩ : Pr) H.out HB.out HT.out HG.out hsz
    rw [hsz] at hA
    simp only [Pr.cells] at hA
    clear hsz hbl hbl0 hw0 d0 d1 d2 d3 d4 d5 d6 d7 d8 g0 g1 g2 g3 g4 g5 a0
    generalize (w0.drewN nq).alloc (.cells #[.int .i64 e.pid, .int .i64 e.cr.r, .int .i64 e.cr.e, .int .i64 e.cr.s, .int .i64 e.cr.g, .int .i64 e.cr.h, .int .i64 why, .bool nt, .bool pv] 52) = W, w.heap.size + 1 = pk at hA ⊢
    generalize w.heap.size = eb at hA ⊢
    have HA := hide hA
    have c0 : W.cell? ⟨pk, 0, none⟩ = some (.int .i64 e.pid) := hA.p.cell 0
    have c2 : W.cell? ⟨pk, 2, none⟩ = some (.int .i64 e.cr.e) := hA.p.cell 2
    have c6 : W.cell? ⟨pk, 6, none⟩ = some (.int .i64 why) := hA.p.cell 6
    have c7 : W.cell? ⟨pk, 7, none⟩ = some (.bool nt) := hA.p.cell 7
    have c8 : W.cell? ⟨pk, 8, none⟩ = some (.bool pv) := hA.p.cell 8
    have c1 : W.cell? ⟨pk, 1, none⟩ = some (.int .i64 e.cr.r) := hA.p.cell 1
    have c3 : W.cell? ⟨pk, 3, none⟩ = some (.int .i64 e.cr.s) := hA.p.cell 3
    have c4 : W.cell? ⟨pk, 4, none⟩ = some (.int .i64 e.cr.g) := hA.p.cell 4
    have c5 : W.cell? ⟨pk, 5, none⟩ = some (.int .i64 e.cr.h) := hA.p.cell 5
    have k6 : W.cell? ⟨eb, 6, none⟩ = some (.int .i64 e.cl.op) := hA.ev.cell 6
    have k12 : W.cell? ⟨eb, 12, none⟩ = some (.int .i64 e.cl.n) := hA.ev.cell 12
    have k26 : W.cell? ⟨eb, 26, none⟩ = some (.int .i64 e.err) := hA.ev.cell 26
    have b0 : W.cell? ⟨b, 0, none⟩ = some (.slice (some ⟨g, off, none⟩) r.L.length cap) := hA.tab.blk.cell 0
    clear hA
    obtain ⟨ya, hya⟩ : ∃ ya, ya = (if cap = n + 1 then some (⟨g, off, none⟩ : Addr) else some ⟨g, off + (n + 1) * 9, none⟩) := ⟨_, rfl⟩
    have Hya := hide hya
    have hn0 := Hn.out
    have hcap := Hcap.out.1
    have hcm := Hcap.out.2
    have hlen := Hcap1.out
    have i5 : (0 : Int) ≤ (n : Int) + 1 ∧ (n : Int) + 1 ≤ r.L.length := by omega
    have hkcap : n ≤ cap := by omega
    have hw9 : IntKind.i64.wrap ((n : Int) + 1) = (n : Int) + 1 := by rw [IntWalk.i64_in _ (by omega)]
    have b0d : W.drew.cell? ⟨b, 0, none⟩ = some (.slice (some ⟨g, off, none⟩) r.L.length cap) := b0
    have hbl0 : b < W.drew.heap.size := HA.out.tab.blk.lt
    clear hya
    go_wp2_with fail
    refine wp_region_perm [0, 2, 3, 4, 5, 6, 7, 9, 10, 11, 12, 13, 14, 15] [1, 8, 16, 17, 18, 19] (by kernel_rfl) (by kernel_rfl) (fun w' => w'.cell? ⟨b, 0, none⟩ = some (.slice (some ⟨g, off, none⟩) r.L.length cap)) b0d ?_
    clear c0 c1 c2 c3 c4 c5 c6 c7 c8 k6 k12 k26
    simp only [pick, List.getElem?_cons_zero, List.getElem?_cons_succ]
    iterate 6
      refine wpTake_cons ?_ (by rfl) ?_ ?_
      rotate_left
      · (intro W9 hSW; go_simp; try with_reducible rfl)
      simp only [Act.put, List.setIfInBounds_toArray, List.set_cons_zero, List.set_cons_succ]
    refine wpTake_cons (.slice (some ⟨g, off, none⟩) n cap) (by rfl) (fun W9 _ => by go_simp) ?_
    simp only [Act.put, List.setIfInBounds_toArray, List.set_cons_zero, List.set_cons_succ]
    iterate 6
      refine wpTake_cons ?_ (by rfl) ?_ ?_
      rotate_left
      · (intro W9 hSW; go_simp; try with_reducible rfl)
      simp only [Act.put, List.setIfInBounds_toArray, List.set_cons_zero, List.set_cons_succ]
    try simp only [hw9]
    refine wpTake_cons (.slice ya (r.L.length - (n + 1)) (cap - (n + 1))) (by rfl) (fun W9 _ => by go_simp; exact Hya.out.symm) ?_
    simp only [Act.put, List.setIfInBounds_toArray, List.set_cons_zero, List.set_cons_succ]
    refine wpTake_nil ?_
    have hA0 := HA.out.gr' (only_drew (only_refl _ none))
    obtain ⟨W0, hW0⟩ : ∃ W0, W.drew = W0 := ⟨_, rfl⟩
    rw [hW0] at hA0 b0d hbl0 ⊢
    have HA0 := hide hA0
    have hT0 := hide hA0.tab
    clear hW0 hA0 HA b0
    refine wpForce_cons fun K1 hK1 => ?_
    refine step_val (.slice (some ⟨W0.heap.size, 0, none⟩) 0 0) (W0.alloc (.cells #[] 52)) (by rfl) (by go_simp; try rfl) ?_
    have hC0 := (Chg.refl nobody W0).alloc (.cells #[] 52)
    refine hK1.out _ _ ((hC0.cell (p := ⟨b, 0, none⟩) hbl0 (fun h => h)).trans b0d) ?_
    simp only [Act.put, List.setIfInBounds_toArray, List.set_cons_zero, List.set_cons_succ]
    refine wpForce_cons fun K2 hK2 => ?_
    refine step_appAt (by rfl) (.tmp 106) (.tmp 112) 53 53 (by rfl) 52 (Pr.agg ⟨0, ⟨zero, 0, false, false⟩⟩) 9 64 (by kernel_rfl) info52 rfl (.slice (some ⟨W0.heap.size, 0, none⟩) 0 0) 0 [] 0 _ n ((pcs r.L).take (n * 9)) (by rfl) (by rfl) (Own.made W0 #[] 52 9 0 0 rfl (by unfold maxLen; omega)) (by omega) (Own.src (e' := 52) (Own.to_ (hT0.out.chg hC0 (fun _ _ h => h)).prs n (by omega)) (by kernel_rfl) (fun y hy => pcs_one _ y (List.mem_of_mem_take hy))) (by unfold maxLen; omega) (by omega) ?_
    intro v1 w2 ho1 hc1 hn1 _
    have hC1 : Chg nobody W0 w2 := hC0.trans hc1 (fun i hi e => by simp [Value.ownBlock] at e; omega)
    have hv1 : ∀ i, v1.ownBlock = some i → W0.heap.size ≤ i := by
      intro i hi
      rcases hn1 i hi with e | e
      · simp [Value.ownBlock] at e; omega
      · rw [World.size_alloc] at e; omega
    refine hK2.out _ _ ((hC1.cell (p := ⟨b, 0, none⟩) hbl0 (fun h => h)).trans b0d) ?_
    simp only [Act.put, List.setIfInBounds_toArray, List.set_cons_zero, List.set_cons_succ]
    refine wpForce_cons fun K3 hK3 => ?_
    refine step_appAt (by rfl) (.tmp 113) (.tmp 120) 53 53 (by rfl) 52 (Pr.agg ⟨0, ⟨zero, 0, false, false⟩⟩) 9 64 (by kernel_rfl) info52 rfl v1 (0 + n) _ 0 _ (r.L.length - (n + 1)) ((pcs r.L).drop ((n + 1) * 9)) (by rfl) (by rfl) ho1 (by omega) (tail_src (hT0.out.chg hC1 (fun _ _ h => h)).prs hn0 hcap Hya.out) (by unfold maxLen; omega) (by omega) ?_
    intro v2 w3 ho2 hc2 hn2 _
    have hC2 : Chg nobody W0 w3 := hC1.trans hc2 (fun i hi e => by have := hv1 i e; omega)
    have hv2 : ∀ i, v2.ownBlock = some i → W0.heap.size ≤ i := by
      intro i hi
      rcases hn2 i hi with e | e
      · exact hv1 i e
      · exact Nat.le_trans hC1.size e
    have hdl : (del r.L n).length = r.L.length - 1 := by simp [del]; omega
    rw [List.nil_append, pcs_del, show 0 + n + (r.L.length - (n + 1)) = (del r.L n).length by omega] at ho2
    obtain ⟨fo, fc, rfl, _, _⟩ := ho2.form
    have u0 := (hC2.cell (p := ⟨b, 0, none⟩) hbl0 (fun h => h)).trans b0d
    have zb := (hT0.out.blk.chg hC2 (fun h => h)).frozen 0
    have hb3 : b < w3.heap.size := Nat.lt_of_lt_of_le hbl0 hC2.size
    refine hK3.out _ _ u0 ?_
    simp only [Act.put, List.setIfInBounds_toArray, List.set_cons_zero, List.set_cons_succ]
    refine wpForce_cons fun K4 hK4 => ?_
    refine step_val (.pointer (some ⟨b, 0, none⟩)) w3 (by rfl) (by go_simp) ?_
    refine hK4.out _ _ u0 ?_
    simp only [Act.put, List.setIfInBounds_toArray, List.set_cons_zero, List.set_cons_succ]
    refine wpForce_cons fun K5 hK5 => ?_
    refine step_val (.pointer (some ⟨b, 0, none⟩)) w3 (by rfl) (by go_simp) ?_
    refine hK5.out _ _ u0 ?_
    simp only [Act.put, List.setIfInBounds_toArray, List.set_cons_zero, List.set_cons_succ]
    refine wpForce_one ?_
    have HTf := hide (exit_end HA0.out hC2 hn0 h1 ho2 hv2)
    clear hK1 hK2 hK3 hK4 hK5 ho1 hc1 hn1 hv1 ho2 hc2 hn2 hv2 hC0 hC1 hC2 hdl
    clear K1 K2 K3 K4 K5
    go_wp2
    refine NoPanic.normal ?_
    go_wp2
    go_ret
    exact ⟨rfl, HTf.out⟩
  · have A6 : (e.cr.e == 0) = true := by simpa using a6
    have A7 : (why == 0) = false := by simpa using a7
    clear Hr a6 a7
    go_wp2_with fail
    go_quiet (fail)
    go_upto_if 52 with (fail)
    have hA := RA.start nq (⟨e.pid, ⟨e.cr, why, nt, pv⟩⟩ : Pr) H.out HB.out HT.out HG.out hsz
    rw [hsz] at hA
    simp only [Pr.cells] at hA
    clear hsz hbl hbl0 hw0 d0 d1 d2 d3 d4 d5 d6 d7 d8 g0 g1 g2 g3 g4 g5 a0
    generalize (w0.drewN nq).alloc (.cells #[.int .i64 e.pid, .int .i64 e.cr.r, .int .i64 e.cr.e, .int .i64 e.cr.s, .int .i64 e.cr.g, .int .i64 e.cr.h, .int .i64 why, .bool nt, .bool pv] 52) = W, w.heap.size + 1 = pk at hA ⊢
    generalize w.heap.size = eb at hA ⊢
    have HA := hide hA
    have c0 : W.cell? ⟨pk, 0, none⟩ = some (.int .i64 e.pid) := hA.p.cell 0
    have c2 : W.cell? ⟨pk, 2, none⟩ = some (.int .i64 e.cr.e) := hA.p.cell 2
    have c6 : W.cell? ⟨pk, 6, none⟩ = some (.int .i64 why) := hA.p.cell 6
    have c7 : W.cell? ⟨pk, 7, none⟩ = some (.bool nt) := hA.p.cell 7
    have c8 : W.cell? ⟨pk, 8, none⟩ = some (.bool pv) := hA.p.cell 8
    have c1 : W.cell? ⟨pk, 1, none⟩ = some (.int .i64 e.cr.r) := hA.p.cell 1
    have c3 : W.cell? ⟨pk, 3, none⟩ = some (.int .i64 e.cr.s) := hA.p.cell 3
    have c4 : W.cell? ⟨pk, 4, none⟩ = some (.int .i64 e.cr.g) := hA.p.cell 4
    have c5 : W.cell? ⟨pk, 5, none⟩ = some (.int .i64 e.cr.h) := hA.p.cell 5
    have k6 : W.cell? ⟨eb, 6, none⟩ = some (.int .i64 e.cl.op) := hA.ev.cell 6
    have k12 : W.cell? ⟨eb, 12, none⟩ = some (.int .i64 e.cl.n) := hA.ev.cell 12
    have k26 : W.cell? ⟨eb, 26, none⟩ = some (.int .i64 e.err) := hA.ev.cell 26
    have b0 : W.cell? ⟨b, 0, none⟩ = some (.slice (some ⟨g, off, none⟩) r.L.length cap) := hA.tab.blk.cell 0
    clear hA
    obtain ⟨ya, hya⟩ : ∃ ya, ya = (if cap = n + 1 then some (⟨g, off, none⟩ : Addr) else some ⟨g, off + (n + 1) * 9, none⟩) := ⟨_, rfl⟩
    have Hya := hide hya
    have hn0 := Hn.out
    have hcap := Hcap.out.1
    have hcm := Hcap.out.2
    have hlen := Hcap1.out
    have i5 : (0 : Int) ≤ (n : Int) + 1 ∧ (n : Int) + 1 ≤ r.L.length := by omega
    have hkcap : n ≤ cap := by omega
    have hw9 : IntKind.i64.wrap ((n : Int) + 1) = (n : Int) + 1 := by rw [IntWalk.i64_in _ (by omega)]
    have b0d : W.drew.cell? ⟨b, 0, none⟩ = some (.slice (some ⟨g, off, none⟩) r.L.length cap) := b0
    have hbl0 : b < W.drew.heap.size := HA.out.tab.blk.lt
    clear hya
    go_wp2_with fail
    refine wp_region_perm [0, 2, 3, 4, 5, 6, 7, 9, 10, 11, 12, 13, 14, 15] [1, 8, 16, 17, 18, 19] (by kernel_rfl) (by kernel_rfl) (fun w' => w'.cell? ⟨b, 0, none⟩ = some (.slice (some ⟨g, off, none⟩) r.L.length cap)) b0d ?_
    clear c0 c1 c2 c3 c4 c5 c6 c7 c8 k6 k12 k26
    simp only [pick, List.getElem?_cons_zero, List.getElem?_cons_succ]
    iterate 6
      refine wpTake_cons ?_ (by rfl) ?_ ?_
      rotate_left
      · (intro W9 hSW; go_simp; try with_reducible rfl)
      simp only [Act.put, List.setIfInBounds_toArray, List.set_cons_zero, List.set_cons_succ]
    refine wpTake_cons (.slice (some ⟨g, off, none⟩) n cap) (by rfl) (fun W9 _ => by go_simp) ?_
    simp only [Act.put, List.setIfInBounds_toArray, List.set_cons_zero, List.set_cons_succ]
    iterate 6
      refine wpTake_cons ?_ (by rfl) ?_ ?_
      rotate_left
      · (intro W9 hSW; go_simp; try with_reducible rfl)
      simp only [Act.put, List.setIfInBounds_toArray, List.set_cons_zero, List.set_cons_succ]
    try simp only [hw9]
    refine wpTake_cons (.slice ya (r.L.length - (n + 1)) (cap - (n + 1))) (by rfl) (fun W9 _ => by go_simp; exact Hya.out.symm) ?_
    simp only [Act.put, List.setIfInBounds_toArray, List.set_cons_zero, List.set_cons_succ]
    refine wpTake_nil ?_
    have hA0 := HA.out.gr' (only_drew (only_refl _ none))
    obtain ⟨W0, hW0⟩ : ∃ W0, W.drew = W0 := ⟨_, rfl⟩
    rw [hW0] at hA0 b0d hbl0 ⊢
    have HA0 := hide hA0
    have hT0 := hide hA0.tab
    clear hW0 hA0 HA b0
    refine wpForce_cons fun K1 hK1 => ?_
    refine step_val (.slice (some ⟨W0.heap.size, 0, none⟩) 0 0) (W0.alloc (.cells #[] 52)) (by rfl) (by go_simp; try rfl) ?_
    have hC0 := (Chg.refl nobody W0).alloc (.cells #[] 52)
    refine hK1.out _ _ ((hC0.cell (p := ⟨b, 0, none⟩) hbl0 (fun h => h)).trans b0d) ?_
    simp only [Act.put, List.setIfInBounds_toArray, List.set_cons_zero, List.set_cons_succ]
    refine wpForce_cons fun K2 hK2 => ?_
    refine step_appAt (by rfl) (.tmp 106) (.tmp 112) 53 53 (by rfl) 52 (Pr.agg ⟨0, ⟨zero, 0, false, false⟩⟩) 9 64 (by kernel_rfl) info52 rfl (.slice (some ⟨W0.heap.size, 0, none⟩) 0 0) 0 [] 0 _ n ((pcs r.L).take (n * 9)) (by rfl) (by rfl) (Own.made W0 #[] 52 9 0 0 rfl (by unfold maxLen; omega)) (by omega) (Own.src (e' := 52) (Own.to_ (hT0.out.chg hC0 (fun _ _ h => h)).prs n (by omega)) (by kernel_rfl) (fun y hy => pcs_one _ y (List.mem_of_mem_take hy))) (by unfold maxLen; omega) (by omega) ?_
    intro v1 w2 ho1 hc1 hn1 _
    have hC1 : Chg nobody W0 w2 := hC0.trans hc1 (fun i hi e => by simp [Value.ownBlock] at e; omega)
    have hv1 : ∀ i, v1.ownBlock = some i → W0.heap.size ≤ i := by
      intro i hi
      rcases hn1 i hi with e | e
      · simp [Value.ownBlock] at e; omega
      · rw [World.size_alloc] at e; omega
    refine hK2.out _ _ ((hC1.cell (p := ⟨b, 0, none⟩) hbl0 (fun h => h)).trans b0d) ?_
    simp only [Act.put, List.setIfInBounds_toArray, List.set_cons_zero, List.set_cons_succ]
    refine wpForce_cons fun K3 hK3 => ?_
    refine step_appAt (by rfl) (.tmp 113) (.tmp 120) 53 53 (by rfl) 52 (Pr.agg ⟨0, ⟨zero, 0, false, false⟩⟩) 9 64 (by kernel_rfl) info52 rfl v1 (0 + n) _ 0 _ (r.L.length - (n + 1)) ((pcs r.L).drop ((n + 1) * 9)) (by rfl) (by rfl) ho1 (by omega) (tail_src (hT0.out.chg hC1 (fun _ _ h => h)).prs hn0 hcap Hya.out) (by unfold maxLen; omega) (by omega) ?_
    intro v2 w3 ho2 hc2 hn2 _
    have hC2 : Chg nobody W0 w3 := hC1.trans hc2 (fun i hi e => by have := hv1 i e; omega)
    have hv2 : ∀ i, v2.ownBlock = some i → W0.heap.size ≤ i := by
      intro i hi
      rcases hn2 i hi with e | e
      · exact hv1 i e
      · exact Nat.le_trans hC1.size e
    have hdl : (del r.L n).length = r.L.length - 1 := by simp [del]; omega
    rw [List.nil_append, pcs_del, show 0 + n + (r.L.length - (n + 1)) = (del r.L n).length by omega] at ho2
    obtain ⟨fo, fc, rfl, _, _⟩ := ho2.form
    have u0 := (hC2.cell (p := ⟨b, 0, none⟩) hbl0 (fun h => h)).trans b0d
    have zb := (hT0.out.blk.chg hC2 (fun h => h)).frozen 0
    have hb3 : b < w3.heap.size := Nat.lt_of_lt_of_le hbl0 hC2.size
    refine hK3.out _ _ u0 ?_
    simp only [Act.put, List.setIfInBounds_toArray, List.set_cons_zero, List.set_cons_succ]
    refine wpForce_cons fun K4 hK4 => ?_
    refine step_val (.pointer (some ⟨b, 0, none⟩)) w3 (by rfl) (by go_simp) ?_
    refine hK4.out _ _ u0 ?_
    simp only [Act.put, List.setIfInBounds_toArray, List.set_cons_zero, List.set_cons_succ]
    refine wpForce_cons fun K5 hK5 => ?_
    refine step_val (.pointer (some ⟨b, 0, none⟩)) w3 (by rfl) (by go_simp) ?_
    refine hK5.out _ _ u0 ?_
    simp only [Act.put, List.setIfInBounds_toArray, List.set_cons_zero, List.set_cons_succ]
    refine wpForce_one ?_
    have HTf := hide (exit_end HA0.out hC2 hn0 h1 ho2 hv2)
    clear hK1 hK2 hK3 hK4 hK5 ho1 hc1 hn1 hv1 ho2 hc2 hn2 hv2 hC0 hC1 hC2 hdl
    clear K1 K2 K3 K4 K5
    go_wp2
    refine NoPanic.normal ?_
    go_wp2
    go_ret
    exact ⟨rfl, HTf.out⟩
  · subst a8
    have A6 : (e.cr.e == 0) = true := by simpa using a6
    have A7 : (why == 0) = true := by simpa using a7
    clear Hr a6 a7
    go_wp2_with fail
    go_quiet (fail)
    go_upto_if 52 with (fail)
    have hA := RA.start nq (⟨e.pid, ⟨e.cr, why, nt, true⟩⟩ : Pr) H.out HB.out HT.out HG.out hsz
    rw [hsz] at hA
    simp only [Pr.cells] at hA
    clear hsz hbl hbl0 hw0 d0 d1 d2 d3 d4 d5 d6 d7 d8 g0 g1 g2 g3 g4 g5 a0
    generalize (w0.drewN nq).alloc (.cells #[.int .i64 e.pid, .int .i64 e.cr.r, .int .i64 e.cr.e, .int .i64 e.cr.s, .int .i64 e.cr.g, .int .i64 e.cr.h, .int .i64 why, .bool nt, .bool true] 52) = W, w.heap.size + 1 = pk at hA ⊢
    generalize w.heap.size = eb at hA ⊢
    have HA := hide hA
    have c0 : W.cell? ⟨pk, 0, none⟩ = some (.int .i64 e.pid) := hA.p.cell 0
    have c2 : W.cell? ⟨pk, 2, none⟩ = some (.int .i64 e.cr.e) := hA.p.cell 2
    have c6 : W.cell? ⟨pk, 6, none⟩ = some (.int .i64 why) := hA.p.cell 6
    have c7 : W.cell? ⟨pk, 7, none⟩ = some (.bool nt) := hA.p.cell 7
    have c8 : W.cell? ⟨pk, 8, none⟩ = some (.bool true) := hA.p.cell 8
    have c1 : W.cell? ⟨pk, 1, none⟩ = some (.int .i64 e.cr.r) := hA.p.cell 1
    have c3 : W.cell? ⟨pk, 3, none⟩ = some (.int .i64 e.cr.s) := hA.p.cell 3
    have c4 : W.cell? ⟨pk, 4, none⟩ = some (.int .i64 e.cr.g) := hA.p.cell 4
    have c5 : W.cell? ⟨pk, 5, none⟩ = some (.int .i64 e.cr.h) := hA.p.cell 5
    have k6 : W.cell? ⟨eb, 6, none⟩ = some (.int .i64 e.cl.op) := hA.ev.cell 6
    have k12 : W.cell? ⟨eb, 12, none⟩ = some (.int .i64 e.cl.n) := hA.ev.cell 12
    have k26 : W.cell? ⟨eb, 26, none⟩ = some (.int .i64 e.err) := hA.ev.cell 26
    have b0 : W.cell? ⟨b, 0, none⟩ = some (.slice (some ⟨g, off, none⟩) r.L.length cap) := hA.tab.blk.cell 0
    clear hA
    obtain ⟨ya, hya⟩ : ∃ ya, ya = (if cap = n + 1 then some (⟨g, off, none⟩ : Addr) else some ⟨g, off + (n + 1) * 9, none⟩) := ⟨_, rfl⟩
    have Hya := hide hya
    have hn0 := Hn.out
    have hcap := Hcap.out.1
    have hcm := Hcap.out.2
    have hlen := Hcap1.out
    have i5 : (0 : Int) ≤ (n : Int) + 1 ∧ (n : Int) + 1 ≤ r.L.length := by omega
    have hkcap : n ≤ cap := by omega
    have hw9 : IntKind.i64.wrap ((n : Int) + 1) = (n : Int) + 1 := by rw [IntWalk.i64_in _ (by omega)]
    have b0d : W.drew.cell? ⟨b, 0, none⟩ = some (.slice (some ⟨g, off, none⟩) r.L.length cap) := b0
    have hbl0 : b < W.drew.heap.size := HA.out.tab.blk.lt
    clear hya
    go_wp2_with fail
    refine wp_region_perm [0, 2, 3, 4, 5, 6, 7, 9, 10, 11, 12, 13, 14, 15] [1, 8, 16, 17, 18, 19] (by kernel_rfl) (by kernel_rfl) (fun w' => w'.cell? ⟨b, 0, none⟩ = some (.slice (some ⟨g, off, none⟩) r.L.length cap)) b0d ?_
    clear c0 c1 c2 c3 c4 c5 c6 c7 c8 k6 k12 k26
    simp only [pick, List.getElem?_cons_zero, List.getElem?_cons_succ]
    iterate 6
      refine wpTake_cons ?_ (by rfl) ?_ ?_
      rotate_left
      · (intro W9 hSW; go_simp; try with_reducible rfl)
      simp only [Act.put, List.setIfInBounds_toArray, List.set_cons_zero, List.set_cons_succ]
    refine wpTake_cons (.slice (some ⟨g, off, none⟩) n cap) (by rfl) (fun W9 _ => by go_simp) ?_
    simp only [Act.put, List.setIfInBounds_toArray, List.set_cons_zero, List.set_cons_succ]
    iterate 6
      refine wpTake_cons ?_ (by rfl) ?_ ?_
      rotate_left
      · (intro W9 hSW; go_simp; try with_reducible rfl)
      simp only [Act.put, List.setIfInBounds_toArray, List.set_cons_zero, List.set_cons_succ]
    try simp only [hw9]
    refine wpTake_cons (.slice ya (r.L.length - (n + 1)) (cap - (n + 1))) (by rfl) (fun W9 _ => by go_simp; exact Hya.out.symm) ?_
    simp only [Act.put, List.setIfInBounds_toArray, List.set_cons_zero, List.set_cons_succ]
    refine wpTake_nil ?_
    have hA0 := HA.out.gr' (only_drew (only_refl _ none))
    obtain ⟨W0, hW0⟩ : ∃ W0, W.drew = W0 := ⟨_, rfl⟩
    rw [hW0] at hA0 b0d hbl0 ⊢
    have HA0 := hide hA0
    have hT0 := hide hA0.tab
    clear hW0 hA0 HA b0
    refine wpForce_cons fun K1 hK1 => ?_
    refine step_val (.slice (some ⟨W0.heap.size, 0, none⟩) 0 0) (W0.alloc (.cells #[] 52)) (by rfl) (by go_simp; try rfl) ?_
    have hC0 := (Chg.refl nobody W0).alloc (.cells #[] 52)
    refine hK1.out _ _ ((hC0.cell (p := ⟨b, 0, none⟩) hbl0 (fun h => h)).trans b0d) ?_
    simp only [Act.put, List.setIfInBounds_toArray, List.set_cons_zero, List.set_cons_succ]
    refine wpForce_cons fun K2 hK2 => ?_
    refine step_appAt (by rfl) (.tmp 106) (.tmp 112) 53 53 (by rfl) 52 (Pr.agg ⟨0, ⟨zero, 0, false, false⟩⟩) 9 64 (by kernel_rfl) info52 rfl (.slice (some ⟨W0.heap.size, 0, none⟩) 0 0) 0 [] 0 _ n ((pcs r.L).take (n * 9)) (by rfl) (by rfl) (Own.made W0 #[] 52 9 0 0 rfl (by unfold maxLen; omega)) (by omega) (Own.src (e' := 52) (Own.to_ (hT0.out.chg hC0 (fun _ _ h => h)).prs n (by omega)) (by kernel_rfl) (fun y hy => pcs_one _ y (List.mem_of_mem_take hy))) (by unfold maxLen; omega) (by omega) ?_
    intro v1 w2 ho1 hc1 hn1 _
    have hC1 : Chg nobody W0 w2 := hC0.trans hc1 (fun i hi e => by simp [Value.ownBlock] at e; omega)
    have hv1 : ∀ i, v1.ownBlock = some i → W0.heap.size ≤ i := by
      intro i hi
      rcases hn1 i hi with e | e
      · simp [Value.ownBlock] at e; omega
      · rw [World.size_alloc] at e; omega
    refine hK2.out _ _ ((hC1.cell (p := ⟨b, 0, none⟩) hbl0 (fun h => h)).trans b0d) ?_
    simp only [Act.put, List.setIfInBounds_toArray, List.set_cons_zero, List.set_cons_succ]
    refine wpForce_cons fun K3 hK3 => ?_
    refine step_appAt (by rfl) (.tmp 113) (.tmp 120) 53 53 (by rfl) 52 (Pr.agg ⟨0, ⟨zero, 0, false, false⟩⟩) 9 64 (by kernel_rfl) info52 rfl v1 (0 + n) _ 0 _ (r.L.length - (n + 1)) ((pcs r.L).drop ((n + 1) * 9)) (by rfl) (by rfl) ho1 (by omega) (tail_src (hT0.out.chg hC1 (fun _ _ h => h)).prs hn0 hcap Hya.out) (by unfold maxLen; omega) (by omega) ?_
    intro v2 w3 ho2 hc2 hn2 _
    have hC2 : Chg nobody W0 w3 := hC1.trans hc2 (fun i hi e => by have := hv1 i e; omega)
    have hv2 : ∀ i, v2.ownBlock = some i → W0.heap.size ≤ i := by
      intro i hi
      rcases hn2 i hi with e | e
      · exact hv1 i e
      · exact Nat.le_trans hC1.size e
    have hdl : (del r.L n).length = r.L.length - 1 := by simp [del]; omega
    rw [List.nil_append, pcs_del, show 0 + n + (r.L.length - (n + 1)) = (del r.L n).length by omega] at ho2
    obtain ⟨fo, fc, rfl, _, _⟩ := ho2.form
    have u0 := (hC2.cell (p := ⟨b, 0, none⟩) hbl0 (fun h => h)).trans b0d
    have zb := (hT0.out.blk.chg hC2 (fun h => h)).frozen 0
    have hb3 : b < w3.heap.size := Nat.lt_of_lt_of_le hbl0 hC2.size
    refine hK3.out _ _ u0 ?_
    simp only [Act.put, List.setIfInBounds_toArray, List.set_cons_zero, List.set_cons_succ]
    refine wpForce_cons fun K4 hK4 => ?_
    refine step_val (.pointer (some ⟨b, 0, none⟩)) w3 (by rfl) (by go_simp) ?_
    refine hK4.out _ _ u0 ?_
    simp only [Act.put, List.setIfInBounds_toArray, List.set_cons_zero, List.set_cons_succ]
    refine wpForce_cons fun K5 hK5 => ?_
    refine step_val (.pointer (some ⟨b, 0, none⟩)) w3 (by rfl) (by go_simp) ?_
    refine hK5.out _ _ u0 ?_
    simp only [Act.put, List.setIfInBounds_toArray, List.set_cons_zero, List.set_cons_succ]
    refine wpForce_one ?_
    have HTf := hide (exit_end HA0.out hC2 hn0 h1 ho2 hv2)
    clear hK1 hK2 hK3 hK4 hK5 ho1 hc1 hn1 hv1 ho2 hc2 hn2 hv2 hC0 hC1 hC2 hdl
    clear K1 K2 K3 K4 K5
    go_wp2
    refine NoPanic.normal ?_
    go_wp2
    go_ret
    exact ⟨rfl, HTf.out⟩

end Go.Proofs.Ytolmpejaakpikaa
