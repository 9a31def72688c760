/- The walk of well: programs, other users, forks. -/
import Derived.Test.YtolmpejaakpikaaG
set_option linter.all false
namespace Go.Proofs.Ytolmpejaakpikaa
open Go.RowKit Go.Maps

theorem execs_ok (pb : Nat) (p : Pc) (i0 i1 m o i4 i5 i6 i7 : Int) (w : World) (h : PcIs w pb p) (hx : (execF p.c m o).2 = 0) :
    Calls Try.prog 12 #[.pointer (some ⟨pb, 0, none⟩), .agg #[.int .i64 i0, .int .i64 i1, .int .i64 m, .int .i64 o, .int .i64 i4, .int .i64 i5, .int .i64 i6, .int .i64 i7]] w fun e w' => e = .returned (.bool true) ∧ PcIs w' pb (execPc p m o) ∧ w.grownBy w' (some pb) := by
  obtain ⟨⟨R, y⟩, hE⟩ : ∃ q, execF p.c m o = q := ⟨_, rfl⟩
  unfold execPc
  rw [hE] at hx ⊢
  simp only at hx ⊢
  subst hx
  by_cases h1 : R.e = 0
  · rw [if_neg (by simpa using h1)]
    by_cases h2 : p.why = 0
    · cases h3 : p.pv with
      | false =>
        rw [if_pos ⟨h2, rfl⟩]
        have := execs_b pb p R i0 i1 m o i4 i5 i6 i7 w h hE h1 h2 h3
        rw [h3] at this
        exact this
      | true =>
        rw [if_neg (by simp)]
        have := execs_d pb p R i0 i1 m o i4 i5 i6 i7 w h hE h1 h2 h3
        rw [h3] at this
        exact this
    · rw [if_neg (fun e => h2 e.1)]
      exact execs_c pb p R i0 i1 m o i4 i5 i6 i7 w h hE h1 h2
  · rw [if_pos h1]
    exact execs_a pb p R i0 i1 m o i4 i5 i6 i7 w h hE h1

set_option maxHeartbeats 2000000 in
theorem well_exec_bad (b mb n : Nat) (st : Bk) (e : Ev) (w : World) (h : BookAt w b mb n st) (hw : wfi e.pid) (p : Pc) (hm : st.m e.pid = some p) (hg : gate st e = true) (he : e.err = 0) (hop : e.cl.op = 19) (hx : (execF p.c (e.i 2) (e.i 3)).2 ≠ 0) :
    Calls Try.prog 9 #[.pointer (some ⟨b, 0, none⟩), .agg e.cells] w fun x w' => x = .returned (.bool false) ∧ w.grownBy w' none := by
  obtain ⟨w0, hw0⟩ : ∃ w0, w.alloc (.cells e.cells 40) = w0 := ⟨_, rfl⟩
  have hB := Blk.new w 40 e.cells
  have hG := only_alloc (only_refl w none) (.cells e.cells 40)
  have hT := h.gr hG
  have hbl := h.blk.lt
  have hml := h.map.lt
  rw [hw0] at hB hG hT
  have hne : w.heap.size ≠ b ∧ w.heap.size ≠ mb := ⟨by omega, by omega⟩
  have hsz : w0.heap.size = w.heap.size + 1 := by rw [← hw0, World.size_alloc]
  have hways : (p.c.r = e.cr.r ∧ p.c.e = e.cr.e ∧ p.c.s = e.cr.s ∧ p.c.g = e.cr.g ∧ p.c.h = e.cr.h) ∧ (¬ e.cr.e = 0 ∨ (e.cr.e = 0 ∧ ¬ p.why = 0) ∨ (e.cr.e = 0 ∧ p.why = 0 ∧ p.pv = true)) := by
    unfold gate at hg
    rw [hm] at hg
    simp only [Bool.and_eq_true, decide_eq_true_eq] at hg
    obtain ⟨hg1, hg2⟩ := hg
    refine ⟨hg1, ?_⟩
    rw [hg1.2.1] at hg2
    by_cases a6 : e.cr.e = 0
    · by_cases a7 : p.why = 0
      · simp [a6, a7] at hg2
        exact .inr (.inr ⟨a6, a7, hg2⟩)
      · exact .inr (.inl ⟨a6, a7⟩)
    · exact .inl a6
  have Hways := hide hways
  clear hways hg
  have q0 : (e.err != 0) = false := by simpa using he
  have q18 : (e.cl.op == 18) = false := by simp; omega
  have q20 : (e.cl.op == 20) = false := by simp; omega
  have q19 : (e.cl.op == 19) = true := by simpa using hop
  have Hm := hide hm
  clear hm
  have HB := hide hB
  have HG := hide hG
  have HT := hide hT
  have Hw := hide hw
  have Hne := hide hne
  have Hml := hide hml
  have hws : WS b mb n w.heap.size st e.pid w0.drew := ⟨hT.blk.cell 0, hB.cell 0, hT.map.chg ((Chg.refl nobody w0).drew) (fun h => h)⟩
  obtain ⟨CC, hCC⟩ : ∃ CC, e.cells = CC := ⟨_, rfl⟩
  rw [hCC] at hw0 ⊢
  clear hB hG hT h hw hne hml
  go_enter Try.func9, Try.ntmps9
  go_wp2_with fail
  refine wp_region_perm [0, 1, 2, 3, 4, 5, 6, 7, 8, 9] [10, 11, 12] (by kernel_rfl) (by kernel_rfl) (WS b mb n w.heap.size st e.pid) hws ?_
  simp only [pick, List.getElem?_cons_zero, List.getElem?_cons_succ]
  iterate 6
    refine wpTake_cons ?_ (by rfl) ?_ ?_
    rotate_left
    · (intro W9 hSW; obtain ⟨hS0, hS1, hS2⟩ := hSW; go_simp; try with_reducible rfl)
    simp only [Act.put, List.setIfInBounds_toArray, List.set_cons_zero, List.set_cons_succ]
  refine wpTake_cons (.tuple #[((st.m e.pid).getD ⟨zero, 0, false, false⟩).agg, .bool (st.m e.pid).isSome]) (by rfl) (fun W9 hSW => by have hlk := look45 hSW.2.2 Hw.out; simp [execOp, go_sem, hlk]) ?_
  rw [Hm.out]
  simp only [Option.getD, Option.isSome, Act.put, List.setIfInBounds_toArray, List.set_cons_zero, List.set_cons_succ]
  iterate 3
    refine wpTake_cons ?_ (by rfl) ?_ ?_
    rotate_left
    · (intro W9 hSW; obtain ⟨hS0, hS1, hS2⟩ := hSW; go_simp; try with_reducible rfl)
    simp only [Act.put, List.setIfInBounds_toArray, List.set_cons_zero, List.set_cons_succ]
  refine wpTake_nil ?_
  simp only [Pc.agg]
  refine wpForce_cons fun K1 hK1 => ?_
  refine step_val (.pointer (some ⟨w0.heap.size, 0, none⟩)) (w0.drew.alloc (.cells #[.int .i64 0, .int .i64 0, .int .i64 0, .int .i64 0, .int .i64 0, .int .i64 0, .bool false, .bool false] 45)) (by rfl) (by go_simp; try rfl) ?_
  refine hK1.out _ _ (hws.chg ((Chg.refl nobody _).alloc _) (by show b < w0.heap.size; omega) (by show w.heap.size < w0.heap.size; omega)) ?_
  simp only [Act.put, List.setIfInBounds_toArray, List.set_cons_zero, List.set_cons_succ]
  refine wpForce_cons fun K2 hK2 => ?_
  refine step_skip (w0.drew.alloc (.cells #[.int .i64 p.c.r, .int .i64 p.c.e, .int .i64 p.c.s, .int .i64 p.c.g, .int .i64 p.c.h, .int .i64 p.why, .bool p.nt, .bool p.pv] 45)) (by rfl) (by go_simp) ?_
  refine hK2.out _ _ (hws.chg ((Chg.refl nobody _).alloc _) (by show b < w0.heap.size; omega) (by show w.heap.size < w0.heap.size; omega)) ?_
  simp only [Act.put, List.setIfInBounds_toArray, List.set_cons_zero, List.set_cons_succ]
  refine wpForce_one ?_
  clear hK1 hK2
  clear K1 K2
  go_wp2
  refine NoPanic.normal ?_
  have hA := At.start p HT.out HB.out HG.out Hne.out Hml.out hbl hsz
  try simp only [zero] at hA
  clear hsz hbl hw0 hws
  generalize w0.drew.alloc (.cells #[.int .i64 p.c.r, .int .i64 p.c.e, .int .i64 p.c.s, .int .i64 p.c.g, .int .i64 p.c.h, .int .i64 p.why, .bool p.nt, .bool p.pv] 45) = W, w.heap.size = eb, w0.heap.size = pk at hA ⊢
  have HA := hide hA
  obtain ⟨⟨c0, c1, c2, c3, c4, c5, c6, c7⟩, hpl, hz⟩ := hA.p.c
  have g0 : W.cell? ⟨eb, 0, none⟩ = some (.int .i64 e.pid) := hA.ev.cell 0
  have g1 : W.cell? ⟨eb, 1, none⟩ = some (.int .i64 e.cr.r) := hA.ev.cell 1
  have g2 : W.cell? ⟨eb, 2, none⟩ = some (.int .i64 e.cr.e) := hA.ev.cell 2
  have g3 : W.cell? ⟨eb, 3, none⟩ = some (.int .i64 e.cr.s) := hA.ev.cell 3
  have g4 : W.cell? ⟨eb, 4, none⟩ = some (.int .i64 e.cr.g) := hA.ev.cell 4
  have g5 : W.cell? ⟨eb, 5, none⟩ = some (.int .i64 e.cr.h) := hA.ev.cell 5
  clear hA
  have g6 : W.cell? ⟨eb, 6, none⟩ = some (.int .i64 e.cl.op) := HA.out.ev.cell 6
  have g12 : W.cell? ⟨eb, 12, none⟩ = some (.int .i64 e.cl.n) := HA.out.ev.cell 12
  have g26 : W.cell? ⟨eb, 26, none⟩ = some (.int .i64 e.err) := HA.out.ev.cell 26
  have g31 : W.cell? ⟨eb, 31, none⟩ = some (.int .i64 (e.i 0)) := HA.out.ev.cell 31
  have g32 : W.cell? ⟨eb, 32, none⟩ = some (.int .i64 (e.i 1)) := HA.out.ev.cell 32
  have g33 : W.cell? ⟨eb, 33, none⟩ = some (.int .i64 (e.i 2)) := HA.out.ev.cell 33
  have g34 : W.cell? ⟨eb, 34, none⟩ = some (.int .i64 (e.i 3)) := HA.out.ev.cell 34
  have g35 : W.cell? ⟨eb, 35, none⟩ = some (.int .i64 (e.i 4)) := HA.out.ev.cell 35
  have g36 : W.cell? ⟨eb, 36, none⟩ = some (.int .i64 (e.i 5)) := HA.out.ev.cell 36
  have g37 : W.cell? ⟨eb, 37, none⟩ = some (.int .i64 (e.i 6)) := HA.out.ev.cell 37
  have g38 : W.cell? ⟨eb, 38, none⟩ = some (.int .i64 (e.i 7)) := HA.out.ev.cell 38
  obtain ⟨⟨a1, a2, a3, a4, a5⟩, a9⟩ := Hways.out
  rcases a9 with a6 | ⟨a6, a7⟩ | ⟨a6, a7, a8⟩
  all_goals
    try rw [a8] at c7
    clear Hways
    have Hc := hide (execs_bad pk p (e.i 0) (e.i 1) (e.i 2) (e.i 3) (e.i 4) (e.i 5) (e.i 6) (e.i 7) W HA.out.p hx)
    go_wp2_with fail
    refine Hc.out.mono ?_
    rintro x w2 ⟨rfl, hg2⟩
    have HG2 := hide (only_trans HA.out.gr hg2)
    clear hg2 Hc
    clear g0 g1 g2 g3 g4 g5 g6 g12 g26 g31 g32 g33 g34 g35 g36 g37 g38
    go_wp2
    go_ret
    exact ⟨rfl, HG2.out⟩

set_option maxHeartbeats 2000000 in
theorem well_exec_ok (b mb n : Nat) (st : Bk) (e : Ev) (w : World) (h : BookAt w b mb n st) (hw : wfi e.pid) (hn : n < 100000) (p : Pc) (hm : st.m e.pid = some p) (hg : gate st e = true) (he : e.err = 0) (hop : e.cl.op = 19) (hx : (execF p.c (e.i 2) (e.i 3)).2 = 0) :
    Calls Try.prog 9 #[.pointer (some ⟨b, 0, none⟩), .agg e.cells] w fun x w' => x = .returned (.bool true) ∧ BookAt w' b mb (n + 1) ⟨updB st.m e.pid (some (execPc p (e.i 2) (e.i 3))), st.last⟩ ∧ Chg (bOwn b mb) w w' := by
  obtain ⟨w0, hw0⟩ : ∃ w0, w.alloc (.cells e.cells 40) = w0 := ⟨_, rfl⟩
  have hB := Blk.new w 40 e.cells
  have hG := only_alloc (only_refl w none) (.cells e.cells 40)
  have hT := h.gr hG
  have hbl := h.blk.lt
  have hml := h.map.lt
  rw [hw0] at hB hG hT
  have hne : w.heap.size ≠ b ∧ w.heap.size ≠ mb := ⟨by omega, by omega⟩
  have hsz : w0.heap.size = w.heap.size + 1 := by rw [← hw0, World.size_alloc]
  have hways : (p.c.r = e.cr.r ∧ p.c.e = e.cr.e ∧ p.c.s = e.cr.s ∧ p.c.g = e.cr.g ∧ p.c.h = e.cr.h) ∧ (¬ e.cr.e = 0 ∨ (e.cr.e = 0 ∧ ¬ p.why = 0) ∨ (e.cr.e = 0 ∧ p.why = 0 ∧ p.pv = true)) := by
    unfold gate at hg
    rw [hm] at hg
    simp only [Bool.and_eq_true, decide_eq_true_eq] at hg
    obtain ⟨hg1, hg2⟩ := hg
    refine ⟨hg1, ?_⟩
    rw [hg1.2.1] at hg2
    by_cases a6 : e.cr.e = 0
    · by_cases a7 : p.why = 0
      · simp [a6, a7] at hg2
        exact .inr (.inr ⟨a6, a7, hg2⟩)
      · exact .inr (.inl ⟨a6, a7⟩)
    · exact .inl a6
  have Hways := hide hways
  clear hways hg
  have q0 : (e.err != 0) = false := by simpa using he
  have q18 : (e.cl.op == 18) = false := by simp; omega
  have q20 : (e.cl.op == 20) = false := by simp; omega
  have q19 : (e.cl.op == 19) = true := by simpa using hop
  have Hm := hide hm
  clear hm
  obtain ⟨p2, hp2⟩ : ∃ p2 : Pc, (execPc p (e.i 2) (e.i 3)) = p2 := ⟨_, rfl⟩
  rw [hp2]
  have Hp2 := hide hp2
  clear hp2
  have HB := hide hB
  have HG := hide hG
  have HT := hide hT
  have Hw := hide hw
  have Hne := hide hne
  have Hml := hide hml
  have hws : WS b mb n w.heap.size st e.pid w0.drew := ⟨hT.blk.cell 0, hB.cell 0, hT.map.chg ((Chg.refl nobody w0).drew) (fun h => h)⟩
  obtain ⟨CC, hCC⟩ : ∃ CC, e.cells = CC := ⟨_, rfl⟩
  rw [hCC] at hw0 ⊢
  clear hB hG hT h hw hne hml
  go_enter Try.func9, Try.ntmps9
  go_wp2_with fail
  refine wp_region_perm [0, 1, 2, 3, 4, 5, 6, 7, 8, 9] [10, 11, 12] (by kernel_rfl) (by kernel_rfl) (WS b mb n w.heap.size st e.pid) hws ?_
  simp only [pick, List.getElem?_cons_zero, List.getElem?_cons_succ]
  iterate 6
    refine wpTake_cons ?_ (by rfl) ?_ ?_
    rotate_left
    · (intro W9 hSW; obtain ⟨hS0, hS1, hS2⟩ := hSW; go_simp; try with_reducible rfl)
    simp only [Act.put, List.setIfInBounds_toArray, List.set_cons_zero, List.set_cons_succ]
  refine wpTake_cons (.tuple #[((st.m e.pid).getD ⟨zero, 0, false, false⟩).agg, .bool (st.m e.pid).isSome]) (by rfl) (fun W9 hSW => by have hlk := look45 hSW.2.2 Hw.out; simp [execOp, go_sem, hlk]) ?_
  rw [Hm.out]
  simp only [Option.getD, Option.isSome, Act.put, List.setIfInBounds_toArray, List.set_cons_zero, List.set_cons_succ]
  iterate 3
    refine wpTake_cons ?_ (by rfl) ?_ ?_
    rotate_left
    · (intro W9 hSW; obtain ⟨hS0, hS1, hS2⟩ := hSW; go_simp; try with_reducible rfl)
    simp only [Act.put, List.setIfInBounds_toArray, List.set_cons_zero, List.set_cons_succ]
  refine wpTake_nil ?_
  simp only [Pc.agg]
  refine wpForce_cons fun K1 hK1 => ?_
  refine step_val (.pointer (some ⟨w0.heap.size, 0, none⟩)) (w0.drew.alloc (.cells #[.int .i64 0, .int .i64 0, .int .i64 0, .int .i64 0, .int .i64 0, .int .i64 0, .bool false, .bool false] 45)) (by rfl) (by go_simp; try rfl) ?_
  refine hK1.out _ _ (hws.chg ((Chg.refl nobody _).alloc _) (by show b < w0.heap.size; omega) (by show w.heap.size < w0.heap.size; omega)) ?_
  simp only [Act.put, List.setIfInBounds_toArray, List.set_cons_zero, List.set_cons_succ]
  refine wpForce_cons fun K2 hK2 => ?_
  refine step_skip (w0.drew.alloc (.cells #[.int .i64 p.c.r, .int .i64 p.c.e, .int .i64 p.c.s, .int .i64 p.c.g, .int .i64 p.c.h, .int .i64 p.why, .bool p.nt, .bool p.pv] 45)) (by rfl) (by go_simp) ?_
  refine hK2.out _ _ (hws.chg ((Chg.refl nobody _).alloc _) (by show b < w0.heap.size; omega) (by show w.heap.size < w0.heap.size; omega)) ?_
  simp only [Act.put, List.setIfInBounds_toArray, List.set_cons_zero, List.set_cons_succ]
  refine wpForce_one ?_
  clear hK1 hK2
  clear K1 K2
  go_wp2
  refine NoPanic.normal ?_
  have hA := At.start p HT.out HB.out HG.out Hne.out Hml.out hbl hsz
  try simp only [zero] at hA
  clear hsz hbl hw0 hws
  generalize w0.drew.alloc (.cells #[.int .i64 p.c.r, .int .i64 p.c.e, .int .i64 p.c.s, .int .i64 p.c.g, .int .i64 p.c.h, .int .i64 p.why, .bool p.nt, .bool p.pv] 45) = W, w.heap.size = eb, w0.heap.size = pk at hA ⊢
  have HA := hide hA
  obtain ⟨⟨c0, c1, c2, c3, c4, c5, c6, c7⟩, hpl, hz⟩ := hA.p.c
  have g0 : W.cell? ⟨eb, 0, none⟩ = some (.int .i64 e.pid) := hA.ev.cell 0
  have g1 : W.cell? ⟨eb, 1, none⟩ = some (.int .i64 e.cr.r) := hA.ev.cell 1
  have g2 : W.cell? ⟨eb, 2, none⟩ = some (.int .i64 e.cr.e) := hA.ev.cell 2
  have g3 : W.cell? ⟨eb, 3, none⟩ = some (.int .i64 e.cr.s) := hA.ev.cell 3
  have g4 : W.cell? ⟨eb, 4, none⟩ = some (.int .i64 e.cr.g) := hA.ev.cell 4
  have g5 : W.cell? ⟨eb, 5, none⟩ = some (.int .i64 e.cr.h) := hA.ev.cell 5
  clear hA
  have g6 : W.cell? ⟨eb, 6, none⟩ = some (.int .i64 e.cl.op) := HA.out.ev.cell 6
  have g12 : W.cell? ⟨eb, 12, none⟩ = some (.int .i64 e.cl.n) := HA.out.ev.cell 12
  have g26 : W.cell? ⟨eb, 26, none⟩ = some (.int .i64 e.err) := HA.out.ev.cell 26
  have g31 : W.cell? ⟨eb, 31, none⟩ = some (.int .i64 (e.i 0)) := HA.out.ev.cell 31
  have g32 : W.cell? ⟨eb, 32, none⟩ = some (.int .i64 (e.i 1)) := HA.out.ev.cell 32
  have g33 : W.cell? ⟨eb, 33, none⟩ = some (.int .i64 (e.i 2)) := HA.out.ev.cell 33
  have g34 : W.cell? ⟨eb, 34, none⟩ = some (.int .i64 (e.i 3)) := HA.out.ev.cell 34
  have g35 : W.cell? ⟨eb, 35, none⟩ = some (.int .i64 (e.i 4)) := HA.out.ev.cell 35
  have g36 : W.cell? ⟨eb, 36, none⟩ = some (.int .i64 (e.i 5)) := HA.out.ev.cell 36
  have g37 : W.cell? ⟨eb, 37, none⟩ = some (.int .i64 (e.i 6)) := HA.out.ev.cell 37
  have g38 : W.cell? ⟨eb, 38, none⟩ = some (.int .i64 (e.i 7)) := HA.out.ev.cell 38
  obtain ⟨⟨a1, a2, a3, a4, a5⟩, a9⟩ := Hways.out
  rcases a9 with a6 | ⟨a6, a7⟩ | ⟨a6, a7, a8⟩
  all_goals
    try rw [a8] at c7
    clear Hways
    have hc := execs_ok pk p (e.i 0) (e.i 1) (e.i 2) (e.i 3) (e.i 4) (e.i 5) (e.i 6) (e.i 7) W HA.out.p hx
    rw [Hp2.out] at hc
    have Hc := hide hc
    clear hc
    go_wp2_with fail
    refine Hc.out.mono ?_
    rintro x W2 ⟨rfl, hp9, hg9⟩
    have HA2 := hide (HA.out.step hg9 hp9)
    clear hp9 hg9 Hc
    clear g0 g1 g2 g3 g4 g5 g6 g12 g26 g31 g32 g33 g34 g35 g36 g37 g38
    clear c0 c1 c2 c3 c4 c5 c6 c7
    go_wp2_with fail
    have g02 : W2.drew.cell? ⟨eb, 0, none⟩ = some (.int .i64 e.pid) := HA2.out.ev.cell 0
    clear a1 a2 a3 a4 a5
    try clear a6
    try clear a7
    try clear a8
    have b0 : W2.drew.cell? ⟨b, 0, none⟩ = some (.map (some mb)) := HA2.out.book.blk.cell 0
    have hps : PS b mb eb pk e.pid p2 W2.drew := ⟨g02, Fp.of b0 (Blk.chg HA2.out.p ((Chg.refl nobody W2).drew) (fun h => h))⟩
    refine wp_region_perm [0, 1, 2, 3, 4, 5, 6] [7] (by kernel_rfl) (by kernel_rfl) (PS b mb eb pk e.pid p2) hps ?_
    simp only [pick, List.getElem?_cons_zero, List.getElem?_cons_succ]
    iterate 7
      refine wpTake_cons ?_ (by rfl) ?_ ?_
      rotate_left
      · (intro W9 hSW; obtain ⟨hSp, hS0, hS1, hS2, hS3, hS4, hS5, hS6, hS7, hS8⟩ := hSW; go_simp; try with_reducible rfl)
      simp only [Act.put, List.setIfInBounds_toArray, List.set_cons_zero, List.set_cons_succ]
    refine wpTake_nil ?_
    refine wpForce_one ?_
    refine wpList_bkPut rfl _ _ _ rfl rfl (HA2.out.book.map.chg ((Chg.refl nobody W2).drew) (fun h => h)) e.pid p2.agg rfl rfl Hw.out (by omega) ?_
    intro w2 hmp hgp
    have Hfin := hide (HA2.out.put hn hmp hgp)
    clear hmp hgp
    go_wp2
    refine NoPanic.normal ?_
    go_wp2
    go_ret
    exact ⟨rfl, Hfin.out.1, Hfin.out.2⟩

end Go.Proofs.Ytolmpejaakpikaa
