/- The walk of well: the operations. -/
import Derived.Test.YtolmpejaakpikaaE
set_option linter.all false
namespace Go.Proofs.Ytolmpejaakpikaa
open Go.RowKit Go.Maps

theorem wpList_bkDel {w : World} {mb n : Nat} {m : Int → Option Value} {ops : Array Oper} {rest : List Oper} {o : Oper} {a : Act} {Q : Exit → Act → World → Prop} (hg : o.guard = none) (x y : Operand) (hop : o.op = .call { callee := .builtin .delete, args := #[x, y], argTypes := #[46, 3] }) (hx : a.eval x = .map (some mb)) (h : MapIs Try.prog 3 w mb n m) (k : Int) (hy : a.eval y = .int .i64 k) (hk : wfi k)
    (hK : ∀ w', MapIs Try.prog 3 w' mb n (updM m k none) → w.grownBy w' (some mb) → wpList Try.prog ops Q rest (a.put o.dst (.tuple #[])) w') : wpList Try.prog ops Q (o :: rest) a w := by
  refine wpList_plain hg fun K' hK' => ?_
  obtain ⟨w', hrun, h1, h2⟩ := h.drop Try.underlying3 hk 46 o.type Try.underlying46
  unfold Oper.wp
  simp only [execOp, hop, resolve, invoke, builtin, Sem.run_bind, Sem.run_pure, Result.andThen_ok, List.map_toArray, List.map_cons, List.map_nil, hx, hy, hrun]
  exact hK' _ _ (hK w' h1 h2)
theorem At.del {w W w2 : World} {b mb n eb pk : Nat} {st : Bk} {e : Ev} {p : Pc} (h : At w W b mb n eb pk st e p) {k : Int} (hm : MapIs Try.prog 3 w2 mb n (updM st.mv k none)) (hg : W.drew.grownBy w2 (some mb)) :
    BookAt w2 b mb n ⟨updB st.m k none, st.last⟩ ∧ Chg (bOwn b mb) w w2 := by
  refine ⟨⟨Blk.grown (Blk.chg h.book.blk ((Chg.refl nobody W).drew) (fun h => h)) hg (by simpa using h.book.ne), by rw [mv_upd]; exact hm, h.book.n⟩, ?_⟩
  exact ((Chg.of_grown h.gr (fun _ h => by cases h) : Chg (bOwn b mb) w W).drew).trans (Chg.of_grown hg (fun k hk => by injection hk with hk; exact hk.symm) : Chg (one_ mb) _ _) (fun k _ hk => .inr hk)
theorem At.step {w W W2 : World} {b mb n eb pk : Nat} {st : Bk} {e : Ev} {p q : Pc} (h : At w W b mb n eb pk st e p) (hg : W.grownBy W2 (some pk)) (hq : PcIs W2 pk q) : At w W2 b mb n eb pk st e q := by
  have hc : Chg (one_ pk) W W2 := Chg.of_grown hg (fun k hk => by injection hk with hk; exact hk.symm)
  have ho := h.o2
  exact ⟨h.book.chg hc (fun e => h.n3 e.symm) (fun e => h.n4 e.symm), h.ev.chg hc (fun e => h.n5 e.symm), hq, ((Chg.of_grown h.gr (fun _ h => by cases h) : Chg (one_ pk) w W).trans hc (fun _ _ h => h)).grown (fun k hk e => by have : k = pk := e; omega), h.n1, h.n2, h.n3, h.n4, h.n5, h.o1, h.o2⟩

set_option maxHeartbeats 2000000 in
theorem well_take (b mb n : Nat) (st : Bk) (e : Ev) (w : World) (h : BookAt w b mb n st) (hw : wfi e.pid) (p : Pc) (hm : st.m e.pid = some p) (hg : gate st e = true) (he : e.err = 0) (hop : e.cl.op = 25) :
    Calls Try.prog 9 #[.pointer (some ⟨b, 0, none⟩), .agg e.cells] w fun x w' => x = .returned (.bool (e.cr.e == 0)) ∧ w.grownBy w' none := by
  obtain ⟨w0, hw0⟩ : ∃ w0, w.alloc (.cells e.cells 40) = w0 := ⟨_, rfl⟩
  have hB := Blk.new w 40 e.cells
  have hG := only_alloc (only_refl w none) (.cells e.cells 40)
  have hT := h.gr hG
  have hbl := h.blk.lt
  have hml := h.map.lt
  rw [hw0] at hB hG hT
  have hne : w.heap.size ≠ b ∧ w.heap.size ≠ mb := ⟨by omega, by omega⟩
  have hsz : w0.heap.size = w.heap.size + 1 := by rw [← hw0, World.size_alloc]
  have hways : (p.c.r = e.cr.r ∧ p.c.e = e.cr.e ∧ p.c.s = e.cr.s ∧ p.c.g = e.cr.g ∧ p.c.h = e.cr.h) ∧ (¬ e.cr.e = 0 ∨ (e.cr.e = 0 ∧ ¬ p.why = 0) ∨ (e.cr.e = 0 ∧ p.why = 0 ∧ p.pv = true)) := by
    unfold gate at hg
    rw [hm] at hg
    simp only [Bool.and_eq_true, decide_eq_true_eq] at hg
    obtain ⟨hg1, hg2⟩ := hg
    refine ⟨hg1, ?_⟩
    rw [hg1.2.1] at hg2
    by_cases a6 : e.cr.e = 0
    · by_cases a7 : p.why = 0
      · simp [a6, a7] at hg2
        exact .inr (.inr ⟨a6, a7, hg2⟩)
      · exact .inr (.inl ⟨a6, a7⟩)
    · exact .inl a6
  have Hways := hide hways
  clear hways hg
  have q0 : (e.err != 0) = false := by simpa using he
  have q18 : (e.cl.op == 18) = false := by simp; omega
  have q20 : (e.cl.op == 20) = false := by simp; omega
  have q19 : (e.cl.op == 19) = false := by simp; omega
  have q23 : (e.cl.op == 23) = false := by simp; omega
  have q26 : (e.cl.op == 26) = false := by simp; omega
  have q25 : (e.cl.op == 25) = true := by simpa using hop
  have Hm := hide hm
  clear hm
  have HB := hide hB
  have HG := hide hG
  have HT := hide hT
  have Hw := hide hw
  have Hne := hide hne
  have Hml := hide hml
  have hws : WS b mb n w.heap.size st e.pid w0.drew := ⟨hT.blk.cell 0, hB.cell 0, hT.map.chg ((Chg.refl nobody w0).drew) (fun h => h)⟩
  obtain ⟨CC, hCC⟩ : ∃ CC, e.cells = CC := ⟨_, rfl⟩
  rw [hCC] at hw0 ⊢
  clear hB hG hT h hw hne hml
  go_enter Try.func9, Try.ntmps9
  go_wp2_with fail
  refine wp_region_perm [0, 1, 2, 3, 4, 5, 6, 7, 8, 9] [10, 11, 12] (by kernel_rfl) (by kernel_rfl) (WS b mb n w.heap.size st e.pid) hws ?_
  simp only [pick, List.getElem?_cons_zero, List.getElem?_cons_succ]
  iterate 6
    refine wpTake_cons ?_ (by rfl) ?_ ?_
    rotate_left
    · (intro W9 hSW; obtain ⟨hS0, hS1, hS2⟩ := hSW; go_simp; try with_reducible rfl)
    simp only [Act.put, List.setIfInBounds_toArray, List.set_cons_zero, List.set_cons_succ]
  refine wpTake_cons (.tuple #[((st.m e.pid).getD ⟨zero, 0, false, false⟩).agg, .bool (st.m e.pid).isSome]) (by rfl) (fun W9 hSW => by have hlk := look45 hSW.2.2 Hw.out; simp [execOp, go_sem, hlk]) ?_
  rw [Hm.out]
  simp only [Option.getD, Option.isSome, Act.put, List.setIfInBounds_toArray, List.set_cons_zero, List.set_cons_succ]
  iterate 3
    refine wpTake_cons ?_ (by rfl) ?_ ?_
    rotate_left
    · (intro W9 hSW; obtain ⟨hS0, hS1, hS2⟩ := hSW; go_simp; try with_reducible rfl)
    simp only [Act.put, List.setIfInBounds_toArray, List.set_cons_zero, List.set_cons_succ]
  refine wpTake_nil ?_
  simp only [Pc.agg]
  refine wpForce_cons fun K1 hK1 => ?_
  refine step_val (.pointer (some ⟨w0.heap.size, 0, none⟩)) (w0.drew.alloc (.cells #[.int .i64 0, .int .i64 0, .int .i64 0, .int .i64 0, .int .i64 0, .int .i64 0, .bool false, .bool false] 45)) (by rfl) (by go_simp; try rfl) ?_
  refine hK1.out _ _ (hws.chg ((Chg.refl nobody _).alloc _) (by show b < w0.heap.size; omega) (by show w.heap.size < w0.heap.size; omega)) ?_
  simp only [Act.put, List.setIfInBounds_toArray, List.set_cons_zero, List.set_cons_succ]
  refine wpForce_cons fun K2 hK2 => ?_
  refine step_skip (w0.drew.alloc (.cells #[.int .i64 p.c.r, .int .i64 p.c.e, .int .i64 p.c.s, .int .i64 p.c.g, .int .i64 p.c.h, .int .i64 p.why, .bool p.nt, .bool p.pv] 45)) (by rfl) (by go_simp) ?_
  refine hK2.out _ _ (hws.chg ((Chg.refl nobody _).alloc _) (by show b < w0.heap.size; omega) (by show w.heap.size < w0.heap.size; omega)) ?_
  simp only [Act.put, List.setIfInBounds_toArray, List.set_cons_zero, List.set_cons_succ]
  refine wpForce_one ?_
  clear hK1 hK2
  clear K1 K2
  go_wp2
  refine NoPanic.normal ?_
  have hA := At.start p HT.out HB.out HG.out Hne.out Hml.out hbl hsz
  try simp only [zero] at hA
  clear hsz hbl hw0 hws
  generalize w0.drew.alloc (.cells #[.int .i64 p.c.r, .int .i64 p.c.e, .int .i64 p.c.s, .int .i64 p.c.g, .int .i64 p.c.h, .int .i64 p.why, .bool p.nt, .bool p.pv] 45) = W, w.heap.size = eb, w0.heap.size = pk at hA ⊢
  have HA := hide hA
  obtain ⟨⟨c0, c1, c2, c3, c4, c5, c6, c7⟩, hpl, hz⟩ := hA.p.c
  have g0 : W.cell? ⟨eb, 0, none⟩ = some (.int .i64 e.pid) := hA.ev.cell 0
  have g1 : W.cell? ⟨eb, 1, none⟩ = some (.int .i64 e.cr.r) := hA.ev.cell 1
  have g2 : W.cell? ⟨eb, 2, none⟩ = some (.int .i64 e.cr.e) := hA.ev.cell 2
  have g3 : W.cell? ⟨eb, 3, none⟩ = some (.int .i64 e.cr.s) := hA.ev.cell 3
  have g4 : W.cell? ⟨eb, 4, none⟩ = some (.int .i64 e.cr.g) := hA.ev.cell 4
  have g5 : W.cell? ⟨eb, 5, none⟩ = some (.int .i64 e.cr.h) := hA.ev.cell 5
  clear hA
  have g6 : W.cell? ⟨eb, 6, none⟩ = some (.int .i64 e.cl.op) := HA.out.ev.cell 6
  have g12 : W.cell? ⟨eb, 12, none⟩ = some (.int .i64 e.cl.n) := HA.out.ev.cell 12
  have g26 : W.cell? ⟨eb, 26, none⟩ = some (.int .i64 e.err) := HA.out.ev.cell 26
  obtain ⟨⟨a1, a2, a3, a4, a5⟩, a9⟩ := Hways.out
  rcases a9 with a6 | ⟨a6, a7⟩ | ⟨a6, a7, a8⟩
  all_goals
    try rw [a8] at c7
    clear Hways
    go_wp2
    go_ret
    refine ⟨?_, HA.out.gr⟩
    try simp only [a6]
    try rfl

set_option maxHeartbeats 2000000 in
theorem well_exit (b mb n : Nat) (st : Bk) (e : Ev) (w : World) (h : BookAt w b mb n st) (hw : wfi e.pid) (p : Pc) (hm : st.m e.pid = some p) (hg : gate st e = true) (he : e.err = 0) (hop : e.cl.op = 20) :
    Calls Try.prog 9 #[.pointer (some ⟨b, 0, none⟩), .agg e.cells] w fun x w' => x = .returned (.bool (e.pid != 1)) ∧ BookAt w' b mb n ⟨updB st.m e.pid none, st.last⟩ ∧ Chg (bOwn b mb) w w' := by
  obtain ⟨w0, hw0⟩ : ∃ w0, w.alloc (.cells e.cells 40) = w0 := ⟨_, rfl⟩
  have hB := Blk.new w 40 e.cells
  have hG := only_alloc (only_refl w none) (.cells e.cells 40)
  have hT := h.gr hG
  have hbl := h.blk.lt
  have hml := h.map.lt
  rw [hw0] at hB hG hT
  have hne : w.heap.size ≠ b ∧ w.heap.size ≠ mb := ⟨by omega, by omega⟩
  have hsz : w0.heap.size = w.heap.size + 1 := by rw [← hw0, World.size_alloc]
  have hways : (p.c.r = e.cr.r ∧ p.c.e = e.cr.e ∧ p.c.s = e.cr.s ∧ p.c.g = e.cr.g ∧ p.c.h = e.cr.h) ∧ (¬ e.cr.e = 0 ∨ (e.cr.e = 0 ∧ ¬ p.why = 0) ∨ (e.cr.e = 0 ∧ p.why = 0 ∧ p.pv = true)) := by
    unfold gate at hg
    rw [hm] at hg
    simp only [Bool.and_eq_true, decide_eq_true_eq] at hg
    obtain ⟨hg1, hg2⟩ := hg
    refine ⟨hg1, ?_⟩
    rw [hg1.2.1] at hg2
    by_cases a6 : e.cr.e = 0
    · by_cases a7 : p.why = 0
      · simp [a6, a7] at hg2
        exact .inr (.inr ⟨a6, a7, hg2⟩)
      · exact .inr (.inl ⟨a6, a7⟩)
    · exact .inl a6
  have Hways := hide hways
  clear hways hg
  have q0 : (e.err != 0) = false := by simpa using he
  have q18 : (e.cl.op == 18) = false := by simp; omega
  have q20 : (e.cl.op == 20) = true := by simpa using hop
  have Hm := hide hm
  clear hm
  have HB := hide hB
  have HG := hide hG
  have HT := hide hT
  have Hw := hide hw
  have Hne := hide hne
  have Hml := hide hml
  have hws : WS b mb n w.heap.size st e.pid w0.drew := ⟨hT.blk.cell 0, hB.cell 0, hT.map.chg ((Chg.refl nobody w0).drew) (fun h => h)⟩
  obtain ⟨CC, hCC⟩ : ∃ CC, e.cells = CC := ⟨_, rfl⟩
  rw [hCC] at hw0 ⊢
  clear hB hG hT h hw hne hml
  go_enter Try.func9, Try.ntmps9
  go_wp2_with fail
  refine wp_region_perm [0, 1, 2, 3, 4, 5, 6, 7, 8, 9] [10, 11, 12] (by kernel_rfl) (by kernel_rfl) (WS b mb n w.heap.size st e.pid) hws ?_
  simp only [pick, List.getElem?_cons_zero, List.getElem?_cons_succ]
  iterate 6
    refine wpTake_cons ?_ (by rfl) ?_ ?_
    rotate_left
    · (intro W9 hSW; obtain ⟨hS0, hS1, hS2⟩ := hSW; go_simp; try with_reducible rfl)
    simp only [Act.put, List.setIfInBounds_toArray, List.set_cons_zero, List.set_cons_succ]
  refine wpTake_cons (.tuple #[((st.m e.pid).getD ⟨zero, 0, false, false⟩).agg, .bool (st.m e.pid).isSome]) (by rfl) (fun W9 hSW => by have hlk := look45 hSW.2.2 Hw.out; simp [execOp, go_sem, hlk]) ?_
  rw [Hm.out]
  simp only [Option.getD, Option.isSome, Act.put, List.setIfInBounds_toArray, List.set_cons_zero, List.set_cons_succ]
  iterate 3
    refine wpTake_cons ?_ (by rfl) ?_ ?_
    rotate_left
    · (intro W9 hSW; obtain ⟨hS0, hS1, hS2⟩ := hSW; go_simp; try with_reducible rfl)
    simp only [Act.put, List.setIfInBounds_toArray, List.set_cons_zero, List.set_cons_succ]
  refine wpTake_nil ?_
  simp only [Pc.agg]
  refine wpForce_cons fun K1 hK1 => ?_
  refine step_val (.pointer (some ⟨w0.heap.size, 0, none⟩)) (w0.drew.alloc (.cells #[.int .i64 0, .int .i64 0, .int .i64 0, .int .i64 0, .int .i64 0, .int .i64 0, .bool false, .bool false] 45)) (by rfl) (by go_simp; try rfl) ?_
  refine hK1.out _ _ (hws.chg ((Chg.refl nobody _).alloc _) (by show b < w0.heap.size; omega) (by show w.heap.size < w0.heap.size; omega)) ?_
  simp only [Act.put, List.setIfInBounds_toArray, List.set_cons_zero, List.set_cons_succ]
  refine wpForce_cons fun K2 hK2 => ?_
  refine step_skip (w0.drew.alloc (.cells #[.int .i64 p.c.r, .int .i64 p.c.e, .int .i64 p.c.s, .int .i64 p.c.g, .int .i64 p.c.h, .int .i64 p.why, .bool p.nt, .bool p.pv] 45)) (by rfl) (by go_simp) ?_
  refine hK2.out _ _ (hws.chg ((Chg.refl nobody _).alloc _) (by show b < w0.heap.size; omega) (by show w.heap.size < w0.heap.size; omega)) ?_
  simp only [Act.put, List.setIfInBounds_toArray, List.set_cons_zero, List.set_cons_succ]
  refine wpForce_one ?_
  clear hK1 hK2
  clear K1 K2
  go_wp2
  refine NoPanic.normal ?_
  have hA := At.start p HT.out HB.out HG.out Hne.out Hml.out hbl hsz
  try simp only [zero] at hA
  clear hsz hbl hw0 hws
  generalize w0.drew.alloc (.cells #[.int .i64 p.c.r, .int .i64 p.c.e, .int .i64 p.c.s, .int .i64 p.c.g, .int .i64 p.c.h, .int .i64 p.why, .bool p.nt, .bool p.pv] 45) = W, w.heap.size = eb, w0.heap.size = pk at hA ⊢
  have HA := hide hA
  obtain ⟨⟨c0, c1, c2, c3, c4, c5, c6, c7⟩, hpl, hz⟩ := hA.p.c
  have g0 : W.cell? ⟨eb, 0, none⟩ = some (.int .i64 e.pid) := hA.ev.cell 0
  have g1 : W.cell? ⟨eb, 1, none⟩ = some (.int .i64 e.cr.r) := hA.ev.cell 1
  have g2 : W.cell? ⟨eb, 2, none⟩ = some (.int .i64 e.cr.e) := hA.ev.cell 2
  have g3 : W.cell? ⟨eb, 3, none⟩ = some (.int .i64 e.cr.s) := hA.ev.cell 3
  have g4 : W.cell? ⟨eb, 4, none⟩ = some (.int .i64 e.cr.g) := hA.ev.cell 4
  have g5 : W.cell? ⟨eb, 5, none⟩ = some (.int .i64 e.cr.h) := hA.ev.cell 5
  clear hA
  have g6 : W.cell? ⟨eb, 6, none⟩ = some (.int .i64 e.cl.op) := HA.out.ev.cell 6
  have g12 : W.cell? ⟨eb, 12, none⟩ = some (.int .i64 e.cl.n) := HA.out.ev.cell 12
  have g26 : W.cell? ⟨eb, 26, none⟩ = some (.int .i64 e.err) := HA.out.ev.cell 26
  obtain ⟨⟨a1, a2, a3, a4, a5⟩, a9⟩ := Hways.out
  rcases a9 with a6 | ⟨a6, a7⟩ | ⟨a6, a7, a8⟩
  all_goals
    try rw [a8] at c7
    clear Hways
    go_wp2_with fail
    clear a1 a2 a3 a4 a5 c0 c1 c2 c3 c4 c5 c6 c7
    try clear a6
    try clear a7
    try clear a8
    have b0 : W.drew.cell? ⟨b, 0, none⟩ = some (.map (some mb)) := HA.out.book.blk.cell 0
    refine wp_region_perm [0, 1, 2, 3, 4, 5] [6] (by kernel_rfl) (by kernel_rfl) (fun W9 => W9.cell? ⟨b, 0, none⟩ = some (.map (some mb)) ∧ W9.cell? ⟨eb, 0, none⟩ = some (.int .i64 e.pid)) ⟨b0, g0⟩ ?_
    simp only [pick, List.getElem?_cons_zero, List.getElem?_cons_succ]
    iterate 6
      refine wpTake_cons ?_ (by rfl) ?_ ?_
      rotate_left
      · (intro W9 hSW; obtain ⟨hS0, hS1⟩ := hSW; go_simp; try with_reducible rfl)
      simp only [Act.put, List.setIfInBounds_toArray, List.set_cons_zero, List.set_cons_succ]
    refine wpTake_nil ?_
    refine wpForce_one ?_
    refine wpList_bkDel rfl _ _ rfl rfl (HA.out.book.map.chg ((Chg.refl nobody W).drew) (fun h => h)) e.pid rfl Hw.out ?_
    intro w2 hmp hgp
    have k0 : w2.cell? ⟨eb, 0, none⟩ = some (.int .i64 e.pid) := (Blk.grown (Blk.chg HA.out.ev ((Chg.refl nobody W).drew) (fun h => h)) hgp (by simpa using HA.out.n2)).cell 0
    have Hfin := hide (HA.out.del hmp hgp)
    clear hmp hgp
    go_wp2
    refine NoPanic.normal ?_
    go_wp2
    go_ret
    exact ⟨rfl, Hfin.out.1, Hfin.out.2⟩

end Go.Proofs.Ytolmpejaakpikaa
