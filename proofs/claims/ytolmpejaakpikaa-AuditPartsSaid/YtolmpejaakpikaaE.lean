/- The walk of well. -/
import Derived.Test.YtolmpejaakpikaaD
set_option linter.all false
namespace Go.Proofs.Ytolmpejaakpikaa
open Go.RowKit Go.Maps

/-- What well asks first. -/
def gate (st : Bk) (e : Ev) : Bool := match st.m e.pid with
  | none => false
  | some p => decide (p.c.r = e.cr.r ∧ p.c.e = e.cr.e ∧ p.c.s = e.cr.s ∧ p.c.g = e.cr.g ∧ p.c.h = e.cr.h) && !(decide (p.c.e = 0) && (decide (p.why = 0) && !p.pv))
def WS (b mb n eb : Nat) (st : Bk) (pid : Int) (W : World) : Prop := W.cell? ⟨b, 0, none⟩ = some (.map (some mb)) ∧ W.cell? ⟨eb, 0, none⟩ = some (.int .i64 pid) ∧ MapIs Try.prog 3 W mb n st.mv
theorem WS.chg {b mb n eb : Nat} {st : Bk} {pid : Int} {w w' : World} (h : WS b mb n eb st pid w) (hc : Chg nobody w w') (hb : b < w.heap.size) (he : eb < w.heap.size) : WS b mb n eb st pid w' :=
  ⟨(hc.cell (p := ⟨b, 0, none⟩) hb (fun h => h)).trans h.1, (hc.cell (p := ⟨eb, 0, none⟩) he (fun h => h)).trans h.2.1, h.2.2.chg hc (fun h => h)⟩
/-- What is known behind well's first steps: the event laid, the process laid. -/
structure At (w W : World) (b mb n eb pk : Nat) (st : Bk) (e : Ev) (p : Pc) : Prop where
  book : BookAt W b mb n st
  ev : Blk W eb 40 e.cells
  p : PcIs W pk p
  gr : w.grownBy W none
  n1 : eb ≠ b
  n2 : eb ≠ mb
  n3 : pk ≠ b
  n4 : pk ≠ mb
  n5 : pk ≠ eb
  o1 : w.heap.size ≤ eb
  o2 : w.heap.size ≤ pk
def PS (b mb eb pk : Nat) (pid : Int) (p : Pc) (W : World) : Prop := W.cell? ⟨eb, 0, none⟩ = some (.int .i64 pid) ∧ Fp b mb pk p W
theorem wpList_bkPut {w : World} {mb n : Nat} {m : Int → Option Value} {ops : Array Oper} {rest : List Oper} {o : Oper} {a : Act} {Q : Exit → Act → World → Prop} (hg : o.guard = none) (x y z : Operand) (hop : o.op = Op.mapUpdate 46 x y z) (hx : a.eval x = .map (some mb)) (h : MapIs Try.prog 3 w mb n m) (k : Int) (v : Value) (hy : a.eval y = .int .i64 k) (hz : a.eval z = v) (hk : wfi k) (hn : n < 1000000)
    (hK : ∀ w', MapIs Try.prog 3 w' mb (n + 1) (updM m k (some v)) → w.grownBy w' (some mb) → wpList Try.prog ops Q rest (a.put o.dst undef) w') : wpList Try.prog ops Q (o :: rest) a w := by
  refine wpList_plain hg fun K' hK' => ?_
  obtain ⟨w', hrun, h1, h2⟩ := h.put Try.underlying3 hk v hn 46 Try.underlying46
  unfold Oper.wp
  simp [execOp, hop, hx, hy, hz, hrun, Result.andThen]
  exact hK' _ _ (hK w' h1 h2)
theorem At.put {w W w2 : World} {b mb n eb pk : Nat} {st : Bk} {e : Ev} {p : Pc} (h : At w W b mb n eb pk st e p) {k : Int} {q : Pc} (hn : n < 100000) (hm : MapIs Try.prog 3 w2 mb (n + 1) (updM st.mv k (some q.agg))) (hg : W.drew.grownBy w2 (some mb)) :
    BookAt w2 b mb (n + 1) ⟨updB st.m k (some q), st.last⟩ ∧ Chg (bOwn b mb) w w2 := by
  refine ⟨⟨Blk.grown (Blk.chg h.book.blk ((Chg.refl nobody W).drew) (fun h => h)) hg (by simpa using h.book.ne), by rw [mv_upd]; exact hm, by omega⟩, ?_⟩
  exact ((Chg.of_grown h.gr (fun _ h => by cases h) : Chg (bOwn b mb) w W).drew).trans (Chg.of_grown hg (fun k hk => by injection hk with hk; exact hk.symm) : Chg (one_ mb) _ _) (fun k _ hk => .inr hk)
theorem At.start {w w0 : World} {b mb n : Nat} {st : Bk} {e : Ev} (p : Pc) (hT : BookAt w0 b mb n st) (hB : Blk w0 w.heap.size 40 e.cells) (hG : w.grownBy w0 none) (hne : w.heap.size ≠ b ∧ w.heap.size ≠ mb) (hml : mb < w.heap.size) (hbl : b < w.heap.size) (hsz : w0.heap.size = w.heap.size + 1) :
    At w (w0.drew.alloc (.cells #[.int .i64 p.c.r, .int .i64 p.c.e, .int .i64 p.c.s, .int .i64 p.c.g, .int .i64 p.c.h, .int .i64 p.why, .bool p.nt, .bool p.pv] 45)) b mb n w.heap.size w0.heap.size st e p := by
  have hc : Chg nobody w0 (w0.drew.alloc (.cells #[.int .i64 p.c.r, .int .i64 p.c.e, .int .i64 p.c.s, .int .i64 p.c.g, .int .i64 p.c.h, .int .i64 p.why, .bool p.nt, .bool p.pv] 45)) := (Chg.refl nobody w0).drew.alloc _
  exact ⟨hT.chg hc (fun h => h) (fun h => h), hB.chg hc (fun h => h), Blk.new w0.drew 45 _, only_alloc (only_drew hG) _, hne.1, hne.2, by omega, by omega, by omega, Nat.le_refl _, by omega⟩
theorem look45 {w : World} {mb n : Nat} {st : Bk} (h : MapIs Try.prog 3 w mb n st.mv) {k : Int} (hk : wfi k) :
    (Instr.lookup 46 (.map (some mb)) (.int .i64 k) true).run Try.prog w = .ok (.tuple #[((st.m k).getD ⟨zero, 0, false, false⟩).agg, .bool (st.m k).isSome]) w := by
  have := h.lookOk Try.underlying3 hk 46 Try.underlying46 (zero45 w)
  rw [this]
  unfold Bk.mv
  cases st.m k <;> rfl

set_option maxHeartbeats 2000000 in
theorem well_none (b mb n : Nat) (st : Bk) (e : Ev) (w : World) (h : BookAt w b mb n st) (hw : wfi e.pid) (hm : st.m e.pid = none) :
    Calls Try.prog 9 #[.pointer (some ⟨b, 0, none⟩), .agg e.cells] w fun x w' => x = .returned (.bool false) ∧ w.grownBy w' none := by
  obtain ⟨w0, hw0⟩ : ∃ w0, w.alloc (.cells e.cells 40) = w0 := ⟨_, rfl⟩
  have hB := Blk.new w 40 e.cells
  have hG := only_alloc (only_refl w none) (.cells e.cells 40)
  have hT := h.gr hG
  have hbl := h.blk.lt
  have hml := h.map.lt
  rw [hw0] at hB hG hT
  have hne : w.heap.size ≠ b ∧ w.heap.size ≠ mb := ⟨by omega, by omega⟩
  have hsz : w0.heap.size = w.heap.size + 1 := by rw [← hw0, World.size_alloc]
  have Hm := hide hm
  clear hm
  have HB := hide hB
  have HG := hide hG
  have HT := hide hT
  have Hw := hide hw
  have Hne := hide hne
  have Hml := hide hml
  have hws : WS b mb n w.heap.size st e.pid w0.drew := ⟨hT.blk.cell 0, hB.cell 0, hT.map.chg ((Chg.refl nobody w0).drew) (fun h => h)⟩
  obtain ⟨CC, hCC⟩ : ∃ CC, e.cells = CC := ⟨_, rfl⟩
  rw [hCC] at hw0 ⊢
  clear hB hG hT h hw hne hml
  go_enter Try.func9, Try.ntmps9
  go_wp2_with fail
  refine wp_region_perm [0, 1, 2, 3, 4, 5, 6, 7, 8, 9] [10, 11, 12] (by kernel_rfl) (by kernel_rfl) (WS b mb n w.heap.size st e.pid) hws ?_
  simp only [pick, List.getElem?_cons_zero, List.getElem?_cons_succ]
  iterate 6
    refine wpTake_cons ?_ (by rfl) ?_ ?_
    rotate_left
    · (intro W9 hSW; obtain ⟨hS0, hS1, hS2⟩ := hSW; go_simp; try with_reducible rfl)
    simp only [Act.put, List.setIfInBounds_toArray, List.set_cons_zero, List.set_cons_succ]
  refine wpTake_cons (.tuple #[((st.m e.pid).getD ⟨zero, 0, false, false⟩).agg, .bool (st.m e.pid).isSome]) (by rfl) (fun W9 hSW => by have hlk := look45 hSW.2.2 Hw.out; simp [execOp, go_sem, hlk]) ?_
  rw [Hm.out]
  simp only [Option.getD, Option.isSome, Act.put, List.setIfInBounds_toArray, List.set_cons_zero, List.set_cons_succ]
  iterate 3
    refine wpTake_cons ?_ (by rfl) ?_ ?_
    rotate_left
    · (intro W9 hSW; obtain ⟨hS0, hS1, hS2⟩ := hSW; go_simp; try with_reducible rfl)
    simp only [Act.put, List.setIfInBounds_toArray, List.set_cons_zero, List.set_cons_succ]
  refine wpTake_nil ?_
  simp only [Pc.agg, zero]
  refine wpForce_cons fun K1 hK1 => ?_
  refine step_val (.pointer (some ⟨w0.heap.size, 0, none⟩)) (w0.drew.alloc (.cells #[.int .i64 0, .int .i64 0, .int .i64 0, .int .i64 0, .int .i64 0, .int .i64 0, .bool false, .bool false] 45)) (by rfl) (by go_simp; try rfl) ?_
  refine hK1.out _ _ (hws.chg ((Chg.refl nobody _).alloc _) (by show b < w0.heap.size; omega) (by show w.heap.size < w0.heap.size; omega)) ?_
  simp only [Act.put, List.setIfInBounds_toArray, List.set_cons_zero, List.set_cons_succ]
  refine wpForce_cons fun K2 hK2 => ?_
  refine step_skip (w0.drew.alloc (.cells #[.int .i64 0, .int .i64 0, .int .i64 0, .int .i64 0, .int .i64 0, .int .i64 0, .bool false, .bool false] 45)) (by rfl) (by go_simp) ?_
  refine hK2.out _ _ (hws.chg ((Chg.refl nobody _).alloc _) (by show b < w0.heap.size; omega) (by show w.heap.size < w0.heap.size; omega)) ?_
  simp only [Act.put, List.setIfInBounds_toArray, List.set_cons_zero, List.set_cons_succ]
  refine wpForce_one ?_
  clear hK1 hK2
  clear K1 K2
  go_wp2
  refine NoPanic.normal ?_
  have hA := At.start ⟨zero, 0, false, false⟩ HT.out HB.out HG.out Hne.out Hml.out hbl hsz
  try simp only [zero] at hA
  clear hsz hbl hw0 hws
  generalize w0.drew.alloc (.cells #[.int .i64 0, .int .i64 0, .int .i64 0, .int .i64 0, .int .i64 0, .int .i64 0, .bool false, .bool false] 45) = W, w.heap.size = eb, w0.heap.size = pk at hA ⊢
  have HA := hide hA
  obtain ⟨⟨c0, c1, c2, c3, c4, c5, c6, c7⟩, hpl, hz⟩ := hA.p.c
  have g0 : W.cell? ⟨eb, 0, none⟩ = some (.int .i64 e.pid) := hA.ev.cell 0
  have g1 : W.cell? ⟨eb, 1, none⟩ = some (.int .i64 e.cr.r) := hA.ev.cell 1
  have g2 : W.cell? ⟨eb, 2, none⟩ = some (.int .i64 e.cr.e) := hA.ev.cell 2
  have g3 : W.cell? ⟨eb, 3, none⟩ = some (.int .i64 e.cr.s) := hA.ev.cell 3
  have g4 : W.cell? ⟨eb, 4, none⟩ = some (.int .i64 e.cr.g) := hA.ev.cell 4
  have g5 : W.cell? ⟨eb, 5, none⟩ = some (.int .i64 e.cr.h) := hA.ev.cell 5
  clear hA
  go_wp2
  go_ret
  exact ⟨rfl, HA.out.gr⟩

set_option maxHeartbeats 2000000 in
theorem well_gate (b mb n : Nat) (st : Bk) (e : Ev) (w : World) (h : BookAt w b mb n st) (hw : wfi e.pid) (p : Pc) (hm : st.m e.pid = some p) (hg : gate st e = false) :
    Calls Try.prog 9 #[.pointer (some ⟨b, 0, none⟩), .agg e.cells] w fun x w' => x = .returned (.bool false) ∧ w.grownBy w' none := by
  obtain ⟨w0, hw0⟩ : ∃ w0, w.alloc (.cells e.cells 40) = w0 := ⟨_, rfl⟩
  have hB := Blk.new w 40 e.cells
  have hG := only_alloc (only_refl w none) (.cells e.cells 40)
  have hT := h.gr hG
  have hbl := h.blk.lt
  have hml := h.map.lt
  rw [hw0] at hB hG hT
  have hne : w.heap.size ≠ b ∧ w.heap.size ≠ mb := ⟨by omega, by omega⟩
  have hsz : w0.heap.size = w.heap.size + 1 := by rw [← hw0, World.size_alloc]
  have hways : (¬ p.c.r = e.cr.r) ∨ (p.c.r = e.cr.r ∧ ¬ p.c.e = e.cr.e) ∨ (p.c.r = e.cr.r ∧ p.c.e = e.cr.e ∧ ¬ p.c.s = e.cr.s) ∨ (p.c.r = e.cr.r ∧ p.c.e = e.cr.e ∧ p.c.s = e.cr.s ∧ ¬ p.c.g = e.cr.g) ∨ (p.c.r = e.cr.r ∧ p.c.e = e.cr.e ∧ p.c.s = e.cr.s ∧ p.c.g = e.cr.g ∧ ¬ p.c.h = e.cr.h) ∨ (p.c.r = e.cr.r ∧ p.c.e = e.cr.e ∧ p.c.s = e.cr.s ∧ p.c.g = e.cr.g ∧ p.c.h = e.cr.h ∧ p.c.e = 0 ∧ p.why = 0 ∧ p.pv = false) := by
    unfold gate at hg
    rw [hm] at hg
    simp only at hg
    by_cases a1 : p.c.r = e.cr.r
    · by_cases a2 : p.c.e = e.cr.e
      · by_cases a3 : p.c.s = e.cr.s
        · by_cases a4 : p.c.g = e.cr.g
          · by_cases a5 : p.c.h = e.cr.h
            · simp [a1, a2, a3, a4, a5] at hg ⊢
              exact hg
            · simp [a1, a2, a3, a4, a5]
          · simp [a1, a2, a3, a4]
        · simp [a1, a2, a3]
      · simp [a1, a2]
    · simp [a1]
  have Hways := hide hways
  clear hways hg
  have Hm := hide hm
  clear hm
  have HB := hide hB
  have HG := hide hG
  have HT := hide hT
  have Hw := hide hw
  have Hne := hide hne
  have Hml := hide hml
  have hws : WS b mb n w.heap.size st e.pid w0.drew := ⟨hT.blk.cell 0, hB.cell 0, hT.map.chg ((Chg.refl nobody w0).drew) (fun h => h)⟩
  obtain ⟨CC, hCC⟩ : ∃ CC, e.cells = CC := ⟨_, rfl⟩
  rw [hCC] at hw0 ⊢
  clear hB hG hT h hw hne hml
  go_enter Try.func9, Try.ntmps9
  go_wp2_with fail
  refine wp_region_perm [0, 1, 2, 3, 4, 5, 6, 7, 8, 9] [10, 11, 12] (by kernel_rfl) (by kernel_rfl) (WS b mb n w.heap.size st e.pid) hws ?_
  simp only [pick, List.getElem?_cons_zero, List.getElem?_cons_succ]
  iterate 6
    refine wpTake_cons ?_ (by rfl) ?_ ?_
    rotate_left
    · (intro W9 hSW; obtain ⟨hS0, hS1, hS2⟩ := hSW; go_simp; try with_reducible rfl)
    simp only [Act.put, List.setIfInBounds_toArray, List.set_cons_zero, List.set_cons_succ]
  refine wpTake_cons (.tuple #[((st.m e.pid).getD ⟨zero, 0, false, false⟩).agg, .bool (st.m e.pid).isSome]) (by rfl) (fun W9 hSW => by have hlk := look45 hSW.2.2 Hw.out; simp [execOp, go_sem, hlk]) ?_
  rw [Hm.out]
  simp only [Option.getD, Option.isSome, Act.put, List.setIfInBounds_toArray, List.set_cons_zero, List.set_cons_succ]
  iterate 3
    refine wpTake_cons ?_ (by rfl) ?_ ?_
    rotate_left
    · (intro W9 hSW; obtain ⟨hS0, hS1, hS2⟩ := hSW; go_simp; try with_reducible rfl)
    simp only [Act.put, List.setIfInBounds_toArray, List.set_cons_zero, List.set_cons_succ]
  refine wpTake_nil ?_
  simp only [Pc.agg]
  refine wpForce_cons fun K1 hK1 => ?_
  refine step_val (.pointer (some ⟨w0.heap.size, 0, none⟩)) (w0.drew.alloc (.cells #[.int .i64 0, .int .i64 0, .int .i64 0, .int .i64 0, .int .i64 0, .int .i64 0, .bool false, .bool false] 45)) (by rfl) (by go_simp; try rfl) ?_
  refine hK1.out _ _ (hws.chg ((Chg.refl nobody _).alloc _) (by show b < w0.heap.size; omega) (by show w.heap.size < w0.heap.size; omega)) ?_
  simp only [Act.put, List.setIfInBounds_toArray, List.set_cons_zero, List.set_cons_succ]
  refine wpForce_cons fun K2 hK2 => ?_
  refine step_skip (w0.drew.alloc (.cells #[.int .i64 p.c.r, .int .i64 p.c.e, .int .i64 p.c.s, .int .i64 p.c.g, .int .i64 p.c.h, .int .i64 p.why, .bool p.nt, .bool p.pv] 45)) (by rfl) (by go_simp) ?_
  refine hK2.out _ _ (hws.chg ((Chg.refl nobody _).alloc _) (by show b < w0.heap.size; omega) (by show w.heap.size < w0.heap.size; omega)) ?_
  simp only [Act.put, List.setIfInBounds_toArray, List.set_cons_zero, List.set_cons_succ]
  refine wpForce_one ?_
  clear hK1 hK2
  clear K1 K2
  go_wp2
  refine NoPanic.normal ?_
  have hA := At.start p HT.out HB.out HG.out Hne.out Hml.out hbl hsz
  try simp only [zero] at hA
  clear hsz hbl hw0 hws
  generalize w0.drew.alloc (.cells #[.int .i64 p.c.r, .int .i64 p.c.e, .int .i64 p.c.s, .int .i64 p.c.g, .int .i64 p.c.h, .int .i64 p.why, .bool p.nt, .bool p.pv] 45) = W, w.heap.size = eb, w0.heap.size = pk at hA ⊢
  have HA := hide hA
  obtain ⟨⟨c0, c1, c2, c3, c4, c5, c6, c7⟩, hpl, hz⟩ := hA.p.c
  have g0 : W.cell? ⟨eb, 0, none⟩ = some (.int .i64 e.pid) := hA.ev.cell 0
  have g1 : W.cell? ⟨eb, 1, none⟩ = some (.int .i64 e.cr.r) := hA.ev.cell 1
  have g2 : W.cell? ⟨eb, 2, none⟩ = some (.int .i64 e.cr.e) := hA.ev.cell 2
  have g3 : W.cell? ⟨eb, 3, none⟩ = some (.int .i64 e.cr.s) := hA.ev.cell 3
  have g4 : W.cell? ⟨eb, 4, none⟩ = some (.int .i64 e.cr.g) := hA.ev.cell 4
  have g5 : W.cell? ⟨eb, 5, none⟩ = some (.int .i64 e.cr.h) := hA.ev.cell 5
  clear hA
  rcases Hways.out with a1 | ⟨a1, a2⟩ | ⟨a1, a2, a3⟩ | ⟨a1, a2, a3, a4⟩ | ⟨a1, a2, a3, a4, a5⟩ | ⟨a1, a2, a3, a4, a5, a6, a7, a8⟩
  all_goals
    try rw [a8] at c7
    clear Hways
    go_wp2
    go_ret
    exact ⟨rfl, HA.out.gr⟩

set_option maxHeartbeats 2000000 in
theorem well_err (b mb n : Nat) (st : Bk) (e : Ev) (w : World) (h : BookAt w b mb n st) (hw : wfi e.pid) (p : Pc) (hm : st.m e.pid = some p) (hg : gate st e = true) (he : e.err ≠ 0) :
    Calls Try.prog 9 #[.pointer (some ⟨b, 0, none⟩), .agg e.cells] w fun x w' => x = .returned (.bool true) ∧ w.grownBy w' none := by
  obtain ⟨w0, hw0⟩ : ∃ w0, w.alloc (.cells e.cells 40) = w0 := ⟨_, rfl⟩
  have hB := Blk.new w 40 e.cells
  have hG := only_alloc (only_refl w none) (.cells e.cells 40)
  have hT := h.gr hG
  have hbl := h.blk.lt
  have hml := h.map.lt
  rw [hw0] at hB hG hT
  have hne : w.heap.size ≠ b ∧ w.heap.size ≠ mb := ⟨by omega, by omega⟩
  have hsz : w0.heap.size = w.heap.size + 1 := by rw [← hw0, World.size_alloc]
  have hways : (p.c.r = e.cr.r ∧ p.c.e = e.cr.e ∧ p.c.s = e.cr.s ∧ p.c.g = e.cr.g ∧ p.c.h = e.cr.h) ∧ (¬ e.cr.e = 0 ∨ (e.cr.e = 0 ∧ ¬ p.why = 0) ∨ (e.cr.e = 0 ∧ p.why = 0 ∧ p.pv = true)) := by
    unfold gate at hg
    rw [hm] at hg
    simp only [Bool.and_eq_true, decide_eq_true_eq] at hg
    obtain ⟨hg1, hg2⟩ := hg
    refine ⟨hg1, ?_⟩
    rw [hg1.2.1] at hg2
    by_cases a6 : e.cr.e = 0
    · by_cases a7 : p.why = 0
      · simp [a6, a7] at hg2
        exact .inr (.inr ⟨a6, a7, hg2⟩)
      · exact .inr (.inl ⟨a6, a7⟩)
    · exact .inl a6
  have Hways := hide hways
  clear hways hg
  have q0 : (e.err != 0) = true := by simpa using he
  have Hm := hide hm
  clear hm
  have HB := hide hB
  have HG := hide hG
  have HT := hide hT
  have Hw := hide hw
  have Hne := hide hne
  have Hml := hide hml
  have hws : WS b mb n w.heap.size st e.pid w0.drew := ⟨hT.blk.cell 0, hB.cell 0, hT.map.chg ((Chg.refl nobody w0).drew) (fun h => h)⟩
  obtain ⟨CC, hCC⟩ : ∃ CC, e.cells = CC := ⟨_, rfl⟩
  rw [hCC] at hw0 ⊢
  clear hB hG hT h hw hne hml
  go_enter Try.func9, Try.ntmps9
  go_wp2_with fail
  refine wp_region_perm [0, 1, 2, 3, 4, 5, 6, 7, 8, 9] [10, 11, 12] (by kernel_rfl) (by kernel_rfl) (WS b mb n w.heap.size st e.pid) hws ?_
  simp only [pick, List.getElem?_cons_zero, List.getElem?_cons_succ]
  iterate 6
    refine wpTake_cons ?_ (by rfl) ?_ ?_
    rotate_left
    · (intro W9 hSW; obtain ⟨hS0, hS1, hS2⟩ := hSW; go_simp; try with_reducible rfl)
    simp only [Act.put, List.setIfInBounds_toArray, List.set_cons_zero, List.set_cons_succ]
  refine wpTake_cons (.tuple #[((st.m e.pid).getD ⟨zero, 0, false, false⟩).agg, .bool (st.m e.pid).isSome]) (by rfl) (fun W9 hSW => by have hlk := look45 hSW.2.2 Hw.out; simp [execOp, go_sem, hlk]) ?_
  rw [Hm.out]
  simp only [Option.getD, Option.isSome, Act.put, List.setIfInBounds_toArray, List.set_cons_zero, List.set_cons_succ]
  iterate 3
    refine wpTake_cons ?_ (by rfl) ?_ ?_
    rotate_left
    · (intro W9 hSW; obtain ⟨hS0, hS1, hS2⟩ := hSW; go_simp; try with_reducible rfl)
    simp only [Act.put, List.setIfInBounds_toArray, List.set_cons_zero, List.set_cons_succ]
  refine wpTake_nil ?_
  simp only [Pc.agg]
  refine wpForce_cons fun K1 hK1 => ?_
  refine step_val (.pointer (some ⟨w0.heap.size, 0, none⟩)) (w0.drew.alloc (.cells #[.int .i64 0, .int .i64 0, .int .i64 0, .int .i64 0, .int .i64 0, .int .i64 0, .bool false, .bool false] 45)) (by rfl) (by go_simp; try rfl) ?_
  refine hK1.out _ _ (hws.chg ((Chg.refl nobody _).alloc _) (by show b < w0.heap.size; omega) (by show w.heap.size < w0.heap.size; omega)) ?_
  simp only [Act.put, List.setIfInBounds_toArray, List.set_cons_zero, List.set_cons_succ]
  refine wpForce_cons fun K2 hK2 => ?_
  refine step_skip (w0.drew.alloc (.cells #[.int .i64 p.c.r, .int .i64 p.c.e, .int .i64 p.c.s, .int .i64 p.c.g, .int .i64 p.c.h, .int .i64 p.why, .bool p.nt, .bool p.pv] 45)) (by rfl) (by go_simp) ?_
  refine hK2.out _ _ (hws.chg ((Chg.refl nobody _).alloc _) (by show b < w0.heap.size; omega) (by show w.heap.size < w0.heap.size; omega)) ?_
  simp only [Act.put, List.setIfInBounds_toArray, List.set_cons_zero, List.set_cons_succ]
  refine wpForce_one ?_
  clear hK1 hK2
  clear K1 K2
  go_wp2
  refine NoPanic.normal ?_
  have hA := At.start p HT.out HB.out HG.out Hne.out Hml.out hbl hsz
  try simp only [zero] at hA
  clear hsz hbl hw0 hws
  generalize w0.drew.alloc (.cells #[.int .i64 p.c.r, .int .i64 p.c.e, .int .i64 p.c.s, .int .i64 p.c.g, .int .i64 p.c.h, .int .i64 p.why, .bool p.nt, .bool p.pv] 45) = W, w.heap.size = eb, w0.heap.size = pk at hA ⊢
  have HA := hide hA
  obtain ⟨⟨c0, c1, c2, c3, c4, c5, c6, c7⟩, hpl, hz⟩ := hA.p.c
  have g0 : W.cell? ⟨eb, 0, none⟩ = some (.int .i64 e.pid) := hA.ev.cell 0
  have g1 : W.cell? ⟨eb, 1, none⟩ = some (.int .i64 e.cr.r) := hA.ev.cell 1
  have g2 : W.cell? ⟨eb, 2, none⟩ = some (.int .i64 e.cr.e) := hA.ev.cell 2
  have g3 : W.cell? ⟨eb, 3, none⟩ = some (.int .i64 e.cr.s) := hA.ev.cell 3
  have g4 : W.cell? ⟨eb, 4, none⟩ = some (.int .i64 e.cr.g) := hA.ev.cell 4
  have g5 : W.cell? ⟨eb, 5, none⟩ = some (.int .i64 e.cr.h) := hA.ev.cell 5
  clear hA
  have g6 : W.cell? ⟨eb, 6, none⟩ = some (.int .i64 e.cl.op) := HA.out.ev.cell 6
  have g12 : W.cell? ⟨eb, 12, none⟩ = some (.int .i64 e.cl.n) := HA.out.ev.cell 12
  have g26 : W.cell? ⟨eb, 26, none⟩ = some (.int .i64 e.err) := HA.out.ev.cell 26
  obtain ⟨⟨a1, a2, a3, a4, a5⟩, a9⟩ := Hways.out
  rcases a9 with a6 | ⟨a6, a7⟩ | ⟨a6, a7, a8⟩
  all_goals
    try rw [a8] at c7
    clear Hways
    go_wp2
    go_ret
    exact ⟨rfl, HA.out.gr⟩

set_option maxHeartbeats 2000000 in
theorem well_other (b mb n : Nat) (st : Bk) (e : Ev) (w : World) (h : BookAt w b mb n st) (hw : wfi e.pid) (hn : n < 100000) (p : Pc) (hm : st.m e.pid = some p) (hg : gate st e = true) (he : e.err = 0) (hop : e.cl.op ≠ 18 ∧ e.cl.op ≠ 20 ∧ e.cl.op ≠ 19 ∧ e.cl.op ≠ 23 ∧ e.cl.op ≠ 26 ∧ e.cl.op ≠ 25) :
    Calls Try.prog 9 #[.pointer (some ⟨b, 0, none⟩), .agg e.cells] w fun x w' => x = .returned (.bool true) ∧ BookAt w' b mb (n + 1) ⟨updB st.m e.pid (some p), st.last⟩ ∧ Chg (bOwn b mb) w w' := by
  obtain ⟨w0, hw0⟩ : ∃ w0, w.alloc (.cells e.cells 40) = w0 := ⟨_, rfl⟩
  have hB := Blk.new w 40 e.cells
  have hG := only_alloc (only_refl w none) (.cells e.cells 40)
  have hT := h.gr hG
  have hbl := h.blk.lt
  have hml := h.map.lt
  rw [hw0] at hB hG hT
  have hne : w.heap.size ≠ b ∧ w.heap.size ≠ mb := ⟨by omega, by omega⟩
  have hsz : w0.heap.size = w.heap.size + 1 := by rw [← hw0, World.size_alloc]
  have hways : (p.c.r = e.cr.r ∧ p.c.e = e.cr.e ∧ p.c.s = e.cr.s ∧ p.c.g = e.cr.g ∧ p.c.h = e.cr.h) ∧ (¬ e.cr.e = 0 ∨ (e.cr.e = 0 ∧ ¬ p.why = 0) ∨ (e.cr.e = 0 ∧ p.why = 0 ∧ p.pv = true)) := by
    unfold gate at hg
    rw [hm] at hg
    simp only [Bool.and_eq_true, decide_eq_true_eq] at hg
    obtain ⟨hg1, hg2⟩ := hg
    refine ⟨hg1, ?_⟩
    rw [hg1.2.1] at hg2
    by_cases a6 : e.cr.e = 0
    · by_cases a7 : p.why = 0
      · simp [a6, a7] at hg2
        exact .inr (.inr ⟨a6, a7, hg2⟩)
      · exact .inr (.inl ⟨a6, a7⟩)
    · exact .inl a6
  have Hways := hide hways
  clear hways hg
  have q0 : (e.err != 0) = false := by simpa using he
  have q18 : (e.cl.op == 18) = false := by simp; omega
  have q20 : (e.cl.op == 20) = false := by simp; omega
  have q19 : (e.cl.op == 19) = false := by simp; omega
  have q23 : (e.cl.op == 23) = false := by simp; omega
  have q26 : (e.cl.op == 26) = false := by simp; omega
  have q25 : (e.cl.op == 25) = false := by simp; omega
  have Hm := hide hm
  clear hm
  have HB := hide hB
  have HG := hide hG
  have HT := hide hT
  have Hw := hide hw
  have Hne := hide hne
  have Hml := hide hml
  have hws : WS b mb n w.heap.size st e.pid w0.drew := ⟨hT.blk.cell 0, hB.cell 0, hT.map.chg ((Chg.refl nobody w0).drew) (fun h => h)⟩
  obtain ⟨CC, hCC⟩ : ∃ CC, e.cells = CC := ⟨_, rfl⟩
  rw [hCC] at hw0 ⊢
  clear hB hG hT h hw hne hml
  go_enter Try.func9, Try.ntmps9
  go_wp2_with fail
  refine wp_region_perm [0, 1, 2, 3, 4, 5, 6, 7, 8, 9] [10, 11, 12] (by kernel_rfl) (by kernel_rfl) (WS b mb n w.heap.size st e.pid) hws ?_
  simp only [pick, List.getElem?_cons_zero, List.getElem?_cons_succ]
  iterate 6
    refine wpTake_cons ?_ (by rfl) ?_ ?_
    rotate_left
    · (intro W9 hSW; obtain ⟨hS0, hS1, hS2⟩ := hSW; go_simp; try with_reducible rfl)
    simp only [Act.put, List.setIfInBounds_toArray, List.set_cons_zero, List.set_cons_succ]
  refine wpTake_cons (.tuple #[((st.m e.pid).getD ⟨zero, 0, false, false⟩).agg, .bool (st.m e.pid).isSome]) (by rfl) (fun W9 hSW => by have hlk := look45 hSW.2.2 Hw.out; simp [execOp, go_sem, hlk]) ?_
  rw [Hm.out]
  simp only [Option.getD, Option.isSome, Act.put, List.setIfInBounds_toArray, List.set_cons_zero, List.set_cons_succ]
  iterate 3
    refine wpTake_cons ?_ (by rfl) ?_ ?_
    rotate_left
    · (intro W9 hSW; obtain ⟨hS0, hS1, hS2⟩ := hSW; go_simp; try with_reducible rfl)
    simp only [Act.put, List.setIfInBounds_toArray, List.set_cons_zero, List.set_cons_succ]
  refine wpTake_nil ?_
  simp only [Pc.agg]
  refine wpForce_cons fun K1 hK1 => ?_
  refine step_val (.pointer (some ⟨w0.heap.size, 0, none⟩)) (w0.drew.alloc (.cells #[.int .i64 0, .int .i64 0, .int .i64 0, .int .i64 0, .int .i64 0, .int .i64 0, .bool false, .bool false] 45)) (by rfl) (by go_simp; try rfl) ?_
  refine hK1.out _ _ (hws.chg ((Chg.refl nobody _).alloc _) (by show b < w0.heap.size; omega) (by show w.heap.size < w0.heap.size; omega)) ?_
  simp only [Act.put, List.setIfInBounds_toArray, List.set_cons_zero, List.set_cons_succ]
  refine wpForce_cons fun K2 hK2 => ?_
  refine step_skip (w0.drew.alloc (.cells #[.int .i64 p.c.r, .int .i64 p.c.e, .int .i64 p.c.s, .int .i64 p.c.g, .int .i64 p.c.h, .int .i64 p.why, .bool p.nt, .bool p.pv] 45)) (by rfl) (by go_simp) ?_
  refine hK2.out _ _ (hws.chg ((Chg.refl nobody _).alloc _) (by show b < w0.heap.size; omega) (by show w.heap.size < w0.heap.size; omega)) ?_
  simp only [Act.put, List.setIfInBounds_toArray, List.set_cons_zero, List.set_cons_succ]
  refine wpForce_one ?_
  clear hK1 hK2
  clear K1 K2
  go_wp2
  refine NoPanic.normal ?_
  have hA := At.start p HT.out HB.out HG.out Hne.out Hml.out hbl hsz
  try simp only [zero] at hA
  clear hsz hbl hw0 hws
  generalize w0.drew.alloc (.cells #[.int .i64 p.c.r, .int .i64 p.c.e, .int .i64 p.c.s, .int .i64 p.c.g, .int .i64 p.c.h, .int .i64 p.why, .bool p.nt, .bool p.pv] 45) = W, w.heap.size = eb, w0.heap.size = pk at hA ⊢
  have HA := hide hA
  obtain ⟨⟨c0, c1, c2, c3, c4, c5, c6, c7⟩, hpl, hz⟩ := hA.p.c
  have g0 : W.cell? ⟨eb, 0, none⟩ = some (.int .i64 e.pid) := hA.ev.cell 0
  have g1 : W.cell? ⟨eb, 1, none⟩ = some (.int .i64 e.cr.r) := hA.ev.cell 1
  have g2 : W.cell? ⟨eb, 2, none⟩ = some (.int .i64 e.cr.e) := hA.ev.cell 2
  have g3 : W.cell? ⟨eb, 3, none⟩ = some (.int .i64 e.cr.s) := hA.ev.cell 3
  have g4 : W.cell? ⟨eb, 4, none⟩ = some (.int .i64 e.cr.g) := hA.ev.cell 4
  have g5 : W.cell? ⟨eb, 5, none⟩ = some (.int .i64 e.cr.h) := hA.ev.cell 5
  clear hA
  have g6 : W.cell? ⟨eb, 6, none⟩ = some (.int .i64 e.cl.op) := HA.out.ev.cell 6
  have g12 : W.cell? ⟨eb, 12, none⟩ = some (.int .i64 e.cl.n) := HA.out.ev.cell 12
  have g26 : W.cell? ⟨eb, 26, none⟩ = some (.int .i64 e.err) := HA.out.ev.cell 26
  obtain ⟨⟨a1, a2, a3, a4, a5⟩, a9⟩ := Hways.out
  rcases a9 with a6 | ⟨a6, a7⟩ | ⟨a6, a7, a8⟩
  all_goals
    try rw [a8] at c7
    clear Hways
    go_wp2_with fail
    clear a1 a2 a3 a4 a5 c0 c1 c2 c3 c4 c5 c6 c7
    try clear a6
    try clear a7
    try clear a8
    have b0 : W.drew.cell? ⟨b, 0, none⟩ = some (.map (some mb)) := HA.out.book.blk.cell 0
    have hps : PS b mb eb pk e.pid p W.drew := ⟨g0, Fp.of b0 (Blk.chg HA.out.p ((Chg.refl nobody W).drew) (fun h => h))⟩
    refine wp_region_perm [0, 1, 2, 3, 4, 5, 6] [7] (by kernel_rfl) (by kernel_rfl) (PS b mb eb pk e.pid p) hps ?_
    simp only [pick, List.getElem?_cons_zero, List.getElem?_cons_succ]
    iterate 7
      refine wpTake_cons ?_ (by rfl) ?_ ?_
      rotate_left
      · (intro W9 hSW; obtain ⟨hSp, hS0, hS1, hS2, hS3, hS4, hS5, hS6, hS7, hS8⟩ := hSW; go_simp; try with_reducible rfl)
      simp only [Act.put, List.setIfInBounds_toArray, List.set_cons_zero, List.set_cons_succ]
    refine wpTake_nil ?_
    refine wpForce_one ?_
    refine wpList_bkPut rfl _ _ _ rfl rfl (HA.out.book.map.chg ((Chg.refl nobody W).drew) (fun h => h)) e.pid p.agg rfl rfl Hw.out (by omega) ?_
    intro w2 hmp hgp
    have Hfin := hide (HA.out.put hn hmp hgp)
    clear hmp hgp
    go_wp2
    refine NoPanic.normal ?_
    go_wp2
    go_ret
    exact ⟨rfl, Hfin.out.1, Hfin.out.2⟩

end Go.Proofs.Ytolmpejaakpikaa
