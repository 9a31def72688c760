/- The walk of well: other users, forks. -/
import Derived.Test.YtolmpejaakpikaaH
set_option linter.all false
namespace Go.Proofs.Ytolmpejaakpikaa
open Go.RowKit Go.Maps

theorem ev_range {W : World} {eb : Nat} {e : Ev} (h : Blk W eb 40 e.cells) : W.rangeAt eb 0 e.cells.toList := fun j v hj => by
  rw [Nat.zero_add]
  have := h.cell j
  rw [this]
  simpa using hj
theorem cl_range {W : World} {eb : Nat} {e : Ev} (h : Blk W eb 40 e.cells) : W.rangeAt eb 6 e.cl.cells.toList := fun j v hj => by
  obtain ⟨hlt, -⟩ := List.getElem?_eq_some_iff.mp hj
  have hl : j < 20 := by simpa [Cl.cells] using hlt
  rw [h.cell (6 + j), ← hj]
  rcases j with _ | _ | _ | _ | _ | _ | _ | _ | _ | _ | _ | _ | _ | _ | _ | _ | _ | _ | _ | _ | j <;> first | rfl | (exfalso; omega)
theorem wpList_loadCl {W : World} {eb : Nat} {e : Ev} {ops : Array Oper} {rest : List Oper} {o : Oper} {a : Act} {Q : Exit → Act → World → Prop} (hg : o.guard = none) (x : Operand) (ho : o.op = .load 33 x) (h : Blk W eb 40 e.cells) (hx : a.eval x = .pointer (some ⟨eb, 6, none⟩)) (hK : wpList Try.prog ops Q rest (a.put o.dst (.agg e.cl.cells)) W) : wpList Try.prog ops Q (o :: rest) a W :=
  wpList_load_mid hg 33 x ho eb 6 hx e.cl.cells.toList _ (cl_range h) Try.underlying33 rfl (by rw [show e.cl.cells.toList.length = 20 from rfl]; kernel_rfl) (by simpa using hK)
theorem wpList_loadEv {W : World} {eb : Nat} {e : Ev} {ops : Array Oper} {rest : List Oper} {o : Oper} {a : Act} {Q : Exit → Act → World → Prop} (hg : o.guard = none) (x : Operand) (ho : o.op = .load 40 x) (h : Blk W eb 40 e.cells) (hx : a.eval x = .pointer (some ⟨eb, 0, none⟩)) (hK : wpList Try.prog ops Q rest (a.put o.dst (.agg e.cells)) W) : wpList Try.prog ops Q (o :: rest) a W :=
  wpList_load_mid hg 40 x ho eb 0 hx e.cells.toList _ (ev_range h) Try.underlying40 rfl (by rw [show e.cells.toList.length = 45 from rfl]; kernel_rfl) (by simpa using hK)

set_option maxHeartbeats 2000000 in
theorem well_become_bad (b mb n : Nat) (st : Bk) (e : Ev) (w : World) (h : BookAt w b mb n st) (hw : wfi e.pid) (p : Pc) (hm : st.m e.pid = some p) (hg : gate st e = true) (he : e.err = 0) (hop : e.cl.op = 23) (hb : badBecome p e.cl = true) :
    Calls Try.prog 9 #[.pointer (some ⟨b, 0, none⟩), .agg e.cells] w fun x w' => x = .returned (.bool false) ∧ w.grownBy w' none := by
  obtain ⟨w0, hw0⟩ : ∃ w0, w.alloc (.cells e.cells 40) = w0 := ⟨_, rfl⟩
  have hB := Blk.new w 40 e.cells
  have hG := only_alloc (only_refl w none) (.cells e.cells 40)
  have hT := h.gr hG
  have hbl := h.blk.lt
  have hml := h.map.lt
  rw [hw0] at hB hG hT
  have hne : w.heap.size ≠ b ∧ w.heap.size ≠ mb := ⟨by omega, by omega⟩
  have hsz : w0.heap.size = w.heap.size + 1 := by rw [← hw0, World.size_alloc]
  have hways : (p.c.r = e.cr.r ∧ p.c.e = e.cr.e ∧ p.c.s = e.cr.s ∧ p.c.g = e.cr.g ∧ p.c.h = e.cr.h) ∧ (¬ e.cr.e = 0 ∨ (e.cr.e = 0 ∧ ¬ p.why = 0) ∨ (e.cr.e = 0 ∧ p.why = 0 ∧ p.pv = true)) := by
    unfold gate at hg
    rw [hm] at hg
    simp only [Bool.and_eq_true, decide_eq_true_eq] at hg
    obtain ⟨hg1, hg2⟩ := hg
    refine ⟨hg1, ?_⟩
    rw [hg1.2.1] at hg2
    by_cases a6 : e.cr.e = 0
    · by_cases a7 : p.why = 0
      · simp [a6, a7] at hg2
        exact .inr (.inr ⟨a6, a7, hg2⟩)
      · exact .inr (.inl ⟨a6, a7⟩)
    · exact .inl a6
  have Hways := hide hways
  clear hways hg
  have q0 : (e.err != 0) = false := by simpa using he
  have q18 : (e.cl.op == 18) = false := by simp; omega
  have q20 : (e.cl.op == 20) = false := by simp; omega
  have q19 : (e.cl.op == 19) = false := by simp; omega
  have q23 : (e.cl.op == 23) = true := by simpa using hop
  have Hm := hide hm
  clear hm
  have HB := hide hB
  have HG := hide hG
  have HT := hide hT
  have Hw := hide hw
  have Hne := hide hne
  have Hml := hide hml
  have hws : WS b mb n w.heap.size st e.pid w0.drew := ⟨hT.blk.cell 0, hB.cell 0, hT.map.chg ((Chg.refl nobody w0).drew) (fun h => h)⟩
  obtain ⟨CC, hCC⟩ : ∃ CC, e.cells = CC := ⟨_, rfl⟩
  rw [hCC] at hw0 ⊢
  clear hB hG hT h hw hne hml
  go_enter Try.func9, Try.ntmps9
  go_wp2_with fail
  refine wp_region_perm [0, 1, 2, 3, 4, 5, 6, 7, 8, 9] [10, 11, 12] (by kernel_rfl) (by kernel_rfl) (WS b mb n w.heap.size st e.pid) hws ?_
  simp only [pick, List.getElem?_cons_zero, List.getElem?_cons_succ]
  iterate 6
    refine wpTake_cons ?_ (by rfl) ?_ ?_
    rotate_left
    · (intro W9 hSW; obtain ⟨hS0, hS1, hS2⟩ := hSW; go_simp; try with_reducible rfl)
    simp only [Act.put, List.setIfInBounds_toArray, List.set_cons_zero, List.set_cons_succ]
  refine wpTake_cons (.tuple #[((st.m e.pid).getD ⟨zero, 0, false, false⟩).agg, .bool (st.m e.pid).isSome]) (by rfl) (fun W9 hSW => by have hlk := look45 hSW.2.2 Hw.out; simp [execOp, go_sem, hlk]) ?_
  rw [Hm.out]
  simp only [Option.getD, Option.isSome, Act.put, List.setIfInBounds_toArray, List.set_cons_zero, List.set_cons_succ]
  iterate 3
    refine wpTake_cons ?_ (by rfl) ?_ ?_
    rotate_left
    · (intro W9 hSW; obtain ⟨hS0, hS1, hS2⟩ := hSW; go_simp; try with_reducible rfl)
    simp only [Act.put, List.setIfInBounds_toArray, List.set_cons_zero, List.set_cons_succ]
  refine wpTake_nil ?_
  simp only [Pc.agg]
  refine wpForce_cons fun K1 hK1 => ?_
  refine step_val (.pointer (some ⟨w0.heap.size, 0, none⟩)) (w0.drew.alloc (.cells #[.int .i64 0, .int .i64 0, .int .i64 0, .int .i64 0, .int .i64 0, .int .i64 0, .bool false, .bool false] 45)) (by rfl) (by go_simp; try rfl) ?_
  refine hK1.out _ _ (hws.chg ((Chg.refl nobody _).alloc _) (by show b < w0.heap.size; omega) (by show w.heap.size < w0.heap.size; omega)) ?_
  simp only [Act.put, List.setIfInBounds_toArray, List.set_cons_zero, List.set_cons_succ]
  refine wpForce_cons fun K2 hK2 => ?_
  refine step_skip (w0.drew.alloc (.cells #[.int .i64 p.c.r, .int .i64 p.c.e, .int .i64 p.c.s, .int .i64 p.c.g, .int .i64 p.c.h, .int .i64 p.why, .bool p.nt, .bool p.pv] 45)) (by rfl) (by go_simp) ?_
  refine hK2.out _ _ (hws.chg ((Chg.refl nobody _).alloc _) (by show b < w0.heap.size; omega) (by show w.heap.size < w0.heap.size; omega)) ?_
  simp only [Act.put, List.setIfInBounds_toArray, List.set_cons_zero, List.set_cons_succ]
  refine wpForce_one ?_
  clear hK1 hK2
  clear K1 K2
  go_wp2
  refine NoPanic.normal ?_
  have hA := At.start p HT.out HB.out HG.out Hne.out Hml.out hbl hsz
  try simp only [zero] at hA
  clear hsz hbl hw0 hws
  generalize w0.drew.alloc (.cells #[.int .i64 p.c.r, .int .i64 p.c.e, .int .i64 p.c.s, .int .i64 p.c.g, .int .i64 p.c.h, .int .i64 p.why, .bool p.nt, .bool p.pv] 45) = W, w.heap.size = eb, w0.heap.size = pk at hA ⊢
  have HA := hide hA
  obtain ⟨⟨c0, c1, c2, c3, c4, c5, c6, c7⟩, hpl, hz⟩ := hA.p.c
  have g0 : W.cell? ⟨eb, 0, none⟩ = some (.int .i64 e.pid) := hA.ev.cell 0
  have g1 : W.cell? ⟨eb, 1, none⟩ = some (.int .i64 e.cr.r) := hA.ev.cell 1
  have g2 : W.cell? ⟨eb, 2, none⟩ = some (.int .i64 e.cr.e) := hA.ev.cell 2
  have g3 : W.cell? ⟨eb, 3, none⟩ = some (.int .i64 e.cr.s) := hA.ev.cell 3
  have g4 : W.cell? ⟨eb, 4, none⟩ = some (.int .i64 e.cr.g) := hA.ev.cell 4
  have g5 : W.cell? ⟨eb, 5, none⟩ = some (.int .i64 e.cr.h) := hA.ev.cell 5
  clear hA
  have g6 : W.cell? ⟨eb, 6, none⟩ = some (.int .i64 e.cl.op) := HA.out.ev.cell 6
  have g12 : W.cell? ⟨eb, 12, none⟩ = some (.int .i64 e.cl.n) := HA.out.ev.cell 12
  have g26 : W.cell? ⟨eb, 26, none⟩ = some (.int .i64 e.err) := HA.out.ev.cell 26
  obtain ⟨⟨a1, a2, a3, a4, a5⟩, a9⟩ := Hways.out
  rcases a9 with a6 | ⟨a6, a7⟩ | ⟨a6, a7, a8⟩
  all_goals
    try rw [a8] at c7
    clear Hways
    have Hc := hide (becomes_bad pk p e.cl W HA.out.p hb)
    go_wp2_with (refine wpList_loadCl rfl _ rfl HA.out.ev rfl ?_)
    refine Hc.out.mono ?_
    rintro x w2 ⟨rfl, hg2⟩
    have HG2 := hide (only_trans HA.out.gr hg2)
    clear hg2 Hc
    clear g0 g1 g2 g3 g4 g5 g6 g12 g26
    go_wp2
    go_ret
    exact ⟨rfl, HG2.out⟩

set_option maxHeartbeats 2000000 in
theorem well_become_ok (b mb n : Nat) (st : Bk) (e : Ev) (w : World) (h : BookAt w b mb n st) (hw : wfi e.pid) (hn : n < 100000) (p : Pc) (hm : st.m e.pid = some p) (hg : gate st e = true) (he : e.err = 0) (hop : e.cl.op = 23) (hb : badBecome p e.cl = false) :
    Calls Try.prog 9 #[.pointer (some ⟨b, 0, none⟩), .agg e.cells] w fun x w' => x = .returned (.bool true) ∧ BookAt w' b mb (n + 1) ⟨updB st.m e.pid (some (⟨(ofF e.cl.own e.cl.grp).1, 0, p.nt, (ofF e.cl.own e.cl.grp).1.e == 0⟩ : Pc)), st.last⟩ ∧ Chg (bOwn b mb) w w' := by
  obtain ⟨w0, hw0⟩ : ∃ w0, w.alloc (.cells e.cells 40) = w0 := ⟨_, rfl⟩
  have hB := Blk.new w 40 e.cells
  have hG := only_alloc (only_refl w none) (.cells e.cells 40)
  have hT := h.gr hG
  have hbl := h.blk.lt
  have hml := h.map.lt
  rw [hw0] at hB hG hT
  have hne : w.heap.size ≠ b ∧ w.heap.size ≠ mb := ⟨by omega, by omega⟩
  have hsz : w0.heap.size = w.heap.size + 1 := by rw [← hw0, World.size_alloc]
  have hbs : (ofF e.cl.own e.cl.grp).2 = 0 ∧ p.c.e = 0 ∧ (p.nt || p.pv) = true := by
    unfold badBecome at hb
    simp only [Bool.or_eq_false_iff, decide_eq_false_iff_not, Decidable.not_not] at hb
    refine ⟨hb.1, hb.2.1, ?_⟩
    have := hb.2.2
    revert this
    cases p.nt <;> cases p.pv <;> simp
  have Hbs := hide hbs
  clear hbs hb
  have hways : (p.c.r = e.cr.r ∧ p.c.e = e.cr.e ∧ p.c.s = e.cr.s ∧ p.c.g = e.cr.g ∧ p.c.h = e.cr.h) ∧ (¬ e.cr.e = 0 ∨ (e.cr.e = 0 ∧ ¬ p.why = 0) ∨ (e.cr.e = 0 ∧ p.why = 0 ∧ p.pv = true)) := by
    unfold gate at hg
    rw [hm] at hg
    simp only [Bool.and_eq_true, decide_eq_true_eq] at hg
    obtain ⟨hg1, hg2⟩ := hg
    refine ⟨hg1, ?_⟩
    rw [hg1.2.1] at hg2
    by_cases a6 : e.cr.e = 0
    · by_cases a7 : p.why = 0
      · simp [a6, a7] at hg2
        exact .inr (.inr ⟨a6, a7, hg2⟩)
      · exact .inr (.inl ⟨a6, a7⟩)
    · exact .inl a6
  have Hways := hide hways
  clear hways hg
  have q0 : (e.err != 0) = false := by simpa using he
  have q18 : (e.cl.op == 18) = false := by simp; omega
  have q20 : (e.cl.op == 20) = false := by simp; omega
  have q19 : (e.cl.op == 19) = false := by simp; omega
  have q23 : (e.cl.op == 23) = true := by simpa using hop
  have Hm := hide hm
  clear hm
  obtain ⟨p2, hp2⟩ : ∃ p2 : Pc, (⟨(ofF e.cl.own e.cl.grp).1, 0, p.nt, (ofF e.cl.own e.cl.grp).1.e == 0⟩ : Pc) = p2 := ⟨_, rfl⟩
  rw [hp2]
  have Hp2 := hide hp2
  clear hp2
  have HB := hide hB
  have HG := hide hG
  have HT := hide hT
  have Hw := hide hw
  have Hne := hide hne
  have Hml := hide hml
  have hws : WS b mb n w.heap.size st e.pid w0.drew := ⟨hT.blk.cell 0, hB.cell 0, hT.map.chg ((Chg.refl nobody w0).drew) (fun h => h)⟩
  obtain ⟨CC, hCC⟩ : ∃ CC, e.cells = CC := ⟨_, rfl⟩
  rw [hCC] at hw0 ⊢
  clear hB hG hT h hw hne hml
  go_enter Try.func9, Try.ntmps9
  go_wp2_with fail
  refine wp_region_perm [0, 1, 2, 3, 4, 5, 6, 7, 8, 9] [10, 11, 12] (by kernel_rfl) (by kernel_rfl) (WS b mb n w.heap.size st e.pid) hws ?_
  simp only [pick, List.getElem?_cons_zero, List.getElem?_cons_succ]
  iterate 6
    refine wpTake_cons ?_ (by rfl) ?_ ?_
    rotate_left
    · (intro W9 hSW; obtain ⟨hS0, hS1, hS2⟩ := hSW; go_simp; try with_reducible rfl)
    simp only [Act.put, List.setIfInBounds_toArray, List.set_cons_zero, List.set_cons_succ]
  refine wpTake_cons (.tuple #[((st.m e.pid).getD ⟨zero, 0, false, false⟩).agg, .bool (st.m e.pid).isSome]) (by rfl) (fun W9 hSW => by have hlk := look45 hSW.2.2 Hw.out; simp [execOp, go_sem, hlk]) ?_
  rw [Hm.out]
  simp only [Option.getD, Option.isSome, Act.put, List.setIfInBounds_toArray, List.set_cons_zero, List.set_cons_succ]
  iterate 3
    refine wpTake_cons ?_ (by rfl) ?_ ?_
    rotate_left
    · (intro W9 hSW; obtain ⟨hS0, hS1, hS2⟩ := hSW; go_simp; try with_reducible rfl)
    simp only [Act.put, List.setIfInBounds_toArray, List.set_cons_zero, List.set_cons_succ]
  refine wpTake_nil ?_
  simp only [Pc.agg]
  refine wpForce_cons fun K1 hK1 => ?_
  refine step_val (.pointer (some ⟨w0.heap.size, 0, none⟩)) (w0.drew.alloc (.cells #[.int .i64 0, .int .i64 0, .int .i64 0, .int .i64 0, .int .i64 0, .int .i64 0, .bool false, .bool false] 45)) (by rfl) (by go_simp; try rfl) ?_
  refine hK1.out _ _ (hws.chg ((Chg.refl nobody _).alloc _) (by show b < w0.heap.size; omega) (by show w.heap.size < w0.heap.size; omega)) ?_
  simp only [Act.put, List.setIfInBounds_toArray, List.set_cons_zero, List.set_cons_succ]
  refine wpForce_cons fun K2 hK2 => ?_
  refine step_skip (w0.drew.alloc (.cells #[.int .i64 p.c.r, .int .i64 p.c.e, .int .i64 p.c.s, .int .i64 p.c.g, .int .i64 p.c.h, .int .i64 p.why, .bool p.nt, .bool p.pv] 45)) (by rfl) (by go_simp) ?_
  refine hK2.out _ _ (hws.chg ((Chg.refl nobody _).alloc _) (by show b < w0.heap.size; omega) (by show w.heap.size < w0.heap.size; omega)) ?_
  simp only [Act.put, List.setIfInBounds_toArray, List.set_cons_zero, List.set_cons_succ]
  refine wpForce_one ?_
  clear hK1 hK2
  clear K1 K2
  go_wp2
  refine NoPanic.normal ?_
  have hA := At.start p HT.out HB.out HG.out Hne.out Hml.out hbl hsz
  try simp only [zero] at hA
  clear hsz hbl hw0 hws
  generalize w0.drew.alloc (.cells #[.int .i64 p.c.r, .int .i64 p.c.e, .int .i64 p.c.s, .int .i64 p.c.g, .int .i64 p.c.h, .int .i64 p.why, .bool p.nt, .bool p.pv] 45) = W, w.heap.size = eb, w0.heap.size = pk at hA ⊢
  have HA := hide hA
  obtain ⟨⟨c0, c1, c2, c3, c4, c5, c6, c7⟩, hpl, hz⟩ := hA.p.c
  have g0 : W.cell? ⟨eb, 0, none⟩ = some (.int .i64 e.pid) := hA.ev.cell 0
  have g1 : W.cell? ⟨eb, 1, none⟩ = some (.int .i64 e.cr.r) := hA.ev.cell 1
  have g2 : W.cell? ⟨eb, 2, none⟩ = some (.int .i64 e.cr.e) := hA.ev.cell 2
  have g3 : W.cell? ⟨eb, 3, none⟩ = some (.int .i64 e.cr.s) := hA.ev.cell 3
  have g4 : W.cell? ⟨eb, 4, none⟩ = some (.int .i64 e.cr.g) := hA.ev.cell 4
  have g5 : W.cell? ⟨eb, 5, none⟩ = some (.int .i64 e.cr.h) := hA.ev.cell 5
  clear hA
  have g6 : W.cell? ⟨eb, 6, none⟩ = some (.int .i64 e.cl.op) := HA.out.ev.cell 6
  have g12 : W.cell? ⟨eb, 12, none⟩ = some (.int .i64 e.cl.n) := HA.out.ev.cell 12
  have g26 : W.cell? ⟨eb, 26, none⟩ = some (.int .i64 e.err) := HA.out.ev.cell 26
  obtain ⟨⟨a1, a2, a3, a4, a5⟩, a9⟩ := Hways.out
  rcases a9 with a6 | ⟨a6, a7⟩ | ⟨a6, a7, a8⟩
  · exact absurd (a2 ▸ Hbs.out.2.1) a6
  all_goals
    try rw [a8] at c7
    clear Hways
    have hc := becomes_ok pk p (ofF e.cl.own e.cl.grp).1 e.cl W HA.out.p (Prod.ext rfl Hbs.out.1) Hbs.out.2.1 Hbs.out.2.2
    rw [Hp2.out] at hc
    have Hc := hide hc
    clear hc
    go_wp2_with (refine wpList_loadCl rfl _ rfl HA.out.ev rfl ?_)
    refine Hc.out.mono ?_
    rintro x W2 ⟨rfl, hp9, hg9⟩
    have HA2 := hide (HA.out.step hg9 hp9)
    clear hp9 hg9 Hc
    clear g0 g1 g2 g3 g4 g5 g6 g12 g26
    clear c0 c1 c2 c3 c4 c5 c6 c7
    go_wp2_with fail
    have g02 : W2.drew.cell? ⟨eb, 0, none⟩ = some (.int .i64 e.pid) := HA2.out.ev.cell 0
    clear a1 a2 a3 a4 a5
    try clear a6
    try clear a7
    try clear a8
    have b0 : W2.drew.cell? ⟨b, 0, none⟩ = some (.map (some mb)) := HA2.out.book.blk.cell 0
    have hps : PS b mb eb pk e.pid p2 W2.drew := ⟨g02, Fp.of b0 (Blk.chg HA2.out.p ((Chg.refl nobody W2).drew) (fun h => h))⟩
    refine wp_region_perm [0, 1, 2, 3, 4, 5, 6] [7] (by kernel_rfl) (by kernel_rfl) (PS b mb eb pk e.pid p2) hps ?_
    simp only [pick, List.getElem?_cons_zero, List.getElem?_cons_succ]
    iterate 7
      refine wpTake_cons ?_ (by rfl) ?_ ?_
      rotate_left
      · (intro W9 hSW; obtain ⟨hSp, hS0, hS1, hS2, hS3, hS4, hS5, hS6, hS7, hS8⟩ := hSW; go_simp; try with_reducible rfl)
      simp only [Act.put, List.setIfInBounds_toArray, List.set_cons_zero, List.set_cons_succ]
    refine wpTake_nil ?_
    refine wpForce_one ?_
    refine wpList_bkPut rfl _ _ _ rfl rfl (HA2.out.book.map.chg ((Chg.refl nobody W2).drew) (fun h => h)) e.pid p2.agg rfl rfl Hw.out (by omega) ?_
    intro w2 hmp hgp
    have Hfin := hide (HA2.out.put hn hmp hgp)
    clear hmp hgp
    go_wp2
    refine NoPanic.normal ?_
    go_wp2
    go_ret
    exact ⟨rfl, Hfin.out.1, Hfin.out.2⟩

end Go.Proofs.Ytolmpejaakpikaa
