/- A node laid. -/
import Derived.Test.YtgpfjcogaheopaaPF
set_option linter.all false
namespace Go.Proofs.Ytgpfjcogaheopaa
open Go.RowKit Lx
set_option maxRecDepth 100000

theorem infoNode : (Try.prog.info? 33).map (fun i => (i.zero, i.size, i.bytes)) = some (some (.agg #[.int .i64 0, .string ⟨#[]⟩, .bool false, .slice none 0 0, .slice none 0 0, .slice none 0 0, .slice none 0 0, .slice none 0 0]), 8, 152) := by kernel_rfl
theorem nd_drop {cs xs : List Value} {n i : Nat} (hl : cs.length = n * 8) (hi : i < n) : ((cs ++ xs).drop (i * 8)).take 8 = (cs.drop (i * 8)).take 8 := by
  rw [List.drop_append_of_le_length (by omega), List.take_append_of_le_length (by rw [List.length_drop]; omega)]
theorem NdS.add {av : Nat → Prop} {base : Nat → Prop} {w w' : World} {v' a b r p k : Value} {ns : List Nd} {n : Nd} {cs : List Value} (hl : cs.length = ns.length * 8) (h2 : ∀ i (h : i < ns.length), ∃ a b r p k, (cs.drop (i * 8)).take 8 = ndCells ns[i] a b r p k ∧ NdAt av w a b r p k ns[i])
    (ho : Own w' 33 8 v' (ns.length + 1) (cs ++ ndCells n a b r p k) 0) (hf : Fr base w w') (hn : NdAt av w a b r p k n) : NdS av w' v' (ns ++ [n]) := by
  refine ⟨cs ++ ndCells n a b r p k, by rw [List.length_append, List.length_singleton]; exact ho, fun i hi => ?_⟩
  rw [List.length_append, List.length_singleton] at hi
  by_cases hin : i < ns.length
  · obtain ⟨a', b', r', p', k', e, hq⟩ := h2 i hin
    refine ⟨a', b', r', p', k', ?_, ?_⟩
    · rw [nd_drop hl hin, e, List.getElem_append_left hin]
    · rw [List.getElem_append_left hin]; exact hq.fr hf
  · obtain rfl : i = ns.length := by omega
    refine ⟨a, b, r, p, k, ?_, ?_⟩
    · rw [← hl, List.drop_left' rfl, List.getElem_append_right (Nat.le_refl _)]
      simp [ndCells]
    · rw [List.getElem_append_right (Nat.le_refl _)]
      simp
      exact hn.fr hf
theorem NdAt.forms {av : Nat → Prop} {w : World} {a b r p k : Value} {n : Nd} (h : NdAt av w a b r p k n) : ∃ a1 a2 a3 b1 b2 b3 r1 r2 r3 p1 p2 p3 k1 k2 k3, a = .slice a1 a2 a3 ∧ b = .slice b1 b2 b3 ∧ r = .slice r1 r2 r3 ∧ p = .slice p1 p2 p3 ∧ k = .slice k1 k2 k3 := by
  obtain ⟨x1, y1, e1, _⟩ := h.sets.form
  obtain ⟨x2, y2, e2, _⟩ := h.words.form
  obtain ⟨x3, y3, e3, _⟩ := h.rds.form
  obtain ⟨cs, hp, _, _⟩ := h.pats
  obtain ⟨x4, y4, e4, _⟩ := hp.form
  obtain ⟨x5, y5, e5, _⟩ := h.kids.form
  exact ⟨_, _, _, _, _, _, _, _, _, _, _, _, _, _, _, e1, e2, e3, e4, e5⟩
theorem srcN (W : World) (B : Nat) (n : Nd) (a1 b1 r1 p1 k1 : Option Addr) (a2 a3 b2 b3 r2 r3 p2 p3 k2 k3 : Nat) (hb : W.heap.size = B) :
    Src Try.prog 8 23 (.slice (some ⟨B, 0, none⟩) 1 1) 1 (ndCells n (.slice a1 a2 a3) (.slice b1 b2 b3) (.slice r1 r2 r3) (.slice p1 p2 p3) (.slice k1 k2 k3)) (W.alloc (.cells #[.int .i64 n.kind, .string ⟨n.name.toArray⟩, .bool n.inn, .slice a1 a2 a3, .slice b1 b2 b3, .slice r1 r2 r3, .slice p1 p2 p3, .slice k1 k2 k3] 33)) := by
  subst hb
  refine Own.src (P := Try.prog) (tx := 23) (e' := 33) (n := 1) (k := 0) (e := 33) ⟨rfl, .inr ⟨W.heap.size, 0, 1, _, (0, 0), rfl, Blk.new W 33 _, Nat.le_refl _, Nat.le_refl _, by unfold maxLen; omega, by show 0 + 1 * 8 ≤ 8; omega, fun j hj => by rw [Nat.zero_add]; simp [ndCells, sv]⟩⟩ (by kernel_rfl) ?_
  intro u hu
  simp only [ndCells, List.mem_cons, List.mem_nil_iff, or_false] at hu
  rcases hu with rfl | rfl | rfl | rfl | rfl | rfl | rfl | rfl <;> rfl
set_option maxHeartbeats 8000000 in
theorem lay_any (av : Nat → Prop) (base : Nat → Prop) (rb d : Nat) (ts : List Tok) (ns : List Nd) (n : Nd) (a b r p k : Value) (w : World) (h : RIs av base w rb ts ns d) (hn : NdAt av w a b r p k n) (hfew : ns.length + 1 + 10 * ts.length ≤ 100000) :
    Calls Try.prog 42 #[.pointer (some ⟨rb, 0, none⟩), .agg (ndCells n a b r p k).toArray] w (GPost vInt av base w rb d (layR n ts ns)) := by
  obtain ⟨a1, a2, a3, b1, b2, b3, r1, r2, r3, p1, p2, p3, k1, k2, k3, rfl, rfl, rfl, rfl, rfl⟩ := hn.forms
  obtain ⟨vt, vn, h⟩ := h
  obtain ⟨cs, hcs, hat⟩ := h.nds
  obtain ⟨an, cv, rfl, hcv, _⟩ := hcs.form
  have hl := hcs.len
  obtain ⟨d0, d1, d2⟩ := h.cells
  have lb := Blk.lt h.blk
  have z1 := Blk.frozen h.blk 1
  have HH := hide h
  have HN := hide hn
  have HCS := hide hcs
  have HAT := hide hat
  have HSRC := hide (fun W B hb => srcN W B n a1 b1 r1 p1 k1 a2 a3 b2 b3 r2 r3 p2 p3 k2 k3 hb)
  have HB := hide (Blk.new w 33 (ndCells n (.slice a1 a2 a3) (.slice b1 b2 b3) (.slice r1 r2 r3) (.slice p1 p2 p3) (.slice k1 k2 k3)).toArray)
  have Hl := hide hl
  unfold layR GPost vInt RIs
  clear h hn hcs hat hl
  obtain ⟨NL, hNL⟩ : ∃ NL, ns.length = NL := ⟨_, rfl⟩
  rw [hNL] at d1 hcv
  have HNL := hide hNL
  rw [hNL]
  have hNb : NL ≤ 100000 := by omega
  clear hNL
  unfold ndCells at HB
  obtain ⟨nk, nn, ni, nsets, nwords, nrds, npats, nkids⟩ := n
  simp only [] at HB
  simp only [ndCells]
  unfold sv at HB ⊢
  have h8 : (w.alloc (.cells #[.int .i64 nk, .string ⟨nn.toArray⟩, .bool ni, .slice a1 a2 a3, .slice b1 b2 b3, .slice r1 r2 r3, .slice p1 p2 p3, .slice k1 k2 k3] 33)).heap.size = w.heap.size + 1 := World.size_alloc _ _
  go_enter Try.func42, Try.ntmps42
  go_wp2_with fail
  have hgw := only_alloc (only_refl w none) (.cells #[.int .i64 nk, .string ⟨nn.toArray⟩, .bool ni, .slice a1 a2 a3, .slice b1 b2 b3, .slice r1 r2 r3, .slice p1 p2 p3, .slice k1 k2 k3] 33)
  have hHW := HH.out.grown hgw
  have hOW := old_own hgw HCS.out
  have hNW := HN.out.fr (base := base) (Fr.of_grown hgw)
  obtain ⟨W, hW⟩ : ∃ W, w.alloc (.cells #[.int .i64 nk, .string ⟨nn.toArray⟩, .bool ni, .slice a1 a2 a3, .slice b1 b2 b3, .slice r1 r2 r3, .slice p1 p2 p3, .slice k1 k2 k3] 33) = W := ⟨_, rfl⟩
  rw [hW] at hgw hHW hOW hNW HB h8 ⊢
  clear hW d0 d1 d2 lb z1
  obtain ⟨_, d1, _⟩ := hHW.cells
  rw [HNL.out] at d1 hOW
  have lb := Blk.lt hHW.blk
  have lB := Blk.lt HB.out
  have e0 : W.cell? ⟨w.heap.size, 0, none⟩ = some (.int .i64 nk) := Blk.cell HB.out 0
  have e1 : W.cell? ⟨w.heap.size, 1, none⟩ = some (.string ⟨nn.toArray⟩) := Blk.cell HB.out 1
  have e2 : W.cell? ⟨w.heap.size, 2, none⟩ = some (.bool ni) := Blk.cell HB.out 2
  have e3 : W.cell? ⟨w.heap.size, 3, none⟩ = some (.slice a1 a2 a3) := Blk.cell HB.out 3
  have e4 : W.cell? ⟨w.heap.size, 4, none⟩ = some (.slice b1 b2 b3) := Blk.cell HB.out 4
  have e5 : W.cell? ⟨w.heap.size, 5, none⟩ = some (.slice r1 r2 r3) := Blk.cell HB.out 5
  have e6 : W.cell? ⟨w.heap.size, 6, none⟩ = some (.slice p1 p2 p3) := Blk.cell HB.out 6
  have e7 : W.cell? ⟨w.heap.size, 7, none⟩ = some (.slice k1 k2 k3) := Blk.cell HB.out 7
  have HGW := hide hgw
  have HHW := hide hHW
  have HOW := hide hOW
  have HNW := hide hNW
  clear hgw hHW hOW hNW
  refine wp_region_perm [0, 1, 2, 3, 4, 5] [6, 7, 8, 9, 10] (by kernel_rfl) (by kernel_rfl) (fun W' => W'.cell? ⟨rb, 1, none⟩ = some (.slice an NL cv) ∧ W'.cell? ⟨w.heap.size, 0, none⟩ = some (.int .i64 nk) ∧ W'.cell? ⟨w.heap.size, 1, none⟩ = some (.string ⟨nn.toArray⟩) ∧ W'.cell? ⟨w.heap.size, 2, none⟩ = some (.bool ni) ∧ W'.cell? ⟨w.heap.size, 3, none⟩ = some (.slice a1 a2 a3) ∧ W'.cell? ⟨w.heap.size, 4, none⟩ = some (.slice b1 b2 b3) ∧ W'.cell? ⟨w.heap.size, 5, none⟩ = some (.slice r1 r2 r3) ∧ W'.cell? ⟨w.heap.size, 6, none⟩ = some (.slice p1 p2 p3) ∧ W'.cell? ⟨w.heap.size, 7, none⟩ = some (.slice k1 k2 k3)) ⟨d1, e0, e1, e2, e3, e4, e5, e6, e7⟩ ?_
  simp only [pick, List.getElem?_cons_zero, List.getElem?_cons_succ]
  refine wpTake_cons ?_ (by rfl) ?_ ?_
  rotate_left
  · (intro W9 hSW; obtain ⟨j0, q0, q1, q2, q3, q4, q5, q6, q7⟩ := hSW; go_simp; try with_reducible rfl)
  simp only [Act.put, List.setIfInBounds_toArray, List.set_cons_zero, List.set_cons_succ]
  refine wpTake_cons ?_ (by rfl) ?_ ?_
  rotate_left
  · (intro W9 hSW; obtain ⟨j0, q0, q1, q2, q3, q4, q5, q6, q7⟩ := hSW; go_simp; try with_reducible rfl)
  simp only [Act.put, List.setIfInBounds_toArray, List.set_cons_zero, List.set_cons_succ]
  refine wpTake_cons ?_ (by rfl) ?_ ?_
  rotate_left
  · (intro W9 hSW; obtain ⟨j0, q0, q1, q2, q3, q4, q5, q6, q7⟩ := hSW; go_simp; try with_reducible rfl)
  simp only [Act.put, List.setIfInBounds_toArray, List.set_cons_zero, List.set_cons_succ]
  refine wpTake_cons ?_ (by rfl) ?_ ?_
  rotate_left
  · (intro W9 hSW; obtain ⟨j0, q0, q1, q2, q3, q4, q5, q6, q7⟩ := hSW; go_simp; try with_reducible rfl)
  simp only [Act.put, List.setIfInBounds_toArray, List.set_cons_zero, List.set_cons_succ]
  refine wpTake_cons ?_ (by rfl) ?_ ?_
  rotate_left
  · (intro W9 hSW; obtain ⟨j0, q0, q1, q2, q3, q4, q5, q6, q7⟩ := hSW; go_simp; try with_reducible rfl)
  simp only [Act.put, List.setIfInBounds_toArray, List.set_cons_zero, List.set_cons_succ]
  refine wpTake_cons ?_ (by rfl) ?_ ?_
  rotate_left
  · (intro W9 hSW; obtain ⟨j0, q0, q1, q2, q3, q4, q5, q6, q7⟩ := hSW; go_simp; try with_reducible rfl)
  simp only [Act.put, List.setIfInBounds_toArray, List.set_cons_zero, List.set_cons_succ]
  refine wpTake_nil ?_
  refine wpForce_cons fun K1 hK1 => ?_
  refine step_val (.slice (some ⟨W.heap.size, 0, none⟩) 1 1) (W.drew.alloc (.cells #[.int .i64 nk, .string ⟨nn.toArray⟩, .bool ni, .slice a1 a2 a3, .slice b1 b2 b3, .slice r1 r2 r3, .slice p1 p2 p3, .slice k1 k2 k3] 33)) (by rfl) (by go_simp) ?_
  have hgA := only_alloc (only_drew (only_refl W none)) (.cells #[.int .i64 nk, .string ⟨nn.toArray⟩, .bool ni, .slice a1 a2 a3, .slice b1 b2 b3, .slice r1 r2 r3, .slice p1 p2 p3, .slice k1 k2 k3] 33)
  refine hK1.out _ _ ⟨old_cell hgA lb d1, old_cell hgA lB e0, old_cell hgA lB e1, old_cell hgA lB e2, old_cell hgA lB e3, old_cell hgA lB e4, old_cell hgA lB e5, old_cell hgA lB e6, old_cell hgA lB e7⟩ ?_
  simp only [Act.put, List.setIfInBounds_toArray, List.set_cons_zero, List.set_cons_succ]
  refine wpForce_cons fun K2 hK2 => ?_
  refine step_appAt (by rfl) (.tmp 9) (.tmp 11) 23 23 (by rfl) 33 (.agg #[.int .i64 0, .string ⟨#[]⟩, .bool false, .slice none 0 0, .slice none 0 0, .slice none 0 0, .slice none 0 0, .slice none 0 0]) 8 152 Try.underlying23 infoNode rfl (.slice an NL cv) NL cs 0 _ 1 _ (by rfl) (by rfl) (old_own hgA HOW.out) (by omega) (HSRC.out W.drew _ rfl) (by unfold maxLen; omega) (by omega) ?_
  intro vA wA ho hc hnw _
  obtain ⟨fa, ca, rfl, _, _⟩ := ho.form
  have hblkA := Blk.chg (Blk.grown HHW.out.blk hgA (by simp)) hc (fun e => by
    have := ((old_own hgA HOW.out).hasT e).uniq (Blk.grown HHW.out.blk hgA (by simp)).hasT
    exact absurd this (by decide))
  have hboxA := Blk.chg (Blk.grown HB.out hgA (by simp)) hc (fun e => by have := HCS.out.lt (by rw [HNL.out]; exact e); omega)
  have hfA : Fr base W wA := (Fr.of_grown hgA).trans (Chg.mono hc (fun k hk e => ⟨HH.out.new k (by rw [HNL.out]; exact e), .inr ((old_own hgA HOW.out).hasT e)⟩))
  refine hK2.out _ _ ⟨(Blk.cell hblkA 1).trans (by rw [HNL.out]; rfl), Blk.cell hboxA 0, Blk.cell hboxA 1, Blk.cell hboxA 2, Blk.cell hboxA 3, Blk.cell hboxA 4, Blk.cell hboxA 5, Blk.cell hboxA 6, Blk.cell hboxA 7⟩ ?_
  simp only [Act.put, List.setIfInBounds_toArray, List.set_cons_zero, List.set_cons_succ]
  refine wpForce_cons fun K3 hK3 => ?_
  refine step_val (.pointer (some ⟨rb, 0, none⟩)) wA (by rfl) (by go_simp) ?_
  refine hK3.out _ _ ⟨(Blk.cell hblkA 1).trans (by rw [HNL.out]; rfl), Blk.cell hboxA 0, Blk.cell hboxA 1, Blk.cell hboxA 2, Blk.cell hboxA 3, Blk.cell hboxA 4, Blk.cell hboxA 5, Blk.cell hboxA 6, Blk.cell hboxA 7⟩ ?_
  simp only [Act.put, List.setIfInBounds_toArray, List.set_cons_zero, List.set_cons_succ]
  refine wpForce_cons fun K4 hK4 => ?_
  refine step_val (.pointer (some ⟨rb, 1, none⟩)) wA (by rfl) (by go_simp) ?_
  refine hK4.out _ _ ⟨(Blk.cell hblkA 1).trans (by rw [HNL.out]; rfl), Blk.cell hboxA 0, Blk.cell hboxA 1, Blk.cell hboxA 2, Blk.cell hboxA 3, Blk.cell hboxA 4, Blk.cell hboxA 5, Blk.cell hboxA 6, Blk.cell hboxA 7⟩ ?_
  simp only [Act.put, List.setIfInBounds_toArray, List.set_cons_zero, List.set_cons_succ]
  refine wpForce_one ?_
  have zA := Blk.frozen hblkA 1
  have y0A : wA.cell? ⟨rb, 1, none⟩ = some (.slice an NL cv) := (Blk.cell hblkA 1).trans (by rw [HNL.out]; rfl)
  have lA := Blk.lt hblkA
  have hndA := NdS.add Hl.out HAT.out (by rw [HNL.out]; exact ho) ((Fr.of_grown HGW.out).trans hfA) HN.out
  have hneA : (Value.slice fa (NL + 1) ca).ownBlock ≠ some rb := fun e => by
    have := (ho.hasT e).uniq hblkA.hasT
    exact absurd this (by decide)
  have htokA := (old_own hgA HHW.out.tok).chg hc (fun g hg e => by
    have := ((old_own hgA HHW.out.tok).hasT hg).uniq ((old_own hgA HOW.out).hasT e)
    exact absurd this (by decide))
  have hnew : ∀ b, (Value.slice fa (NL + 1) ca).ownBlock = some b → base b := fun b hb => by
    rcases hnw b hb with e | e
    · exact HH.out.new b (by rw [HNL.out]; exact e)
    · have h1 := hgA.size
      have h2 := HGW.out.size
      exact HH.out.lo.up b (by omega)
  have htne : vt.ownBlock ≠ some rb := fun e => by
    have := (htokA.hasT e).uniq hblkA.hasT
    exact absurd this (by decide)
  have hfin : RAt av base (wA.setCell ⟨rb, 1, none⟩ (.slice fa (NL + 1) ca)) rb vt (.slice fa (NL + 1) ca) ts (ns ++ [⟨nk, nn, ni, nsets, nwords, nrds, npats, nkids⟩]) d :=
    ⟨Blk.set_ hblkA 1 _, htokA.far (p := ⟨rb, 1, none⟩) htne _, hndA.far (p := ⟨rb, 1, none⟩) HH.out.lo.at_ hblkA.hasT, hnew, HH.out.lo.size (by have h1 := HGW.out.size; have h2 := hfA.size; rw [World.size_setCell]; omega), HH.out.good, by rw [List.length_append, List.length_singleton]; exact hfew, HH.out.dep, HH.out.txt⟩
  have hfr : Fr base w (wA.setCell ⟨rb, 1, none⟩ (.slice fa (NL + 1) ca)) := ((Fr.of_grown HGW.out).trans hfA).set (p := ⟨rb, 1, none⟩) HH.out.lo.at_ (.inl hblkA.hasT) _
  have HFIN := hide hfin
  have HFR := hide hfr
  clear hfin hfr hnew hneA htokA hndA htne hfA hboxA ho hc hnw hgA hK1 hK2 hK3 hK4 K1 K2 K3 K4
  clear hblkA
  go_wp2
  refine NoPanic.normal ?_
  obtain ⟨_, y1, _⟩ := HFIN.out.cells
  have ly := Blk.lt HFIN.out.blk
  generalize wA.setCell ⟨rb, 1, none⟩ (.slice fa (NL + 1) ca) = W9 at HFIN HFR y1 ly ⊢
  go_wp2_with fail
  go_ret
  exact ⟨.int .i64 (NL : Int), ret_int (by omega), rfl, ⟨_, _, HFIN.out⟩, HFR.out⟩

end Go.Proofs.Ytgpfjcogaheopaa
