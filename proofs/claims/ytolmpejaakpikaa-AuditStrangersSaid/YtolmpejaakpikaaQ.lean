/- The document's fork. -/
import Derived.Test.YtolmpejaakpikaaP
import Derived.Test.YtolmpejaakpikaaStep
set_option linter.all false
namespace Go.Proofs.Ytolmpejaakpikaa
open Go.RowKit Go.Maps

def RTo (w w' : World) (b : Nat) (S : Nat → Prop) (r' : RS) : Prop := ∃ v', RAt w' b v' r' ∧ (∀ k, rOwn b v' k → S k ∨ w.heap.size ≤ k) ∧ Chg S w w'
theorem drew_alloc_cell {w : World} {k j : Nat} {u : Value} (o : Obj) (h : w.cell? ⟨k, j, none⟩ = some u) (hk : k < w.heap.size) : (w.drew.alloc o).cell? ⟨k, j, none⟩ = some u :=
  ((Chg.refl nobody w).drew.alloc o).cell (p := ⟨k, j, none⟩) hk (fun h => h) |>.trans h
def RowAt (W : World) (kb : Nat) (c : Pr) : Prop := W.cell? ⟨kb, 0, none⟩ = some (.int .i64 c.pid) ∧ W.cell? ⟨kb, 1, none⟩ = some (.int .i64 c.p.c.r) ∧ W.cell? ⟨kb, 2, none⟩ = some (.int .i64 c.p.c.e) ∧ W.cell? ⟨kb, 3, none⟩ = some (.int .i64 c.p.c.s) ∧ W.cell? ⟨kb, 4, none⟩ = some (.int .i64 c.p.c.g) ∧ W.cell? ⟨kb, 5, none⟩ = some (.int .i64 c.p.c.h) ∧ W.cell? ⟨kb, 6, none⟩ = some (.int .i64 c.p.why) ∧ W.cell? ⟨kb, 7, none⟩ = some (.bool c.p.nt) ∧ W.cell? ⟨kb, 8, none⟩ = some (.bool c.p.pv)
theorem RowAt.of {W : World} {kb : Nat} {c : Pr} {t : TypeId} (h : Blk W kb t c.cells.toArray) : RowAt W kb c := ⟨h.cell 0, h.cell 1, h.cell 2, h.cell 3, h.cell 4, h.cell 5, h.cell 6, h.cell 7, h.cell 8⟩
theorem RowAt.chg {W W' : World} {kb : Nat} {c : Pr} {T : Nat → Prop} (h : RowAt W kb c) (hc : Chg T W W') (hk : kb < W.heap.size) (hn : ¬ T kb) : RowAt W' kb c := by
  have g : ∀ j u, W.cell? ⟨kb, j, none⟩ = some u → W'.cell? ⟨kb, j, none⟩ = some u := fun j u h => (hc.cell (p := ⟨kb, j, none⟩) hk hn).trans h
  obtain ⟨h0, h1, h2, h3, h4, h5, h6, h7, h8⟩ := h
  exact ⟨g _ _ h0, g _ _ h1, g _ _ h2, g _ _ h3, g _ _ h4, g _ _ h5, g _ _ h6, g _ _ h7, g _ _ h8⟩
def QS (b kb : Nat) (v : Value) (c : Pr) (W : World) : Prop := W.cell? ⟨b, 0, none⟩ = some v ∧ RowAt W kb c
theorem e_alloc {W : World} {w : World} {kb : Nat} {T : Nat → Prop} (h : Chg T w W) (o : Obj) : Chg T w (W.alloc o) := h.alloc o

set_option maxHeartbeats 1000000 in
theorem rfork_bad (b : Nat) (v : Value) (r : RS) (s : Pr) (e : Ev) (w : World) (h : RAt w b v r) (hl : e.an < 2 ∨ e.an ≤ r.last) :
    Calls Try.prog 15 #[.pointer (some ⟨b, 0, none⟩), s.agg, .agg e.cells] w fun x w' => x = .returned (.bool false) ∧ w.grownBy w' none := by
  obtain ⟨CC, hCC⟩ : ∃ CC, e.cells = CC := ⟨_, rfl⟩
  have hB := Blk.new (w.alloc (.cells s.cells.toArray 52)) 40 e.cells
  have k27 : ((w.alloc (.cells s.cells.toArray 52)).alloc (.cells e.cells 40)).cell? ⟨w.heap.size + 1, 27, none⟩ = some (.int .i64 e.an) := by have := hB.cell 27; rw [World.size_alloc] at this; exact this
  have hG := only_alloc (only_alloc (only_refl w none) (.cells s.cells.toArray 52)) (.cells e.cells 40)
  have hT := h.gr hG
  have b1 : ((w.alloc (.cells s.cells.toArray 52)).alloc (.cells e.cells 40)).cell? ⟨b, 1, none⟩ = some (.int .i64 r.last) := hT.blk.cell 1
  unfold Pr.cells at k27 hG b1
  rw [hCC] at k27 hG b1
  have q0 : decide (e.an < 2) = true ∨ (decide (e.an < 2) = false ∧ decide (e.an ≤ r.last) = true) := by
    by_cases h2 : e.an < 2
    · exact .inl (by simpa using h2)
    · exact .inr ⟨by simpa using h2, by simp; omega⟩
  have HG := hide hG
  have hbw := h.blk.lt
  clear hB hT h hG hl
  rw [hCC]
  unfold Pr.agg
  rcases q0 with q0 | ⟨q0, q1⟩
  all_goals
    go_enter Try.func15, Try.ntmps15
    go_wp2
    go_ret
    exact ⟨rfl, HG.out⟩

set_option maxHeartbeats 2000000 in
theorem rfork_one (b : Nat) (v : Value) (r : RS) (s : Pr) (e : Ev) (w : World) (h : RAt w b v r) (hl : r.last < e.an) (h2 : 2 ≤ e.an) (hlen : r.L.length < 1000000) (h1 : (s.pid == 1) = true) :
    Calls Try.prog 15 #[.pointer (some ⟨b, 0, none⟩), s.agg, .agg e.cells] w fun x w' => x = .returned (.bool true) ∧ RTo w w' b (rOwn b v) ⟨r.L ++ [⟨e.an, ⟨s.p.c, 2, false, s.p.pv⟩⟩], e.an⟩ := by
  obtain ⟨c, hcd⟩ : ∃ c : Pr, (⟨e.an, ⟨s.p.c, 2, false, s.p.pv⟩⟩ : Pr) = c := ⟨_, rfl⟩
  obtain ⟨g, off, cap, hv, hcap, hcm, hg⟩ := h.prs.at h.pos
  subst hv
  obtain ⟨w0, hw0⟩ : ∃ w0, ((w.alloc (.cells s.cells.toArray 52)).alloc (.cells e.cells 40)) = w0 := ⟨_, rfl⟩
  obtain ⟨CC, hCC⟩ : ∃ CC, e.cells = CC := ⟨_, rfl⟩
  have hB := Blk.new (w.alloc (.cells s.cells.toArray 52)) 40 e.cells
  have k27 : ((w.alloc (.cells s.cells.toArray 52)).alloc (.cells e.cells 40)).cell? ⟨w.heap.size + 1, 27, none⟩ = some (.int .i64 e.an) := by have := hB.cell 27; rw [World.size_alloc] at this; exact this
  have hG := only_alloc (only_alloc (only_refl w none) (.cells s.cells.toArray 52)) (.cells e.cells 40)
  have hP0 : RowAt ((w.alloc (.cells s.cells.toArray 52)).alloc (.cells e.cells 40)) w.heap.size s := RowAt.of (Blk.chg (Blk.new w 52 s.cells.toArray) ((Chg.refl nobody _).alloc _) (fun h => h))
  have hT := h.gr hG
  have hbw : b < w.heap.size := h.blk.lt
  have hsz : w0.heap.size = w.heap.size + 2 := by rw [← hw0, World.size_alloc, World.size_alloc]
  rw [hw0] at k27 hG hP0 hT
  unfold Pr.cells at hw0
  rw [hCC] at hw0
  obtain ⟨c0, c1, c2, c3, c4, c5, c6, c7, c8⟩ := hP0
  obtain ⟨b0, b1⟩ := hT.blk.c2
  have z1 := hT.blk.frozen 1
  have hbl := hT.blk.lt
  have zA : ∀ o, (w0.alloc o).frozen? ⟨b, 1, none⟩ = false := fun o => (hT.blk.alloc o).frozen 1
  have zC : ∀ o, (w0.alloc o).cell? ⟨b, 1, none⟩ = some (.int .i64 r.last) := fun o => (hT.blk.alloc o).cell 1
  have q0 : decide (e.an < 2) = false := by simpa using h2
  have q1 : decide (e.an ≤ r.last) = false := by simpa using hl
  have HT := hide hT
  have H := hide h
  have HG := hide hG
  have Hcd := hide hcd
  have Hlen := hide hlen
  have Hsz := hide hsz
  have hpl : w.heap.size < w0.heap.size := by omega
  have hel : w.heap.size + 1 < w0.heap.size := by omega
  clear hB hT h hG hl h2 hcd hlen hcap hcm hg
  rw [hCC]
  unfold Pr.agg
  go_enter Try.func15, Try.ntmps15
  go_wp2_with fail
  obtain ⟨W4, hW4⟩ : ∃ W4, ((w0.alloc (.cells #[.int .i64 e.an, .int .i64 s.p.c.r, .int .i64 s.p.c.e, .int .i64 s.p.c.s, .int .i64 s.p.c.g, .int .i64 s.p.c.h, .int .i64 2, .bool false, .bool s.p.pv] 52)).setCell ⟨b, 1, none⟩ (.int .i64 e.an)) = W4 := ⟨_, rfl⟩
  rw [hW4]
  have hC0 : Chg (rOwn b (.slice (some ⟨g, off, none⟩) r.L.length cap)) w0 W4 := by
    rw [← hW4]
    exact (((Chg.refl _ w0).alloc _).setCell (p := ⟨b, 1, none⟩) (.inl (.inl rfl)) _)
  have hC4 : Chg (rOwn b (.slice (some ⟨g, off, none⟩) r.L.length cap)) w W4 := (Chg.of_grown HG.out (fun _ h => by cases h) : Chg (rOwn b (.slice (some ⟨g, off, none⟩) r.L.length cap)) w w0).trans hC0 (fun _ _ h => h)
  have hblk : Blk W4 w0.heap.size 52 c.cells.toArray := by
    rw [← hW4, ← Hcd.out]
    exact Blk.far (Blk.new w0 52 _) (by have : b < w0.heap.size := hbl; show w0.heap.size ≠ b; omega) _
  have hrow : RowAt W4 w0.heap.size c := RowAt.of hblk
  have hT4 : RAt W4 b (.slice (some ⟨g, off, none⟩) r.L.length cap) ⟨r.L, e.an⟩ := by
    rw [← hW4]
    exact ((HT.out.gr (only_alloc (only_refl w0 none) (.cells #[.int .i64 e.an, .int .i64 s.p.c.r, .int .i64 s.p.c.e, .int .i64 s.p.c.s, .int .i64 s.p.c.g, .int .i64 s.p.c.h, .int .i64 2, .bool false, .bool s.p.pv] 52))).setLast e.an)
  have hbl4 : b < W4.heap.size := hT4.blk.lt
  have hkl4 : w0.heap.size < W4.heap.size := hblk.lt
  have hgk : g ≠ w0.heap.size := by have := (HT.out.v_ne (k := g) rfl).2; omega
  have hgb : g ≠ b := (HT.out.v_ne (k := g) rfl).1
  have hqs : QS b w0.heap.size (.slice (some ⟨g, off, none⟩) r.L.length cap) c W4 := ⟨hT4.blk.cell 0, hrow⟩
  have HT4 := hide hT4
  have HC4 := hide hC4
  have Hgk := hide hgk
  rw [Hsz.out] at Hgk hqs hkl4
  generalize w.heap.size + 2 = kb at Hgk hqs hkl4 ⊢
  clear hT4 hC4 hC0 hblk hrow hW4 hgk c0 c1 c2 c3 c4 c5 c6 c7 c8 b0 b1 z1 zA zC hbl k27 hpl hel hw0
  refine wp_region_perm [0, 1, 2, 3, 4, 5] [6, 7, 8, 9, 10] (by kernel_rfl) (by kernel_rfl) (QS b kb (.slice (some ⟨g, off, none⟩) r.L.length cap) c) hqs ?_
  simp only [pick, List.getElem?_cons_zero, List.getElem?_cons_succ]
  repeat
    refine wpTake_cons ?_ (by rfl) ?_ ?_
    rotate_left
    · (intro W hSW; obtain ⟨hS1, j0, j1, j2, j3, j4, j5, j6, j7, j8⟩ := hSW; go_simp; try with_reducible rfl)
    simp only [Act.put, List.setIfInBounds_toArray, List.set_cons_zero, List.set_cons_succ]
  refine wpTake_nil ?_
  refine wpForce_cons fun K1 hK1 => ?_
  refine step_val (.slice (some ⟨W4.heap.size, 0, none⟩) 1 1) (W4.drew.alloc (.cells c.cells.toArray 52)) (by rfl) (by unfold Pr.cells; go_simp) ?_
  have hqs1 : QS b kb (.slice (some ⟨g, off, none⟩) r.L.length cap) c (W4.drew.alloc (.cells c.cells.toArray 52)) := ⟨drew_alloc_cell _ hqs.1 hbl4, hqs.2.chg ((Chg.refl nobody W4).drew.alloc _) hkl4 (fun h => h)⟩
  refine hK1.out _ _ hqs1 ?_
  simp only [Act.put, List.setIfInBounds_toArray, List.set_cons_zero, List.set_cons_succ]
  refine wpForce_cons fun K2 hK2 => ?_
  have hsrcO : Own (W4.drew.alloc (.cells c.cells.toArray 52)) 52 9 (.slice (some ⟨W4.heap.size, 0, none⟩) 1 1) 1 (pcs [c]) 0 := by
    have := Own.made W4.drew c.cells.toArray 52 9 1 0 rfl (by unfold maxLen; omega)
    rw [show c.cells.toArray.toList = pcs [c] from by simp [pcs]] at this
    exact this
  have hT5 := HT4.out.gr (only_alloc (only_drew (only_refl W4 none)) (.cells c.cells.toArray 52))
  refine step_appAt (by rfl) (.tmp 38) (.tmp 40) 53 53 (by rfl) 52 (Pr.agg ⟨0, ⟨zero, 0, false, false⟩⟩) 9 64 (by kernel_rfl) info52 rfl (.slice (some ⟨g, off, none⟩) r.L.length cap) r.L.length (pcs r.L) 0 _ 1 (pcs [c]) (by rfl) (by rfl) hT5.prs (by omega) (Own.src (e' := 52) hsrcO (by kernel_rfl) (pcs_one _)) (by have := Hlen.out; unfold maxLen; omega) (by have := Hlen.out; omega) ?_
  intro v' w5 ho hc hn _
  have hC5 : Chg (fun k => (Value.slice (some ⟨g, off, none⟩) r.L.length cap).ownBlock = some k) W4 w5 :=
    (((Chg.refl (fun k => (Value.slice (some ⟨g, off, none⟩) r.L.length cap).ownBlock = some k) W4).drew.alloc (.cells c.cells.toArray 52))).trans hc (fun _ _ h => h)
  have hn5 : ∀ k, v'.ownBlock = some k → (Value.slice (some ⟨g, off, none⟩) r.L.length cap).ownBlock = some k ∨ W4.heap.size ≤ k := by
    intro k hk
    rcases hn k hk with h | h
    · exact .inl h
    · rw [World.size_alloc] at h
      have : W4.drew.heap.size = W4.heap.size := rfl
      exact .inr (by omega)
  have hTf := HT4.out.newL hC5 (fun e => hgb (by simpa [Value.ownBlock] using e)) (r.L ++ [c]) (v' := v') (by
    unfold PrsIs
    rw [List.length_append, List.length_singleton, pcs_append]
    exact ho) (by simp) (by have := Hlen.out; rw [List.length_append, List.length_singleton]; omega)
  have hkg : ¬ (Value.slice (some ⟨g, off, none⟩) r.L.length cap).ownBlock = some kb := fun e => by simp [Value.ownBlock] at e; exact Hgk.out e
  have hqs2 : QS b kb (.slice (some ⟨g, off, none⟩) r.L.length cap) c w5 := ⟨(hC5.cell (p := ⟨b, 0, none⟩) hbl4 (fun e => hgb (by simpa [Value.ownBlock] using e))).trans hqs.1, hqs.2.chg hC5 hkl4 hkg⟩
  have u0 := hqs2.1
  have zb : w5.frozen? ⟨b, 0, none⟩ = false := (HT4.out.blk.chg hC5 (fun e => hgb (by simpa [Value.ownBlock] using e))).frozen 0
  have hb5 : b < w5.heap.size := Nat.lt_of_lt_of_le hbl4 hC5.size
  refine hK2.out _ _ hqs2 ?_
  simp only [Act.put, List.setIfInBounds_toArray, List.set_cons_zero, List.set_cons_succ]
  refine wpForce_cons fun K3 hK3 => ?_
  refine step_val (.pointer (some ⟨b, 0, none⟩)) w5 (by rfl) (by go_simp) ?_
  refine hK3.out _ _ hqs2 ?_
  simp only [Act.put, List.setIfInBounds_toArray, List.set_cons_zero, List.set_cons_succ]
  refine wpForce_cons fun K4 hK4 => ?_
  refine step_val (.pointer (some ⟨b, 0, none⟩)) w5 (by rfl) (by go_simp) ?_
  refine hK4.out _ _ hqs2 ?_
  simp only [Act.put, List.setIfInBounds_toArray, List.set_cons_zero, List.set_cons_succ]
  refine wpForce_one ?_
  have hCf : Chg (rOwn b (.slice (some ⟨g, off, none⟩) r.L.length cap)) w (w5.setCell ⟨b, 0, none⟩ v') := (HC4.out.trans hC5 (fun k _ h => .inr h)).setCell (p := ⟨b, 0, none⟩) (.inl (.inl rfl)) _
  have hnf : ∀ k, rOwn b v' k → rOwn b (.slice (some ⟨g, off, none⟩) r.L.length cap) k ∨ w.heap.size ≤ k := by
    rintro k (h | h)
    · exact .inl (.inl h)
    · rcases hn5 k h with h | h
      · exact .inl (.inr h)
      · exact .inr (Nat.le_trans HC4.out.size h)
  obtain ⟨fo, fc, hvf, _, _⟩ := ho.form
  subst hvf
  have Hfin := hide (show RTo w (w5.setCell ⟨b, 0, none⟩ (.slice fo (r.L.length + 1) fc)) b (rOwn b (.slice (some ⟨g, off, none⟩) r.L.length cap)) ⟨r.L ++ [c], e.an⟩ from ⟨_, hTf, hnf, hCf⟩)
  clear hK1 hK2 hK3 hK4 hCf hnf hTf hC5 hn5 hn ho hc hT5 hsrcO hqs hqs1 hqs2
  clear K1 K2 K3 K4
  go_wp2
  refine NoPanic.normal ?_
  go_wp2
  go_ret
  rw [Hcd.out]
  exact ⟨rfl, Hfin.out⟩

set_option maxHeartbeats 2000000 in
theorem rfork_other (b : Nat) (v : Value) (r : RS) (s : Pr) (e : Ev) (w : World) (h : RAt w b v r) (hl : r.last < e.an) (h2 : 2 ≤ e.an) (hlen : r.L.length < 1000000) (h1 : (s.pid == 1) = false) :
    Calls Try.prog 15 #[.pointer (some ⟨b, 0, none⟩), s.agg, .agg e.cells] w fun x w' => x = .returned (.bool true) ∧ RTo w w' b (rOwn b v) ⟨r.L ++ [⟨e.an, ⟨s.p.c, s.p.why, false, s.p.pv⟩⟩], e.an⟩ := by
  obtain ⟨c, hcd⟩ : ∃ c : Pr, (⟨e.an, ⟨s.p.c, s.p.why, false, s.p.pv⟩⟩ : Pr) = c := ⟨_, rfl⟩
  obtain ⟨g, off, cap, hv, hcap, hcm, hg⟩ := h.prs.at h.pos
  subst hv
  obtain ⟨w0, hw0⟩ : ∃ w0, ((w.alloc (.cells s.cells.toArray 52)).alloc (.cells e.cells 40)) = w0 := ⟨_, rfl⟩
  obtain ⟨CC, hCC⟩ : ∃ CC, e.cells = CC := ⟨_, rfl⟩
  have hB := Blk.new (w.alloc (.cells s.cells.toArray 52)) 40 e.cells
  have k27 : ((w.alloc (.cells s.cells.toArray 52)).alloc (.cells e.cells 40)).cell? ⟨w.heap.size + 1, 27, none⟩ = some (.int .i64 e.an) := by have := hB.cell 27; rw [World.size_alloc] at this; exact this
  have hG := only_alloc (only_alloc (only_refl w none) (.cells s.cells.toArray 52)) (.cells e.cells 40)
  have hP0 : RowAt ((w.alloc (.cells s.cells.toArray 52)).alloc (.cells e.cells 40)) w.heap.size s := RowAt.of (Blk.chg (Blk.new w 52 s.cells.toArray) ((Chg.refl nobody _).alloc _) (fun h => h))
  have hT := h.gr hG
  have hbw : b < w.heap.size := h.blk.lt
  have hsz : w0.heap.size = w.heap.size + 2 := by rw [← hw0, World.size_alloc, World.size_alloc]
  rw [hw0] at k27 hG hP0 hT
  unfold Pr.cells at hw0
  rw [hCC] at hw0
  obtain ⟨c0, c1, c2, c3, c4, c5, c6, c7, c8⟩ := hP0
  obtain ⟨b0, b1⟩ := hT.blk.c2
  have z1 := hT.blk.frozen 1
  have hbl := hT.blk.lt
  have zA : ∀ o, (w0.alloc o).frozen? ⟨b, 1, none⟩ = false := fun o => (hT.blk.alloc o).frozen 1
  have zC : ∀ o, (w0.alloc o).cell? ⟨b, 1, none⟩ = some (.int .i64 r.last) := fun o => (hT.blk.alloc o).cell 1
  have q0 : decide (e.an < 2) = false := by simpa using h2
  have q1 : decide (e.an ≤ r.last) = false := by simpa using hl
  have HT := hide hT
  have H := hide h
  have HG := hide hG
  have Hcd := hide hcd
  have Hlen := hide hlen
  have Hsz := hide hsz
  have hpl : w.heap.size < w0.heap.size := by omega
  have hel : w.heap.size + 1 < w0.heap.size := by omega
  clear hB hT h hG hl h2 hcd hlen hcap hcm hg
  rw [hCC]
  unfold Pr.agg
  go_enter Try.func15, Try.ntmps15
  go_wp2_with fail
  obtain ⟨W4, hW4⟩ : ∃ W4, ((w0.alloc (.cells #[.int .i64 e.an, .int .i64 s.p.c.r, .int .i64 s.p.c.e, .int .i64 s.p.c.s, .int .i64 s.p.c.g, .int .i64 s.p.c.h, .int .i64 s.p.why, .bool false, .bool s.p.pv] 52)).setCell ⟨b, 1, none⟩ (.int .i64 e.an)) = W4 := ⟨_, rfl⟩
  rw [hW4]
  have hC0 : Chg (rOwn b (.slice (some ⟨g, off, none⟩) r.L.length cap)) w0 W4 := by
    rw [← hW4]
    exact (((Chg.refl _ w0).alloc _).setCell (p := ⟨b, 1, none⟩) (.inl (.inl rfl)) _)
  have hC4 : Chg (rOwn b (.slice (some ⟨g, off, none⟩) r.L.length cap)) w W4 := (Chg.of_grown HG.out (fun _ h => by cases h) : Chg (rOwn b (.slice (some ⟨g, off, none⟩) r.L.length cap)) w w0).trans hC0 (fun _ _ h => h)
  have hblk : Blk W4 w0.heap.size 52 c.cells.toArray := by
    rw [← hW4, ← Hcd.out]
    exact Blk.far (Blk.new w0 52 _) (by have : b < w0.heap.size := hbl; show w0.heap.size ≠ b; omega) _
  have hrow : RowAt W4 w0.heap.size c := RowAt.of hblk
  have hT4 : RAt W4 b (.slice (some ⟨g, off, none⟩) r.L.length cap) ⟨r.L, e.an⟩ := by
    rw [← hW4]
    exact ((HT.out.gr (only_alloc (only_refl w0 none) (.cells #[.int .i64 e.an, .int .i64 s.p.c.r, .int .i64 s.p.c.e, .int .i64 s.p.c.s, .int .i64 s.p.c.g, .int .i64 s.p.c.h, .int .i64 s.p.why, .bool false, .bool s.p.pv] 52))).setLast e.an)
  have hbl4 : b < W4.heap.size := hT4.blk.lt
  have hkl4 : w0.heap.size < W4.heap.size := hblk.lt
  have hgk : g ≠ w0.heap.size := by have := (HT.out.v_ne (k := g) rfl).2; omega
  have hgb : g ≠ b := (HT.out.v_ne (k := g) rfl).1
  have hqs : QS b w0.heap.size (.slice (some ⟨g, off, none⟩) r.L.length cap) c W4 := ⟨hT4.blk.cell 0, hrow⟩
  have HT4 := hide hT4
  have HC4 := hide hC4
  have Hgk := hide hgk
  rw [Hsz.out] at Hgk hqs hkl4
  generalize w.heap.size + 2 = kb at Hgk hqs hkl4 ⊢
  clear hT4 hC4 hC0 hblk hrow hW4 hgk c0 c1 c2 c3 c4 c5 c6 c7 c8 b0 b1 z1 zA zC hbl k27 hpl hel hw0
  refine wp_region_perm [0, 1, 2, 3, 4, 5] [6, 7, 8, 9, 10] (by kernel_rfl) (by kernel_rfl) (QS b kb (.slice (some ⟨g, off, none⟩) r.L.length cap) c) hqs ?_
  simp only [pick, List.getElem?_cons_zero, List.getElem?_cons_succ]
  repeat
    refine wpTake_cons ?_ (by rfl) ?_ ?_
    rotate_left
    · (intro W hSW; obtain ⟨hS1, j0, j1, j2, j3, j4, j5, j6, j7, j8⟩ := hSW; go_simp; try with_reducible rfl)
    simp only [Act.put, List.setIfInBounds_toArray, List.set_cons_zero, List.set_cons_succ]
  refine wpTake_nil ?_
  refine wpForce_cons fun K1 hK1 => ?_
  refine step_val (.slice (some ⟨W4.heap.size, 0, none⟩) 1 1) (W4.drew.alloc (.cells c.cells.toArray 52)) (by rfl) (by unfold Pr.cells; go_simp) ?_
  have hqs1 : QS b kb (.slice (some ⟨g, off, none⟩) r.L.length cap) c (W4.drew.alloc (.cells c.cells.toArray 52)) := ⟨drew_alloc_cell _ hqs.1 hbl4, hqs.2.chg ((Chg.refl nobody W4).drew.alloc _) hkl4 (fun h => h)⟩
  refine hK1.out _ _ hqs1 ?_
  simp only [Act.put, List.setIfInBounds_toArray, List.set_cons_zero, List.set_cons_succ]
  refine wpForce_cons fun K2 hK2 => ?_
  have hsrcO : Own (W4.drew.alloc (.cells c.cells.toArray 52)) 52 9 (.slice (some ⟨W4.heap.size, 0, none⟩) 1 1) 1 (pcs [c]) 0 := by
    have := Own.made W4.drew c.cells.toArray 52 9 1 0 rfl (by unfold maxLen; omega)
    rw [show c.cells.toArray.toList = pcs [c] from by simp [pcs]] at this
    exact this
  have hT5 := HT4.out.gr (only_alloc (only_drew (only_refl W4 none)) (.cells c.cells.toArray 52))
  refine step_appAt (by rfl) (.tmp 38) (.tmp 40) 53 53 (by rfl) 52 (Pr.agg ⟨0, ⟨zero, 0, false, false⟩⟩) 9 64 (by kernel_rfl) info52 rfl (.slice (some ⟨g, off, none⟩) r.L.length cap) r.L.length (pcs r.L) 0 _ 1 (pcs [c]) (by rfl) (by rfl) hT5.prs (by omega) (Own.src (e' := 52) hsrcO (by kernel_rfl) (pcs_one _)) (by have := Hlen.out; unfold maxLen; omega) (by have := Hlen.out; omega) ?_
  intro v' w5 ho hc hn _
  have hC5 : Chg (fun k => (Value.slice (some ⟨g, off, none⟩) r.L.length cap).ownBlock = some k) W4 w5 :=
    (((Chg.refl (fun k => (Value.slice (some ⟨g, off, none⟩) r.L.length cap).ownBlock = some k) W4).drew.alloc (.cells c.cells.toArray 52))).trans hc (fun _ _ h => h)
  have hn5 : ∀ k, v'.ownBlock = some k → (Value.slice (some ⟨g, off, none⟩) r.L.length cap).ownBlock = some k ∨ W4.heap.size ≤ k := by
    intro k hk
    rcases hn k hk with h | h
    · exact .inl h
    · rw [World.size_alloc] at h
      have : W4.drew.heap.size = W4.heap.size := rfl
      exact .inr (by omega)
  have hTf := HT4.out.newL hC5 (fun e => hgb (by simpa [Value.ownBlock] using e)) (r.L ++ [c]) (v' := v') (by
    unfold PrsIs
    rw [List.length_append, List.length_singleton, pcs_append]
    exact ho) (by simp) (by have := Hlen.out; rw [List.length_append, List.length_singleton]; omega)
  have hkg : ¬ (Value.slice (some ⟨g, off, none⟩) r.L.length cap).ownBlock = some kb := fun e => by simp [Value.ownBlock] at e; exact Hgk.out e
  have hqs2 : QS b kb (.slice (some ⟨g, off, none⟩) r.L.length cap) c w5 := ⟨(hC5.cell (p := ⟨b, 0, none⟩) hbl4 (fun e => hgb (by simpa [Value.ownBlock] using e))).trans hqs.1, hqs.2.chg hC5 hkl4 hkg⟩
  have u0 := hqs2.1
  have zb : w5.frozen? ⟨b, 0, none⟩ = false := (HT4.out.blk.chg hC5 (fun e => hgb (by simpa [Value.ownBlock] using e))).frozen 0
  have hb5 : b < w5.heap.size := Nat.lt_of_lt_of_le hbl4 hC5.size
  refine hK2.out _ _ hqs2 ?_
  simp only [Act.put, List.setIfInBounds_toArray, List.set_cons_zero, List.set_cons_succ]
  refine wpForce_cons fun K3 hK3 => ?_
  refine step_val (.pointer (some ⟨b, 0, none⟩)) w5 (by rfl) (by go_simp) ?_
  refine hK3.out _ _ hqs2 ?_
  simp only [Act.put, List.setIfInBounds_toArray, List.set_cons_zero, List.set_cons_succ]
  refine wpForce_cons fun K4 hK4 => ?_
  refine step_val (.pointer (some ⟨b, 0, none⟩)) w5 (by rfl) (by go_simp) ?_
  refine hK4.out _ _ hqs2 ?_
  simp only [Act.put, List.setIfInBounds_toArray, List.set_cons_zero, List.set_cons_succ]
  refine wpForce_one ?_
  have hCf : Chg (rOwn b (.slice (some ⟨g, off, none⟩) r.L.length cap)) w (w5.setCell ⟨b, 0, none⟩ v') := (HC4.out.trans hC5 (fun k _ h => .inr h)).setCell (p := ⟨b, 0, none⟩) (.inl (.inl rfl)) _
  have hnf : ∀ k, rOwn b v' k → rOwn b (.slice (some ⟨g, off, none⟩) r.L.length cap) k ∨ w.heap.size ≤ k := by
    rintro k (h | h)
    · exact .inl (.inl h)
    · rcases hn5 k h with h | h
      · exact .inl (.inr h)
      · exact .inr (Nat.le_trans HC4.out.size h)
  obtain ⟨fo, fc, hvf, _, _⟩ := ho.form
  subst hvf
  have Hfin := hide (show RTo w (w5.setCell ⟨b, 0, none⟩ (.slice fo (r.L.length + 1) fc)) b (rOwn b (.slice (some ⟨g, off, none⟩) r.L.length cap)) ⟨r.L ++ [c], e.an⟩ from ⟨_, hTf, hnf, hCf⟩)
  clear hK1 hK2 hK3 hK4 hCf hnf hTf hC5 hn5 hn ho hc hT5 hsrcO hqs hqs1 hqs2
  clear K1 K2 K3 K4
  go_wp2
  refine NoPanic.normal ?_
  go_wp2
  go_ret
  rw [Hcd.out]
  exact ⟨rfl, Hfin.out⟩

end Go.Proofs.Ytolmpejaakpikaa
