/- The walk of Fork. -/
import Derived.Test.YtljlbdbgocohlaaP
import Derived.Test.YtljlbdbgocohlaaStep
namespace Go.Proofs.Ytljlbdbgocohlaa
open Go.RowKit Go.Maps

theorem room_last {st : PS} {u : Int} : (roomRes st u).1.last = st.last := by
  unfold roomRes
  split
  · rfl
  · split <;> rfl
theorem TabAt.setLast {w : World} {b mb : Nat} {v : Value} {st : PS} (h : TabAt w b v mb st) (x : Int) : TabAt (w.setCell ⟨b, 1, none⟩ (.int .i64 x)) b v mb { st with last := x } :=
  ⟨h.blk.set_ 1 _, h.prs.chg (((Chg.refl (one_ b) w).setCell (p := ⟨b, 1, none⟩) (.inl rfl) _)) (fun k hk e => (h.v_ne hk).1 e), h.ct.chg ((Chg.refl (one_ b) w).setCell (p := ⟨b, 1, none⟩) (.inl rfl) _) (fun e => h.b_ne_mb e.symm), h.pos, h.len⟩
theorem TabAt.setSpare {w : World} {b mb : Nat} {v : Value} {st : PS} (h : TabAt w b v mb st) (x : Int) : TabAt (w.setCell ⟨b, 3, none⟩ (.int .i64 x)) b v mb { st with spare := x } :=
  ⟨h.blk.set_ 3 _, h.prs.chg (((Chg.refl (one_ b) w).setCell (p := ⟨b, 3, none⟩) (.inl rfl) _)) (fun k hk e => (h.v_ne hk).1 e), h.ct.chg ((Chg.refl (one_ b) w).setCell (p := ⟨b, 3, none⟩) (.inl rfl) _) (fun e => h.b_ne_mb e.symm), h.pos, h.len⟩
/-- Another slice of processes, kept in the table's first cell. -/
theorem TabAt.newL {w w' : World} {b mb : Nat} {v v' : Value} {st : PS} (h : TabAt w b v mb st) (hc : Chg (fun k => v.ownBlock = some k) w w') (L : List Pr) (ho : PrsIs w' 34 v' L) (hn : ∀ k, v'.ownBlock = some k → v.ownBlock = some k ∨ w.heap.size ≤ k) (h0 : 0 < L.length) (h1 : L.length ≤ 1000000) :
    TabAt (w'.setCell ⟨b, 0, none⟩ v') b v' mb { st with L := L } := by
  have hb := h.blk.lt
  have hm := h.ct.lt
  have hvb : ∀ k, v'.ownBlock = some k → k ≠ b ∧ k ≠ mb := by
    intro k hk
    rcases hn k hk with h1 | h1
    · exact ⟨(h.v_ne h1).1, (h.v_ne h1).2.1⟩
    · omega
  refine ⟨(h.blk.chg hc (fun e => (h.v_ne e).1 rfl)).set_ 0 _, ho.chg ((Chg.refl (one_ b) w').setCell (p := ⟨b, 0, none⟩) (.inl rfl) _) (fun k hk e => (hvb k hk).1 e),
    (h.ct.chg hc (fun e => (h.v_ne e).2.1 rfl)).chg ((Chg.refl (one_ b) w').setCell (p := ⟨b, 0, none⟩) (.inl rfl) _) (fun e => h.b_ne_mb e.symm), h0, h1⟩

theorem drew_alloc_cell {w : World} {k j : Nat} {u : Value} (o : Obj) (h : w.cell? ⟨k, j, none⟩ = some u) (hk : k < w.heap.size) : (w.drew.alloc o).cell? ⟨k, j, none⟩ = some u :=
  ((Chg.refl nobody w).drew.alloc o).cell (p := ⟨k, j, none⟩) hk (fun h => h) |>.trans h

set_option maxHeartbeats 1000000 in
theorem fork_some (b : Nat) (S : Nat → Prop) (st : PS) (par : Int) (w : World) (h : TabIs w b S st) (hL : Lite st) (hlast : 0 ≤ st.last ∧ st.last ≤ 1000000) (n : Nat) (hl : liveN st.L par = some n) (hs : (roomRes st (st.L.getD n pr0).usr).2 = 0) (hlen : st.L.length < 1000000) :
    Calls Try.prog 9 #[.pointer (some ⟨b, 0, none⟩), .int .i64 par, .bool false] w fun e w' => e = .returned (.tuple #[.int .i64 (st.last + 1), .int .i64 0]) ∧ TabTo w w' b S (addPr ((roomRes st (st.L.getD n pr0).usr).1) (child st par (st.L.getD n pr0) false)) := by
  obtain ⟨v, mb, h, rfl⟩ := h
  obtain ⟨g, off, cap, hv, hcap, hcm, hg⟩ := h.prs.at h.pos
  subst hv
  have hlive := live_any b g off cap mb st par w h
  have H := hide h
  have hroom0 := hs
  clear hs
  obtain ⟨hi, hn, s, hs, hp, hd⟩ := liveN_some hl
  have hgd : st.L.getD n pr0 = s := by rw [List.getD_eq_getElem?_getD, hs]; rfl
  rw [hgd] at hroom0 ⊢
  rw [hl] at hlive
  have hsu : wfi s.usr := hL.usr s (List.mem_of_getElem? hs)
  obtain ⟨st1, hst1⟩ : ∃ st1, (roomRes st s.usr).1 = st1 := ⟨_, rfl⟩
  have hrs := @room_st st s.usr
  have hla := @room_last st s.usr
  rw [hst1] at hrs hla ⊢
  have Hr0 := hide hroom0
  have Hst1 := hide hst1
  have Hl3 := hide hrs.1
  have Hla := hide hla
  clear hroom0 hst1 hrs hla
  have HL := hide hL
  have Hsu := hide hsu
  have Hl := hide hlive
  have Hs := hide hs
  have Hn := hide hn
  have Hlast := hide hlast
  have Hlen := hide hlen
  clear hlive hl h hi hs hd hp hgd hL hsu hlast hlen
  go_enter Try.func9, Try.ntmps9
  go_wp2_with fail
  refine Hl.out.mono ?_
  simp only [Option.map]
  rintro e w1 ⟨rfl, hg⟩
  have hT := H.out.gr hg
  obtain ⟨c0, c1, c2, c3, c4, c5, c6⟩ := hT.prs.c rfl hn Hs.out
  have Hg := hide hg
  have HT := hide hT
  clear hg hT
  go_wp2_with fail
  go_at_call 23
  refine (room_any b mb _ st s.usr w1 HT.out Hsu.out (by have := HL.out.ul; omega) (by have := HL.out.f s.usr; omega)).mono ?_
  rw [Hr0.out, Hst1.out]
  rintro e w2 ⟨rfl, hT2, hg2⟩
  have hC2 : Chg (tOwn b (.slice (some ⟨g, off, none⟩) st.L.length cap) mb) w w2 :=
    (Chg.of_grown Hg.out (fun _ h => by cases h) : Chg (tOwn b (.slice (some ⟨g, off, none⟩) st.L.length cap) mb) w w1).trans (Chg.of_grown hg2 (fun k hk => by injection hk with hk; exact hk.symm) : Chg (one_ mb) _ _) (fun k _ hk => .inr (.inr hk))
  clear hg2 c0 c1 c2 c3 c4 c5 c6
  have HT2 := hide hT2
  have HC2 := hide hC2
  obtain ⟨d0, d1, d2, d3, d4, d5, d6⟩ := hT2.prs.c (g := g) (off := off) (cap := cap) (by rw [Hl3.out]) (n := n) (by rw [Hl3.out]; exact hn) (by rw [Hl3.out]; exact Hs.out)
  obtain ⟨a0, a1, a2, a3⟩ := hT2.blk.c4
  rw [Hla.out] at a1
  have z1 := hT2.blk.frozen 1
  have q9 : wrap64 (st.last + 1) = st.last + 1 := by have := Hlast.out; unfold wrap64; omega
  clear hT2 hC2
  go_wp2_with fail
  rw [q9]
  have hT3 := HT2.out.setLast (st.last + 1)
  have hC3 : Chg (tOwn b (.slice (some ⟨g, off, none⟩) st.L.length cap) mb) w (w2.setCell ⟨b, 1, none⟩ (.int .i64 (st.last + 1))) := HC2.out.setCell (p := ⟨b, 1, none⟩) (.inl (.inl rfl)) _
  have hl3 : st1.L = st.L := Hl3.out
  clear a0 a1 a2 a3 z1 d0 d1 d2 d3 d4 d5 d6 HT2 HC2
  generalize w2.setCell ⟨b, 1, none⟩ (.int .i64 (st.last + 1)) = w3 at hT3 hC3 ⊢
  obtain ⟨d0, d1, d2, d3, d4, d5, d6⟩ := hT3.prs.c (g := g) (off := off) (cap := cap) (by rw [hl3]) (n := n) (by rw [hl3]; exact hn) (by rw [hl3]; exact Hs.out)
  obtain ⟨a0, a1, a2, a3⟩ := hT3.blk.c4
  have HT3 := hide hT3
  have HC3 := hide hC3
  have hbl : b < w3.heap.size := hT3.blk.lt
  have hgl : g < w3.heap.size := (hT3.v_ne (k := g) rfl).2.2
  clear hT3 hC3 hl3
  refine wp_region_perm [0, 1, 2, 3, 4, 5, 6, 7, 8, 9, 10, 11, 12, 13, 14] [15, 16] (by kernel_rfl) (by kernel_rfl) (fun w' => w'.cell? ⟨b, 1, none⟩ = some (.int .i64 (st.last + 1)) ∧ w'.cell? ⟨g, off + n * 7 + 2, none⟩ = some (.int .i64 s.usr) ∧ w'.cell? ⟨g, off + n * 7 + 3, none⟩ = some (.int .i64 s.ses)) ⟨a1, d2, d3⟩ ?_
  simp only [pick, List.getElem?_cons_zero, List.getElem?_cons_succ]
  repeat
    refine wpTake_cons ?_ (by rfl) ?_ ?_
    rotate_left
    · (intro W hSW; obtain ⟨hS1, hS2, hS3⟩ := hSW; go_simp; try with_reducible rfl)
    simp only [Act.put, List.setIfInBounds_toArray, List.set_cons_zero, List.set_cons_succ]
  refine wpTake_nil ?_
  refine wpForce_cons fun K1 hK1 => ?_
  refine step_val (.pointer (some ⟨w3.heap.size, 0, none⟩)) (w3.drew.alloc (.cells pr0.cells.toArray 34)) (by rfl) (by go_simp; try rfl) ?_
  refine hK1.out _ _ ⟨by go_simp, by go_simp, by go_simp⟩ ?_
  simp only [Act.put, List.setIfInBounds_toArray, List.set_cons_zero, List.set_cons_succ]
  refine wpForce_one ?_
  clear hK1
  clear K1
  unfold Pr.cells pr0
  go_wp2
  refine NoPanic.normal ?_
  obtain ⟨c, hc⟩ : ∃ c, child st par s false = c := ⟨_, rfl⟩
  have hc0 : c.pid = st.last + 1 ∧ c.par = par ∧ c.usr = s.usr ∧ c.ses = s.ses ∧ c.sta = 0 ∧ c.dead = false ∧ c.res = false := by rw [← hc]; exact ⟨rfl, rfl, rfl, rfl, rfl, rfl, rfl⟩
  obtain ⟨W4, hW4⟩ : ∃ W4, (w3.alloc (.cells #[.int .i64 (st.last + 1), .int .i64 par, .int .i64 s.usr, .int .i64 s.ses, .int .i64 0, .bool false, .bool false] 34)).drew = W4 := ⟨_, rfl⟩
  rw [hW4]
  have hgr : w3.grownBy W4 none := by rw [← hW4]; exact only_drew (only_alloc (only_refl _ _) _)
  have hblk : Blk W4 w3.heap.size 34 c.cells.toArray := by
    rw [← hW4, ← hc]
    exact Blk.chg (Blk.new w3 34 _) ((Chg.refl nobody _).drew) (fun h => h)
  have k0 : W4.cell? ⟨w3.heap.size, 0, none⟩ = some (.int .i64 c.pid) := hblk.cell 0
  have k1 : W4.cell? ⟨w3.heap.size, 1, none⟩ = some (.int .i64 c.par) := hblk.cell 1
  have k2 : W4.cell? ⟨w3.heap.size, 2, none⟩ = some (.int .i64 c.usr) := hblk.cell 2
  have k3 : W4.cell? ⟨w3.heap.size, 3, none⟩ = some (.int .i64 c.ses) := hblk.cell 3
  have k4 : W4.cell? ⟨w3.heap.size, 4, none⟩ = some (.int .i64 c.sta) := hblk.cell 4
  have k5 : W4.cell? ⟨w3.heap.size, 5, none⟩ = some (.bool c.dead) := hblk.cell 5
  have k6 : W4.cell? ⟨w3.heap.size, 6, none⟩ = some (.bool c.res) := hblk.cell 6
  have hT4 := HT3.out.gr hgr
  have hC4 : Chg (tOwn b (.slice (some ⟨g, off, none⟩) st.L.length cap) mb) w W4 := HC3.out.trans (Chg.of_grown hgr (fun _ h => by cases h) : Chg nobody _ _) (fun _ _ h => h.elim)
  obtain ⟨e0, e1, e2, e3⟩ := hT4.blk.c4
  have z0 := hT4.blk.frozen 0
  have HT4 := hide hT4
  have HC4 := hide hC4
  have Hc := hide hc
  have Hc0 := hide hc0
  have hbl4 : b < W4.heap.size := hT4.blk.lt
  have hgl4 : g < W4.heap.size := (hT4.v_ne (k := g) rfl).2.2
  have hkl4 : w3.heap.size < W4.heap.size := hblk.lt
  have hgk : g ≠ w3.heap.size := by omega
  generalize w3.heap.size = kb at hgk k0 k1 k2 k3 k4 k5 k6 hkl4 ⊢
  clear hT4 hC4 hblk hgr hW4 hc hc0 HT3 HC3 d0 d1 d2 d3 d4 d5 d6 a0 a1 a2 a3 hbl hgl
  go_wp2_with fail
  refine wp_region_perm [0, 1, 2, 3, 4, 5] [6, 7, 8, 9, 10] (by kernel_rfl) (by kernel_rfl) (fun w' => w'.cell? ⟨b, 0, none⟩ = some (.slice (some ⟨g, off, none⟩) st.L.length cap) ∧ w'.cell? ⟨kb, 0, none⟩ = some (.int .i64 c.pid) ∧ w'.cell? ⟨kb, 1, none⟩ = some (.int .i64 c.par) ∧ w'.cell? ⟨kb, 2, none⟩ = some (.int .i64 c.usr) ∧ w'.cell? ⟨kb, 3, none⟩ = some (.int .i64 c.ses) ∧ w'.cell? ⟨kb, 4, none⟩ = some (.int .i64 c.sta) ∧ w'.cell? ⟨kb, 5, none⟩ = some (.bool c.dead) ∧ w'.cell? ⟨kb, 6, none⟩ = some (.bool c.res)) ⟨e0, k0, k1, k2, k3, k4, k5, k6⟩ ?_
  simp only [pick, List.getElem?_cons_zero, List.getElem?_cons_succ]
  repeat
    refine wpTake_cons ?_ (by rfl) ?_ ?_
    rotate_left
    · (intro W hSW; obtain ⟨hS1, j0, j1, j2, j3, j4, j5, j6⟩ := hSW; go_simp; try with_reducible rfl)
    simp only [Act.put, List.setIfInBounds_toArray, List.set_cons_zero, List.set_cons_succ]
  refine wpTake_nil ?_
  refine wpForce_cons fun K1 hK1 => ?_
  refine step_val (.slice (some ⟨W4.heap.size, 0, none⟩) 1 1) (W4.drew.alloc (.cells c.cells.toArray 34)) (by rfl) (by unfold Pr.cells; go_simp) ?_
  refine hK1.out _ _ ⟨drew_alloc_cell _ e0 hbl4, drew_alloc_cell _ k0 hkl4, drew_alloc_cell _ k1 hkl4, drew_alloc_cell _ k2 hkl4, drew_alloc_cell _ k3 hkl4, drew_alloc_cell _ k4 hkl4, drew_alloc_cell _ k5 hkl4, drew_alloc_cell _ k6 hkl4⟩ ?_
  simp only [Act.put, List.setIfInBounds_toArray, List.set_cons_zero, List.set_cons_succ]
  refine wpForce_cons fun K2 hK2 => ?_
  have hsrcO : Own (W4.drew.alloc (.cells c.cells.toArray 34)) 34 7 (.slice (some ⟨W4.heap.size, 0, none⟩) 1 1) 1 (pcs [c]) 0 := by
    have := Own.made W4.drew c.cells.toArray 34 7 1 0 rfl (by unfold maxLen; omega)
    rw [show c.cells.toArray.toList = pcs [c] from by simp [pcs]] at this
    exact this
  have hT5 := HT4.out.gr (only_alloc (only_drew (only_refl W4 none)) (.cells c.cells.toArray 34))
  have hlen5 : ({ L := st1.L, last := st.last + 1, U := st1.U, f := st1.f, spare := st1.spare } : PS).L.length = st.L.length := by rw [← Hl3.out]
  refine step_appAt (by rfl) (.tmp 76) (.tmp 78) 46 46 (by rfl) 34 pr0.agg 7 48 (by kernel_rfl) info34 rfl (.slice (some ⟨g, off, none⟩) st.L.length cap) st.L.length (pcs st1.L) 0 _ 1 (pcs [c]) (by rfl) (by rfl) (by have := hT5.prs; unfold PrsIs at this; rw [hlen5] at this; exact this) (by omega) (Own.src (e' := 34) hsrcO (by kernel_rfl) (pcs_one _)) (by have := Hlen.out; unfold maxLen; omega) (by have := Hlen.out; omega) ?_
  intro v' w5 ho hc hn _
  have hC5 : Chg (fun k => (Value.slice (some ⟨g, off, none⟩) st.L.length cap).ownBlock = some k) W4 w5 :=
    (((Chg.refl (fun k => (Value.slice (some ⟨g, off, none⟩) st.L.length cap).ownBlock = some k) W4).drew.alloc (.cells c.cells.toArray 34))).trans hc (fun _ _ h => h)
  have hn5 : ∀ k, v'.ownBlock = some k → (Value.slice (some ⟨g, off, none⟩) st.L.length cap).ownBlock = some k ∨ W4.heap.size ≤ k := by
    intro k hk
    rcases hn k hk with h | h
    · exact .inl h
    · rw [World.size_alloc] at h
      have : W4.drew.heap.size = W4.heap.size := rfl
      exact .inr (by omega)
  have hTf := HT4.out.newL hC5 (st1.L ++ [c]) (v' := v') (by
    unfold PrsIs
    rw [List.length_append, List.length_singleton, show st1.L.length = st.L.length from by rw [Hl3.out], pcs_append]
    exact ho) hn5 (by simp) (by have := Hlen.out; rw [List.length_append, List.length_singleton, Hl3.out]; omega)
  have hgb : g ≠ b := by
    have := (HT4.out.v_ne (k := g) rfl).1
    exact this
  have hkg : ¬ (Value.slice (some ⟨g, off, none⟩) st.L.length cap).ownBlock = some kb := fun e => by simp [Value.ownBlock] at e; subst e; exact hgk rfl
  have u0 : w5.cell? ⟨b, 0, none⟩ = some (.slice (some ⟨g, off, none⟩) st.L.length cap) := (hC5.cell (p := ⟨b, 0, none⟩) hbl4 (fun e => hgb (by simpa [Value.ownBlock] using e))).trans e0
  have uu : ∀ j (u : Value), W4.cell? ⟨kb, j, none⟩ = some u → w5.cell? ⟨kb, j, none⟩ = some u := fun j u h => (hC5.cell (p := ⟨kb, j, none⟩) hkl4 hkg).trans h
  have zb : w5.frozen? ⟨b, 0, none⟩ = false := (HT4.out.blk.chg hC5 (fun e => hgb (by simpa [Value.ownBlock] using e))).frozen 0
  have hb5 : b < w5.heap.size := Nat.lt_of_lt_of_le hbl4 hC5.size
  refine hK2.out _ _ ⟨u0, uu _ _ k0, uu _ _ k1, uu _ _ k2, uu _ _ k3, uu _ _ k4, uu _ _ k5, uu _ _ k6⟩ ?_
  simp only [Act.put, List.setIfInBounds_toArray, List.set_cons_zero, List.set_cons_succ]
  refine wpForce_cons fun K3 hK3 => ?_
  refine step_val (.pointer (some ⟨b, 0, none⟩)) w5 (by rfl) (by go_simp) ?_
  refine hK3.out _ _ ⟨u0, uu _ _ k0, uu _ _ k1, uu _ _ k2, uu _ _ k3, uu _ _ k4, uu _ _ k5, uu _ _ k6⟩ ?_
  simp only [Act.put, List.setIfInBounds_toArray, List.set_cons_zero, List.set_cons_succ]
  refine wpForce_cons fun K4 hK4 => ?_
  refine step_val (.pointer (some ⟨b, 0, none⟩)) w5 (by rfl) (by go_simp) ?_
  refine hK4.out _ _ ⟨u0, uu _ _ k0, uu _ _ k1, uu _ _ k2, uu _ _ k3, uu _ _ k4, uu _ _ k5, uu _ _ k6⟩ ?_
  simp only [Act.put, List.setIfInBounds_toArray, List.set_cons_zero, List.set_cons_succ]
  refine wpForce_one ?_
  have hCf : Chg (tOwn b (.slice (some ⟨g, off, none⟩) st.L.length cap) mb) w (w5.setCell ⟨b, 0, none⟩ v') := (HC4.out.trans hC5 (fun k _ h => .inr (.inl h))).setCell (p := ⟨b, 0, none⟩) (.inl (.inl rfl)) _
  have hnf : ∀ k, tOwn b v' mb k → tOwn b (.slice (some ⟨g, off, none⟩) st.L.length cap) mb k ∨ w.heap.size ≤ k := by
    rintro k (h | h | h)
    · exact .inl (.inl h)
    · rcases hn5 k h with h | h
      · exact .inl (.inr (.inl h))
      · exact .inr (Nat.le_trans HC4.out.size h)
    · exact .inl (.inr (.inr h))
  obtain ⟨fo, fc, hvf, _, _⟩ := ho.form
  subst hvf
  obtain ⟨f0, f1, f2, f3⟩ := hTf.blk.c4
  have hfst : TabAt (w5.setCell ⟨b, 0, none⟩ (.slice fo (st.L.length + 1) fc)) b (.slice fo (st.L.length + 1) fc) mb (addPr st1 c) := by
    have : (addPr st1 c) = { st1 with L := st1.L ++ [c], last := st.last + 1 } := by unfold addPr; rw [Hla.out]
    rw [this]
    exact hTf
  have Hfin := hide (TabTo.mk H.out hfst hCf hnf)
  clear hK1 hK2 hK3 hK4 K1 K2 K3 K4 hfst hCf hnf hTf hC5 hn5 hn ho hc hT5 hsrcO uu
  go_wp2
  refine NoPanic.normal ?_
  go_wp2
  go_ret2
  rw [Hc.out]
  exact ⟨rfl, Hfin.out⟩

set_option maxHeartbeats 1000000 in
theorem fork_res (b : Nat) (S : Nat → Prop) (st : PS) (w : World) (h : TabIs w b S st) (hL : Lite st) (hlast : 0 ≤ st.last ∧ st.last ≤ 1000000) (n : Nat) (hl : liveN st.L 1 = some n) (hlen : st.L.length < 1000000) (h5 : ¬ 5 ≤ st.spare) :
    Calls Try.prog 9 #[.pointer (some ⟨b, 0, none⟩), .int .i64 1, .bool true] w fun e w' => e = .returned (.tuple #[.int .i64 (st.last + 1), .int .i64 0]) ∧ TabTo w w' b S (addPr (more st) (child st 1 (st.L.getD n pr0) true)) := by
  obtain ⟨v, mb, h, rfl⟩ := h
  obtain ⟨g, off, cap, hv, hcap, hcm, hg⟩ := h.prs.at h.pos
  subst hv
  have hlive := live_any b g off cap mb st 1 w h
  have H := hide h
  obtain ⟨hi, hn, s, hs, hp, hd⟩ := liveN_some hl
  have hgd : st.L.getD n pr0 = s := by rw [List.getD_eq_getElem?_getD, hs]; rfl
  rw [hgd]
  rw [hl] at hlive
  have hsu : wfi s.usr := hL.usr s (List.mem_of_getElem? hs)
  obtain ⟨st1, hst1⟩ : ∃ st1, more st = st1 := ⟨_, rfl⟩
  have hrs : st1.L = st.L := by rw [← hst1]; rfl
  have hla : st1.last = st.last := by rw [← hst1]; rfl
  rw [hst1]
  have q5 : decide (5 ≤ st.spare) = false := by simpa using h5
  have Hst1 := hide hst1
  have Hl3 := hide hrs
  have Hla := hide hla
  clear hst1 hrs hla h5
  have HL := hide hL
  have Hsu := hide hsu
  have Hl := hide hlive
  have Hs := hide hs
  have Hn := hide hn
  have Hlast := hide hlast
  have Hlen := hide hlen
  clear hlive hl h hi hs hd hp hgd hL hsu hlast hlen
  go_enter Try.func9, Try.ntmps9
  go_wp2_with fail
  refine Hl.out.mono ?_
  simp only [Option.map]
  rintro e w1 ⟨rfl, hg⟩
  have hT := H.out.gr hg
  obtain ⟨c0, c1, c2, c3, c4, c5, c6⟩ := hT.prs.c rfl hn Hs.out
  obtain ⟨a0, a1, a2, a3⟩ := hT.blk.c4
  rw [← Hla.out] at a1
  have z3 := hT.blk.frozen 3
  have z1 := hT.blk.frozen 1
  have hsp : wrap64 (st.spare + 1) = st.spare + 1 := by have := HL.out.sp; unfold wrap64; omega
  have q9 : wrap64 (st1.last + 1) = st.last + 1 := by have := Hlast.out; rw [Hla.out]; unfold wrap64; omega
  have hT2 := hT.setSpare (st.spare + 1)
  rw [show ({ st with spare := st.spare + 1 } : PS) = st1 from Hst1.out] at hT2
  have hC2 : Chg (tOwn b (.slice (some ⟨g, off, none⟩) st.L.length cap) mb) w (w1.setCell ⟨b, 3, none⟩ (.int .i64 (st.spare + 1))) :=
    (Chg.of_grown hg (fun _ h => by cases h) : Chg (tOwn b (.slice (some ⟨g, off, none⟩) st.L.length cap) mb) w w1).setCell (p := ⟨b, 3, none⟩) (.inl (.inl rfl)) _
  have HT2 := hide hT2
  have HC2 := hide hC2
  clear hg hT hT2 hC2
  go_wp2_with fail
  rw [hsp, q9]
  have hT3 := HT2.out.setLast (st.last + 1)
  have hC3 : Chg (tOwn b (.slice (some ⟨g, off, none⟩) st.L.length cap) mb) w ((w1.setCell ⟨b, 3, none⟩ (.int .i64 (st.spare + 1))).setCell ⟨b, 1, none⟩ (.int .i64 (st.last + 1))) := HC2.out.setCell (p := ⟨b, 1, none⟩) (.inl (.inl rfl)) _
  have hl3 : st1.L = st.L := Hl3.out
  clear a0 a1 a2 a3 z1 z3 c0 c1 c2 c3 c4 c5 c6 HT2 HC2
  generalize (w1.setCell ⟨b, 3, none⟩ (.int .i64 (st.spare + 1))).setCell ⟨b, 1, none⟩ (.int .i64 (st.last + 1)) = w3 at hT3 hC3 ⊢
  obtain ⟨d0, d1, d2, d3, d4, d5, d6⟩ := hT3.prs.c (g := g) (off := off) (cap := cap) (by rw [hl3]) (n := n) (by rw [hl3]; exact hn) (by rw [hl3]; exact Hs.out)
  obtain ⟨a0, a1, a2, a3⟩ := hT3.blk.c4
  have HT3 := hide hT3
  have HC3 := hide hC3
  have hbl : b < w3.heap.size := hT3.blk.lt
  have hgl : g < w3.heap.size := (hT3.v_ne (k := g) rfl).2.2
  clear hT3 hC3 hl3
  refine wp_region_perm [0, 1, 2, 3, 4, 5, 6, 7, 8, 9, 10, 11, 12, 13, 14] [15, 16] (by kernel_rfl) (by kernel_rfl) (fun w' => w'.cell? ⟨b, 1, none⟩ = some (.int .i64 (st.last + 1)) ∧ w'.cell? ⟨g, off + n * 7 + 2, none⟩ = some (.int .i64 s.usr) ∧ w'.cell? ⟨g, off + n * 7 + 3, none⟩ = some (.int .i64 s.ses)) ⟨a1, d2, d3⟩ ?_
  simp only [pick, List.getElem?_cons_zero, List.getElem?_cons_succ]
  repeat
    refine wpTake_cons ?_ (by rfl) ?_ ?_
    rotate_left
    · (intro W hSW; obtain ⟨hS1, hS2, hS3⟩ := hSW; go_simp; try with_reducible rfl)
    simp only [Act.put, List.setIfInBounds_toArray, List.set_cons_zero, List.set_cons_succ]
  refine wpTake_nil ?_
  refine wpForce_cons fun K1 hK1 => ?_
  refine step_val (.pointer (some ⟨w3.heap.size, 0, none⟩)) (w3.drew.alloc (.cells pr0.cells.toArray 34)) (by rfl) (by go_simp; try rfl) ?_
  refine hK1.out _ _ ⟨by go_simp, by go_simp, by go_simp⟩ ?_
  simp only [Act.put, List.setIfInBounds_toArray, List.set_cons_zero, List.set_cons_succ]
  refine wpForce_one ?_
  clear hK1
  clear K1
  unfold Pr.cells pr0
  go_wp2
  refine NoPanic.normal ?_
  obtain ⟨c, hc⟩ : ∃ c, child st 1 s true = c := ⟨_, rfl⟩
  have hc0 : c.pid = st.last + 1 ∧ c.par = 1 ∧ c.usr = s.usr ∧ c.ses = s.ses ∧ c.sta = 0 ∧ c.dead = false ∧ c.res = true := by rw [← hc]; exact ⟨rfl, rfl, rfl, rfl, rfl, rfl, rfl⟩
  obtain ⟨W4, hW4⟩ : ∃ W4, (w3.alloc (.cells #[.int .i64 (st.last + 1), .int .i64 1, .int .i64 s.usr, .int .i64 s.ses, .int .i64 0, .bool false, .bool true] 34)).drew = W4 := ⟨_, rfl⟩
  rw [hW4]
  have hgr : w3.grownBy W4 none := by rw [← hW4]; exact only_drew (only_alloc (only_refl _ _) _)
  have hblk : Blk W4 w3.heap.size 34 c.cells.toArray := by
    rw [← hW4, ← hc]
    exact Blk.chg (Blk.new w3 34 _) ((Chg.refl nobody _).drew) (fun h => h)
  have k0 : W4.cell? ⟨w3.heap.size, 0, none⟩ = some (.int .i64 c.pid) := hblk.cell 0
  have k1 : W4.cell? ⟨w3.heap.size, 1, none⟩ = some (.int .i64 c.par) := hblk.cell 1
  have k2 : W4.cell? ⟨w3.heap.size, 2, none⟩ = some (.int .i64 c.usr) := hblk.cell 2
  have k3 : W4.cell? ⟨w3.heap.size, 3, none⟩ = some (.int .i64 c.ses) := hblk.cell 3
  have k4 : W4.cell? ⟨w3.heap.size, 4, none⟩ = some (.int .i64 c.sta) := hblk.cell 4
  have k5 : W4.cell? ⟨w3.heap.size, 5, none⟩ = some (.bool c.dead) := hblk.cell 5
  have k6 : W4.cell? ⟨w3.heap.size, 6, none⟩ = some (.bool c.res) := hblk.cell 6
  have hT4 := HT3.out.gr hgr
  have hC4 : Chg (tOwn b (.slice (some ⟨g, off, none⟩) st.L.length cap) mb) w W4 := HC3.out.trans (Chg.of_grown hgr (fun _ h => by cases h) : Chg nobody _ _) (fun _ _ h => h.elim)
  obtain ⟨e0, e1, e2, e3⟩ := hT4.blk.c4
  have z0 := hT4.blk.frozen 0
  have HT4 := hide hT4
  have HC4 := hide hC4
  have Hc := hide hc
  have Hc0 := hide hc0
  have hbl4 : b < W4.heap.size := hT4.blk.lt
  have hgl4 : g < W4.heap.size := (hT4.v_ne (k := g) rfl).2.2
  have hkl4 : w3.heap.size < W4.heap.size := hblk.lt
  have hgk : g ≠ w3.heap.size := by omega
  generalize w3.heap.size = kb at hgk k0 k1 k2 k3 k4 k5 k6 hkl4 ⊢
  clear hT4 hC4 hblk hgr hW4 hc hc0 HT3 HC3 d0 d1 d2 d3 d4 d5 d6 a0 a1 a2 a3 hbl hgl
  go_wp2_with fail
  refine wp_region_perm [0, 1, 2, 3, 4, 5] [6, 7, 8, 9, 10] (by kernel_rfl) (by kernel_rfl) (fun w' => w'.cell? ⟨b, 0, none⟩ = some (.slice (some ⟨g, off, none⟩) st.L.length cap) ∧ w'.cell? ⟨kb, 0, none⟩ = some (.int .i64 c.pid) ∧ w'.cell? ⟨kb, 1, none⟩ = some (.int .i64 c.par) ∧ w'.cell? ⟨kb, 2, none⟩ = some (.int .i64 c.usr) ∧ w'.cell? ⟨kb, 3, none⟩ = some (.int .i64 c.ses) ∧ w'.cell? ⟨kb, 4, none⟩ = some (.int .i64 c.sta) ∧ w'.cell? ⟨kb, 5, none⟩ = some (.bool c.dead) ∧ w'.cell? ⟨kb, 6, none⟩ = some (.bool c.res)) ⟨e0, k0, k1, k2, k3, k4, k5, k6⟩ ?_
  simp only [pick, List.getElem?_cons_zero, List.getElem?_cons_succ]
  repeat
    refine wpTake_cons ?_ (by rfl) ?_ ?_
    rotate_left
    · (intro W hSW; obtain ⟨hS1, j0, j1, j2, j3, j4, j5, j6⟩ := hSW; go_simp; try with_reducible rfl)
    simp only [Act.put, List.setIfInBounds_toArray, List.set_cons_zero, List.set_cons_succ]
  refine wpTake_nil ?_
  refine wpForce_cons fun K1 hK1 => ?_
  refine step_val (.slice (some ⟨W4.heap.size, 0, none⟩) 1 1) (W4.drew.alloc (.cells c.cells.toArray 34)) (by rfl) (by unfold Pr.cells; go_simp) ?_
  refine hK1.out _ _ ⟨drew_alloc_cell _ e0 hbl4, drew_alloc_cell _ k0 hkl4, drew_alloc_cell _ k1 hkl4, drew_alloc_cell _ k2 hkl4, drew_alloc_cell _ k3 hkl4, drew_alloc_cell _ k4 hkl4, drew_alloc_cell _ k5 hkl4, drew_alloc_cell _ k6 hkl4⟩ ?_
  simp only [Act.put, List.setIfInBounds_toArray, List.set_cons_zero, List.set_cons_succ]
  refine wpForce_cons fun K2 hK2 => ?_
  have hsrcO : Own (W4.drew.alloc (.cells c.cells.toArray 34)) 34 7 (.slice (some ⟨W4.heap.size, 0, none⟩) 1 1) 1 (pcs [c]) 0 := by
    have := Own.made W4.drew c.cells.toArray 34 7 1 0 rfl (by unfold maxLen; omega)
    rw [show c.cells.toArray.toList = pcs [c] from by simp [pcs]] at this
    exact this
  have hT5 := HT4.out.gr (only_alloc (only_drew (only_refl W4 none)) (.cells c.cells.toArray 34))
  have hlen5 : ({ L := st1.L, last := st.last + 1, U := st1.U, f := st1.f, spare := st1.spare } : PS).L.length = st.L.length := by rw [← Hl3.out]
  refine step_appAt (by rfl) (.tmp 76) (.tmp 78) 46 46 (by rfl) 34 pr0.agg 7 48 (by kernel_rfl) info34 rfl (.slice (some ⟨g, off, none⟩) st.L.length cap) st.L.length (pcs st1.L) 0 _ 1 (pcs [c]) (by rfl) (by rfl) (by have := hT5.prs; unfold PrsIs at this; rw [hlen5] at this; exact this) (by omega) (Own.src (e' := 34) hsrcO (by kernel_rfl) (pcs_one _)) (by have := Hlen.out; unfold maxLen; omega) (by have := Hlen.out; omega) ?_
  intro v' w5 ho hc hn _
  have hC5 : Chg (fun k => (Value.slice (some ⟨g, off, none⟩) st.L.length cap).ownBlock = some k) W4 w5 :=
    (((Chg.refl (fun k => (Value.slice (some ⟨g, off, none⟩) st.L.length cap).ownBlock = some k) W4).drew.alloc (.cells c.cells.toArray 34))).trans hc (fun _ _ h => h)
  have hn5 : ∀ k, v'.ownBlock = some k → (Value.slice (some ⟨g, off, none⟩) st.L.length cap).ownBlock = some k ∨ W4.heap.size ≤ k := by
    intro k hk
    rcases hn k hk with h | h
    · exact .inl h
    · rw [World.size_alloc] at h
      have : W4.drew.heap.size = W4.heap.size := rfl
      exact .inr (by omega)
  have hTf := HT4.out.newL hC5 (st1.L ++ [c]) (v' := v') (by
    unfold PrsIs
    rw [List.length_append, List.length_singleton, show st1.L.length = st.L.length from by rw [Hl3.out], pcs_append]
    exact ho) hn5 (by simp) (by have := Hlen.out; rw [List.length_append, List.length_singleton, Hl3.out]; omega)
  have hgb : g ≠ b := by
    have := (HT4.out.v_ne (k := g) rfl).1
    exact this
  have hkg : ¬ (Value.slice (some ⟨g, off, none⟩) st.L.length cap).ownBlock = some kb := fun e => by simp [Value.ownBlock] at e; subst e; exact hgk rfl
  have u0 : w5.cell? ⟨b, 0, none⟩ = some (.slice (some ⟨g, off, none⟩) st.L.length cap) := (hC5.cell (p := ⟨b, 0, none⟩) hbl4 (fun e => hgb (by simpa [Value.ownBlock] using e))).trans e0
  have uu : ∀ j (u : Value), W4.cell? ⟨kb, j, none⟩ = some u → w5.cell? ⟨kb, j, none⟩ = some u := fun j u h => (hC5.cell (p := ⟨kb, j, none⟩) hkl4 hkg).trans h
  have zb : w5.frozen? ⟨b, 0, none⟩ = false := (HT4.out.blk.chg hC5 (fun e => hgb (by simpa [Value.ownBlock] using e))).frozen 0
  have hb5 : b < w5.heap.size := Nat.lt_of_lt_of_le hbl4 hC5.size
  refine hK2.out _ _ ⟨u0, uu _ _ k0, uu _ _ k1, uu _ _ k2, uu _ _ k3, uu _ _ k4, uu _ _ k5, uu _ _ k6⟩ ?_
  simp only [Act.put, List.setIfInBounds_toArray, List.set_cons_zero, List.set_cons_succ]
  refine wpForce_cons fun K3 hK3 => ?_
  refine step_val (.pointer (some ⟨b, 0, none⟩)) w5 (by rfl) (by go_simp) ?_
  refine hK3.out _ _ ⟨u0, uu _ _ k0, uu _ _ k1, uu _ _ k2, uu _ _ k3, uu _ _ k4, uu _ _ k5, uu _ _ k6⟩ ?_
  simp only [Act.put, List.setIfInBounds_toArray, List.set_cons_zero, List.set_cons_succ]
  refine wpForce_cons fun K4 hK4 => ?_
  refine step_val (.pointer (some ⟨b, 0, none⟩)) w5 (by rfl) (by go_simp) ?_
  refine hK4.out _ _ ⟨u0, uu _ _ k0, uu _ _ k1, uu _ _ k2, uu _ _ k3, uu _ _ k4, uu _ _ k5, uu _ _ k6⟩ ?_
  simp only [Act.put, List.setIfInBounds_toArray, List.set_cons_zero, List.set_cons_succ]
  refine wpForce_one ?_
  have hCf : Chg (tOwn b (.slice (some ⟨g, off, none⟩) st.L.length cap) mb) w (w5.setCell ⟨b, 0, none⟩ v') := (HC4.out.trans hC5 (fun k _ h => .inr (.inl h))).setCell (p := ⟨b, 0, none⟩) (.inl (.inl rfl)) _
  have hnf : ∀ k, tOwn b v' mb k → tOwn b (.slice (some ⟨g, off, none⟩) st.L.length cap) mb k ∨ w.heap.size ≤ k := by
    rintro k (h | h | h)
    · exact .inl (.inl h)
    · rcases hn5 k h with h | h
      · exact .inl (.inr (.inl h))
      · exact .inr (Nat.le_trans HC4.out.size h)
    · exact .inl (.inr (.inr h))
  obtain ⟨fo, fc, hvf, _, _⟩ := ho.form
  subst hvf
  obtain ⟨f0, f1, f2, f3⟩ := hTf.blk.c4
  have hfst : TabAt (w5.setCell ⟨b, 0, none⟩ (.slice fo (st.L.length + 1) fc)) b (.slice fo (st.L.length + 1) fc) mb (addPr st1 c) := by
    have : (addPr st1 c) = { st1 with L := st1.L ++ [c], last := st.last + 1 } := by unfold addPr; rw [Hla.out]
    rw [this]
    exact hTf
  have Hfin := hide (TabTo.mk H.out hfst hCf hnf)
  clear hK1 hK2 hK3 hK4 K1 K2 K3 K4 hfst hCf hnf hTf hC5 hn5 hn ho hc hT5 hsrcO uu
  go_wp2
  refine NoPanic.normal ?_
  go_wp2
  go_ret2
  rw [Hc.out]
  exact ⟨rfl, Hfin.out⟩

set_option maxHeartbeats 1000000 in
theorem fork_none (b : Nat) (S : Nat → Prop) (st : PS) (par : Int) (res : Bool) (w : World) (h : TabIs w b S st) (hl : liveN st.L par = none) :
    Calls Try.prog 9 #[.pointer (some ⟨b, 0, none⟩), .int .i64 par, .bool res] w fun e w' => e = .returned (.tuple #[.int .i64 0, .int .i64 3]) ∧ TabTo w w' b S st := by
  obtain ⟨v, mb, h, rfl⟩ := h
  obtain ⟨g, off, cap, hv, hcap, hcm, hg⟩ := h.prs.at h.pos
  subst hv
  have hlive := live_any b g off cap mb st par w h
  have H := hide h
  rw [hl] at hlive
  have Hl := hide hlive
  clear hlive hl h
  go_enter Try.func9, Try.ntmps9
  go_wp2_with fail
  refine Hl.out.mono ?_
  simp only [Option.map]
  rintro e w1 ⟨rfl, hg⟩
  have Hg := hide hg
  clear hg
  go_wp2
  go_ret2
  exact ⟨rfl, TabTo.gr ⟨_, _, H.out, rfl⟩ Hg.out⟩

set_option maxHeartbeats 1000000 in
theorem fork_perm (b : Nat) (S : Nat → Prop) (st : PS) (par : Int) (w : World) (h : TabIs w b S st) (n : Nat) (hl : liveN st.L par = some n) (h1 : par ≠ 1) :
    Calls Try.prog 9 #[.pointer (some ⟨b, 0, none⟩), .int .i64 par, .bool true] w fun e w' => e = .returned (.tuple #[.int .i64 0, .int .i64 2]) ∧ TabTo w w' b S st := by
  obtain ⟨v, mb, h, rfl⟩ := h
  obtain ⟨g, off, cap, hv, hcap, hcm, hg⟩ := h.prs.at h.pos
  subst hv
  have hlive := live_any b g off cap mb st par w h
  have H := hide h
  rw [hl] at hlive
  have Hl := hide hlive
  have q1 : (par == 1) = false := by simpa using h1
  clear hlive hl h h1
  go_enter Try.func9, Try.ntmps9
  go_wp2_with fail
  refine Hl.out.mono ?_
  simp only [Option.map]
  rintro e w1 ⟨rfl, hg⟩
  have Hg := hide hg
  clear hg
  go_wp2
  go_ret2
  exact ⟨rfl, TabTo.gr ⟨_, _, H.out, rfl⟩ Hg.out⟩

set_option maxHeartbeats 1000000 in
theorem fork_full (b : Nat) (S : Nat → Prop) (st : PS) (w : World) (h : TabIs w b S st) (n : Nat) (hl : liveN st.L 1 = some n) (h5 : 5 ≤ st.spare) :
    Calls Try.prog 9 #[.pointer (some ⟨b, 0, none⟩), .int .i64 1, .bool true] w fun e w' => e = .returned (.tuple #[.int .i64 0, .int .i64 12]) ∧ TabTo w w' b S st := by
  obtain ⟨v, mb, h, rfl⟩ := h
  obtain ⟨g, off, cap, hv, hcap, hcm, hg⟩ := h.prs.at h.pos
  subst hv
  have hlive := live_any b g off cap mb st 1 w h
  have H := hide h
  rw [hl] at hlive
  have Hl := hide hlive
  have q1 : decide (5 ≤ st.spare) = true := by simpa using h5
  clear hlive hl h h5
  go_enter Try.func9, Try.ntmps9
  go_wp2_with fail
  refine Hl.out.mono ?_
  simp only [Option.map]
  rintro e w1 ⟨rfl, hg⟩
  have hT := H.out.gr hg
  obtain ⟨a0, a1, a2, a3⟩ := hT.blk.c4
  have Hg := hide hg
  clear hg hT
  go_wp2
  go_ret2
  exact ⟨rfl, TabTo.gr ⟨_, _, H.out, rfl⟩ Hg.out⟩

set_option maxHeartbeats 1000000 in
theorem fork_noroom (b : Nat) (S : Nat → Prop) (st : PS) (par : Int) (w : World) (h : TabIs w b S st) (hL : Lite st) (n : Nat) (hl : liveN st.L par = some n) (hr : (roomRes st (st.L.getD n pr0).usr).2 ≠ 0) :
    Calls Try.prog 9 #[.pointer (some ⟨b, 0, none⟩), .int .i64 par, .bool false] w fun e w' => e = .returned (.tuple #[.int .i64 0, .int .i64 (roomRes st (st.L.getD n pr0).usr).2]) ∧ TabTo w w' b S st := by
  obtain ⟨v, mb, h, rfl⟩ := h
  obtain ⟨g, off, cap, hv, hcap, hcm, hg⟩ := h.prs.at h.pos
  subst hv
  have hlive := live_any b g off cap mb st par w h
  have H := hide h
  obtain ⟨hi, hn, s, hs, hp, hd⟩ := liveN_some hl
  have hgd : st.L.getD n pr0 = s := by rw [List.getD_eq_getElem?_getD, hs]; rfl
  rw [hgd] at hr ⊢
  rw [hl] at hlive
  have hsu : wfi s.usr := hL.usr s (List.mem_of_getElem? hs)
  have hf := room_fail hr
  obtain ⟨r, hr1⟩ : ∃ r, (roomRes st s.usr).2 = r := ⟨_, rfl⟩
  rw [hr1] at hr ⊢
  have q5 : (r == 0) = false := by simpa using hr
  have HL := hide hL
  have Hsu := hide hsu
  have Hl := hide hlive
  have Hs := hide hs
  have Hr := hide hr1
  have Hf := hide hf
  clear hlive hl h hi hs hd hp hgd hL hsu hr hr1 hf
  go_enter Try.func9, Try.ntmps9
  go_wp2_with fail
  refine Hl.out.mono ?_
  simp only [Option.map]
  rintro e w1 ⟨rfl, hg⟩
  have hT := H.out.gr hg
  obtain ⟨c0, c1, c2, c3, c4, c5, c6⟩ := hT.prs.c rfl hn Hs.out
  have Hg := hide hg
  have HT := hide hT
  clear hg hT
  go_wp2_with fail
  go_at_call 23
  refine (room_any b mb _ st s.usr w1 HT.out Hsu.out (by have := HL.out.ul; omega) (by have := HL.out.f s.usr; omega)).mono ?_
  rw [Hr.out, Hf.out]
  rintro e w2 ⟨rfl, hT2, hg2⟩
  have Hg2 := hide hg2
  have HT2 := hide hT2
  clear hg2 hT2 c0 c1 c2 c3 c4 c5 c6
  go_wp2
  go_ret2
  refine ⟨rfl, TabTo.mk H.out HT2.out ?_ (fun k hk => .inl hk)⟩
  have e1 : Chg (tOwn b (.slice (some ⟨g, off, none⟩) st.L.length cap) mb) w w1 := Chg.of_grown Hg.out (fun _ h => by cases h)
  exact e1.trans (Chg.of_grown Hg2.out (fun k hk => by injection hk with hk; exact hk.symm) : Chg (one_ mb) _ _) (fun k _ hk => .inr (.inr hk))

theorem fork_any (b : Nat) (S : Nat → Prop) (st : PS) (par : Int) (res : Bool) (w : World) (h : TabIs w b S st) (hL : Lite st) (hlast : 0 ≤ st.last ∧ st.last ≤ 1000000) (hlen : st.L.length < 1000000) :
    Calls Try.prog 9 #[.pointer (some ⟨b, 0, none⟩), .int .i64 par, .bool res] w fun e w' => e = .returned (.tuple #[.int .i64 (forkRes st par res).2.1, .int .i64 (forkRes st par res).2.2]) ∧ TabTo w w' b S (forkRes st par res).1 := by
  unfold forkRes
  cases hl : liveN st.L par with
  | none => exact fork_none b S st par res w h hl
  | some n =>
    cases res with
    | true =>
      simp only [if_true]
      by_cases h1 : par = 1
      · subst h1
        rw [if_neg (by simp)]
        by_cases h5 : 5 ≤ st.spare
        · rw [if_pos h5]
          exact fork_full b S st w h n hl h5
        · rw [if_neg h5]
          exact fork_res b S st w h hL hlast n hl hlen h5
      · rw [if_pos h1]
        exact fork_perm b S st par w h n hl h1
    | false =>
      simp only [Bool.false_eq_true, if_false]
      by_cases hr : (roomRes st (st.L.getD n pr0).usr).2 = 0
      · rw [if_pos hr]
        exact fork_some b S st par w h hL hlast n hl hr hlen
      · rw [if_neg hr]
        exact fork_noroom b S st par w h hL n hl hr

end Go.Proofs.Ytljlbdbgocohlaa
