/- The document's table: the walks of Get, Leads, Becomes, Exit, New. -/
import Derived.Test.YtljlbdbgocohlaaN
namespace Go.Proofs.Ytljlbdbgocohlaa
open Go.RowKit Go.Maps

def PS.rs (st : PS) : RS := ⟨st.L, st.last, st.U⟩
theorem Inv.rs {st : PS} (h : Inv st) : st.rs.st = st := by
  unfold PS.rs RS.st
  cases st with
  | mk L last U f spare =>
    have e1 : f = cnt L := funext h.f
    have e2 : spare = rcnt L := h.sp
    simp only [e1, e2]

set_option maxHeartbeats 400000 in
theorem rget_any (b : Nat) (v u : Value) (r : RS) (pid : Int) (w : World) (h : RAt w b v u r) :
    Calls Try.prog 20 #[.pointer (some ⟨b, 0, none⟩), .int .i64 pid] w fun e w' => e = .returned (.tuple #[(match idx r.L pid with | some n => (r.L.getD n pr0).agg | none => pr0.agg), .bool (idx r.L pid).isSome]) ∧ w.grownBy w' none := by
  obtain ⟨g, off, cap, hv, hcap, hcm, hg⟩ := h.prs.at h.pos
  have H := hide (h.gr (only_alloc (only_refl w none) (.cells #[.int .i64 0, .int .i64 0, .int .i64 0, .int .i64 0, .int .i64 0, .bool false, .bool false] 50)))
  have hat := (rat_any b v u r pid _ H.out).mono (R' := fun e w' => e = .returned (.int .i64 (oi (idx r.L pid))) ∧ (w.alloc (.cells #[.int .i64 0, .int .i64 0, .int .i64 0, .int .i64 0, .int .i64 0, .bool false, .bool false] 50)).grownBy w' none) (fun e w' h => ⟨h.1, h.2 ▸ only_refl _ _⟩)
  subst hv
  unfold pr0 Pr.agg
  cases hi : idx r.L pid with
  | none =>
    rw [hi] at hat
    have Hat := hide hat
    clear hat hi h
    go_enter Try.func20, Try.ntmps20
    go_wp2_with fail
    refine Hat.out.mono ?_
    unfold oi
    rintro e w1 ⟨rfl, hg⟩
    have hblk := (Blk.new w 50 #[.int .i64 0, .int .i64 0, .int .i64 0, .int .i64 0, .int .i64 0, .bool false, .bool false]).grown hg (by simp)
    have k0 : w1.cell? ⟨w.heap.size, 0, none⟩ = some (.int .i64 0) := hblk.cell 0
    have k1 : w1.cell? ⟨w.heap.size, 1, none⟩ = some (.int .i64 0) := hblk.cell 1
    have k2 : w1.cell? ⟨w.heap.size, 2, none⟩ = some (.int .i64 0) := hblk.cell 2
    have k3 : w1.cell? ⟨w.heap.size, 3, none⟩ = some (.int .i64 0) := hblk.cell 3
    have k4 : w1.cell? ⟨w.heap.size, 4, none⟩ = some (.int .i64 0) := hblk.cell 4
    have k5 : w1.cell? ⟨w.heap.size, 5, none⟩ = some (.bool false) := hblk.cell 5
    have k6 : w1.cell? ⟨w.heap.size, 6, none⟩ = some (.bool false) := hblk.cell 6
    have z0 := hblk.frozen 0
    have z1 := hblk.frozen 1
    have z2 := hblk.frozen 2
    have z3 := hblk.frozen 3
    have z4 := hblk.frozen 4
    have z5 := hblk.frozen 5
    have z6 := hblk.frozen 6
    have hwl : w.heap.size < w1.heap.size := hblk.lt
    clear hblk
    have Hg := hide hg
    have hsz := hg.size
    rw [World.size_alloc] at hsz
    clear hg
    go_wp2
    exact bodyPost_ret (v := .tuple #[.agg #[.int .i64 0, .int .i64 0, .int .i64 0, .int .i64 0, .int .i64 0, .bool false, .bool false], .bool false]) (by simp [results, Try.results20, go_sem, k0, k1, k2, k3, k4, k5, k6]) rfl ⟨rfl, (by repeat' (first | (with_reducible refine none_setCell ?_ ?_ _) | (with_reducible refine only_alloc ?_ _) | (with_reducible exact only_trans (only_alloc (only_refl w none) _) Hg.out) | (simp; done) | (simp; omega)))⟩
  | some n =>
    obtain ⟨hn, s, hs, hp⟩ := idx_some hi
    rw [hi] at hat
    have Hat := hide hat
    have Hs := hide hs
    have q0 : decide ((n : Int) < (0 : Int)) = false := by simp
    have hi2 : (0 : Int) ≤ n ∧ (n : Int) < (r.L.length : Int) := by omega
    have hgd : r.L.getD n ⟨0, 0, 0, 0, 0, false, false⟩ = s := by rw [List.getD_eq_getElem?_getD, hs]; rfl
    simp only [hgd]
    clear hat hi h hs hgd hp
    go_enter Try.func20, Try.ntmps20
    go_wp2_with fail
    refine Hat.out.mono ?_
    unfold oi
    rintro e w1 ⟨rfl, hg⟩
    have hT := H.out.gr hg
    obtain ⟨a0, a1, a2⟩ := hT.blk.c3
    obtain ⟨c0, c1, c2, c3, c4, c5, c6⟩ := hT.prs.c rfl hn Hs.out
    have hblk := (Blk.new w 50 #[.int .i64 0, .int .i64 0, .int .i64 0, .int .i64 0, .int .i64 0, .bool false, .bool false]).grown hg (by simp)
    have k0 : w1.cell? ⟨w.heap.size, 0, none⟩ = some (.int .i64 0) := hblk.cell 0
    have k1 : w1.cell? ⟨w.heap.size, 1, none⟩ = some (.int .i64 0) := hblk.cell 1
    have k2 : w1.cell? ⟨w.heap.size, 2, none⟩ = some (.int .i64 0) := hblk.cell 2
    have k3 : w1.cell? ⟨w.heap.size, 3, none⟩ = some (.int .i64 0) := hblk.cell 3
    have k4 : w1.cell? ⟨w.heap.size, 4, none⟩ = some (.int .i64 0) := hblk.cell 4
    have k5 : w1.cell? ⟨w.heap.size, 5, none⟩ = some (.bool false) := hblk.cell 5
    have k6 : w1.cell? ⟨w.heap.size, 6, none⟩ = some (.bool false) := hblk.cell 6
    have z0 := hblk.frozen 0
    have z1 := hblk.frozen 1
    have z2 := hblk.frozen 2
    have z3 := hblk.frozen 3
    have z4 := hblk.frozen 4
    have z5 := hblk.frozen 5
    have z6 := hblk.frozen 6
    have hwl : w.heap.size < w1.heap.size := hblk.lt
    clear hblk
    have Hg := hide hg
    have hsz := hg.size
    rw [World.size_alloc] at hsz
    clear hg hT
    go_wp2
    exact bodyPost_ret (v := .tuple #[.agg #[.int .i64 s.pid, .int .i64 s.par, .int .i64 s.usr, .int .i64 s.ses, .int .i64 s.sta, .bool s.dead, .bool s.res], .bool true]) (by simp [results, Try.results20, go_sem, k0, k1, k2, k3, k4, k5, k6]) rfl ⟨rfl, (by repeat' (first | (with_reducible refine none_setCell ?_ ?_ _) | (with_reducible refine only_alloc ?_ _) | (with_reducible exact only_trans (only_alloc (only_refl w none) _) Hg.out) | (simp; done) | (simp; omega)))⟩


set_option maxHeartbeats 400000 in
theorem rleads_any (b : Nat) (S : Nat → Prop) (r : RS) (pid : Int) (w : World) (h : RIs w b S r) :
    Calls Try.prog 29 #[.pointer (some ⟨b, 0, none⟩), .int .i64 pid] w fun e w' => e = .returned (.int .i64 (leadsRes r.st pid).2) ∧ RTo w w' b S (leadsRes r.st pid).1.rs := by
  obtain ⟨v, u, h, rfl⟩ := h
  obtain ⟨g, off, cap, hv, hcap, hcm, hg⟩ := h.prs.at h.pos
  subst hv
  have hlive := rlive_any b _ u r pid w h
  unfold leadsRes
  have H := hide h
  show Calls _ _ _ _ _
  cases hl : liveN r.L pid with
  | none =>
    rw [show liveN r.st.L pid = none from hl]
    rw [hl] at hlive
    have Hl := hide hlive
    clear hlive hl h
    go_enter Try.func29, Try.ntmps29
    go_wp2_with fail
    refine Hl.out.mono ?_
    unfold oi
    rintro e w1 ⟨rfl, rfl⟩
    go_wp2
    go_ret
    exact ⟨rfl, RTo.gr ⟨_, _, H.out, rfl⟩ (only_refl _ _)⟩
  | some n =>
    rw [show liveN r.st.L pid = some n from hl]
    obtain ⟨hi, hn, s, hs, hp, hd⟩ := liveN_some hl
    have hgd : r.st.L.getD n pr0 = s := getD_of hs
    simp only [hgd]
    rw [hl] at hlive
    obtain ⟨a0, a1, a2⟩ := h.blk.c3
    obtain ⟨c0, c1, c2, c3, c4, c5, c6⟩ := h.prs.c rfl hn hs
    have z3 := h.prs.z rfl (n * 7 + 3)
    rw [← Nat.add_assoc] at z3
    have q0 : decide ((n : Int) < (0 : Int)) = false := by simp
    have hi2 : (0 : Int) ≤ n ∧ (n : Int) < (r.L.length : Int) := by omega
    have Hl := hide hlive
    have Hs := hide hs
    clear hlive hl h hi hs hd hp hgd
    go_enter Try.func29, Try.ntmps29
    go_wp2_with fail
    refine Hl.out.mono ?_
    unfold oi
    rintro e w1 ⟨rfl, rfl⟩
    go_wp2
    go_ret
    exact ⟨rfl, RTo.mk H.out (H.out.setPr rfl hn Hs.out 3 (by omega) _ (putSes s pid) rfl) (rchg_set rfl (Chg.refl _ _) _ _) (fun k hk => .inl hk)⟩

theorem becomes_U {st : PS} {s : Pr} {uid : Int} (hok : (roomRes st uid).2 = 0) (hk : s.res = false → s.usr ∈ st.U) (n : Nat) :
    (setL (leavesRes (roomRes st uid).1 s) n (noRes (putUsr s uid))).rs = ⟨st.L.set n (noRes (putUsr s uid)), st.last, learn st.U uid⟩ := by
  obtain ⟨h1, _, _⟩ := room_ok hok
  rw [h1]
  unfold setL PS.rs leavesRes
  by_cases hr : s.res = true
  · rw [if_pos hr]
  · rw [if_neg hr]
    simp only
    rw [learn_known (learn_mem (hk (by simpa using hr)))]

set_option maxHeartbeats 1000000 in
theorem rbecomes_any (b : Nat) (S : Nat → Prop) (r : RS) (pid uid : Int) (w : World) (h : RIs w b S r) (hU : r.U.length ≤ 1000) (hk : ∀ p ∈ r.L, p.res = false → p.usr ∈ r.U) :
    Calls Try.prog 28 #[.pointer (some ⟨b, 0, none⟩), .int .i64 pid, .int .i64 uid] w fun e w' => e = .returned (.int .i64 (becomesRes r.st pid uid).2) ∧ RTo w w' b S (becomesRes r.st pid uid).1.rs := by
  obtain ⟨v, u, h, rfl⟩ := h
  obtain ⟨g, off, cap, hv, hcap, hcm, hg⟩ := h.prs.at h.pos
  subst hv
  have hlive := rlive_any b _ u r pid w h
  have hroom := rroom_any b _ u r uid w h
  have hlearn := rlearn_any b _ u r uid w h hU
  unfold becomesRes
  have H := hide h
  cases hl : liveN r.L pid with
  | none =>
    rw [show liveN r.st.L pid = none from hl]
    rw [hl] at hlive
    have Hl := hide hlive
    clear hlive hl h hroom hlearn
    go_enter Try.func28, Try.ntmps28
    go_wp2_with fail
    refine Hl.out.mono ?_
    unfold oi
    rintro e w1 ⟨rfl, rfl⟩
    go_wp2
    go_ret
    exact ⟨rfl, RTo.gr ⟨_, _, H.out, rfl⟩ (only_refl _ _)⟩
  | some n =>
    rw [show liveN r.st.L pid = some n from hl]
    obtain ⟨hi, hn, s, hs, hp, hd⟩ := liveN_some hl
    have hgd : r.st.L.getD n pr0 = s := getD_of hs
    simp only [hgd]
    rw [hl] at hlive
    obtain ⟨a0, a1, a2⟩ := h.blk.c3
    obtain ⟨c0, c1, c2, c3, c4, c5, c6⟩ := h.prs.c rfl hn hs
    have q0 : decide ((n : Int) < (0 : Int)) = false := by simp
    have hi2 : (0 : Int) ≤ n ∧ (n : Int) < (r.L.length : Int) := by omega
    have hks := hide (hk s (List.mem_of_getElem? hs))
    have Hl := hide hlive
    have Hs := hide hs
    have Hroom := hide hroom
    have Hlearn := hide hlearn
    clear hlive hl h hi hs hd hp hgd hroom hlearn hk
    by_cases h1 : uid < 0 ∨ 65535 < uid
    · rw [if_pos h1]
      have hq : decide (uid < 0) = true ∨ (decide (uid < 0) = false ∧ decide (65535 < uid) = true) := by
        by_cases h2 : uid < 0
        · exact .inl (by simpa using h2)
        · exact .inr ⟨by simpa using h2, by simp; omega⟩
      clear h1
      rcases hq with q1 | ⟨q1, q2⟩
      all_goals
        go_enter Try.func28, Try.ntmps28
        go_wp2_with fail
        refine Hl.out.mono ?_
        unfold oi
        rintro e w1 ⟨rfl, rfl⟩
        go_wp2
        go_ret
        exact ⟨rfl, RTo.gr ⟨_, _, H.out, rfl⟩ (only_refl _ _)⟩
    · rw [if_neg h1]
      have q1 : decide (uid < 0) = false := by simp; omega
      have q2 : decide (65535 < uid) = false := by simp; omega
      clear h1
      by_cases h2 : s.usr = uid ∧ s.res = false
      · rw [if_pos h2]
        obtain ⟨h3, h4⟩ := h2
        have q3 : (s.usr == uid) = true := by simpa using h3
        rw [h4] at c6
        clear h3 h4
        go_enter Try.func28, Try.ntmps28
        go_wp2_with fail
        refine Hl.out.mono ?_
        unfold oi
        rintro e w1 ⟨rfl, rfl⟩
        go_wp2
        go_ret
        exact ⟨rfl, RTo.gr ⟨_, _, H.out, rfl⟩ (only_refl _ _)⟩
      · rw [if_neg h2]
        have hq : (s.usr == uid) = false ∨ ((s.usr == uid) = true ∧ s.res = true) := by
          by_cases e : s.usr = uid
          · exact .inr ⟨by simpa using e, by simpa using (fun f => h2 ⟨e, f⟩)⟩
          · exact .inl (by simpa using e)
        clear h2
        obtain ⟨R, hR⟩ : ∃ R, (roomRes r.st uid).2 = R := ⟨_, rfl⟩
        by_cases hr0 : R = 0
        · subst hr0
          rw [if_pos hR, becomes_U hR hks.out n]
          rw [hR] at Hroom
          clear hR
          rcases hq with q3 | ⟨q3, q4⟩
          all_goals
            try rw [q4] at c6
            try clear q4
            go_enter Try.func28, Try.ntmps28
            go_wp2_with fail
            refine Hl.out.mono ?_
            unfold oi
            rintro e w1 ⟨rfl, rfl⟩
            go_wp2_with fail
            go_at_call 37
            refine Hroom.out.mono ?_
            rintro e w1 ⟨rfl, rfl⟩
            go_wp2_with fail
            go_at_call 38
            refine Hlearn.out.mono ?_
            rintro e w1 ⟨rfl, u', hT, hC, hN⟩
            obtain ⟨x0, x1, x2⟩ := hT.blk.c3
            obtain ⟨d0, d1, d2, d3, d4, d5, d6⟩ := hT.prs.c rfl hn Hs.out
            have z2 := hT.prs.z rfl (n * 7 + 2)
            have z6 := hT.prs.z rfl (n * 7 + 6)
            rw [← Nat.add_assoc] at z2 z6
            have hbg : b ≠ g := fun e => (hT.v_ne (k := g) rfl).1 e.symm
            have hfin := (hT.setPr rfl hn Hs.out 2 (by omega) (.int .i64 uid) (putUsr s uid) rfl).setPr (g := g) (off := off) (cap := cap) (by simp) (n := n) (by simpa using hn) (s := putUsr s uid) (by simp [hn]) 6 (by omega) (.bool false) (noRes (putUsr s uid)) rfl
            simp only [List.set_set] at hfin
            have hcf : Chg (rOwn b (.slice (some ⟨g, off, none⟩) r.L.length cap) u) w _ := rchg_set (v := .slice (some ⟨g, off, none⟩) r.L.length cap) rfl (rchg_set (v := .slice (some ⟨g, off, none⟩) r.L.length cap) rfl (hC.mono (fun k _ hk => hk.elim .inl (fun e => .inr (.inr e))) : Chg (rOwn b (.slice (some ⟨g, off, none⟩) r.L.length cap) u) w w1) (off + n * 7 + 2) (.int .i64 uid)) (off + n * 7 + 6) (.bool false)
            have Hfin := hide hfin
            have Hcf := hide hcf
            have HN := hide hN
            have Hbg := hide hbg
            clear hT hC hN hfin hcf c0 c1 c2 c3 c4 c5 c6 a0 a1 a2
            go_wp2
            go_ret
            refine ⟨rfl, RTo.mk H.out Hfin.out Hcf.out ?_⟩
            rintro k (h | h | h)
            · exact .inl (.inl h)
            · exact .inl (.inr (.inl h))
            · exact (HN.out k h).elim (fun e => .inl (.inr (.inr e))) .inr
        · rw [if_neg (by rw [hR]; exact hr0)]
          rw [hR] at Hroom ⊢
          have q5 : (R == 0) = false := by simpa using hr0
          have q6 : (R != 0) = true := by simpa using hr0
          clear hR hr0
          rcases hq with q3 | ⟨q3, q4⟩
          all_goals
            try rw [q4] at c6
            try clear q4
            go_enter Try.func28, Try.ntmps28
            go_wp2_with fail
            refine Hl.out.mono ?_
            unfold oi
            rintro e w1 ⟨rfl, rfl⟩
            go_wp2_with fail
            go_at_call 37
            refine Hroom.out.mono ?_
            rintro e w1 ⟨rfl, rfl⟩
            go_wp2
            go_ret
            exact ⟨rfl, RTo.gr ⟨_, _, H.out, rfl⟩ (only_refl _ _)⟩

end Go.Proofs.Ytljlbdbgocohlaa
