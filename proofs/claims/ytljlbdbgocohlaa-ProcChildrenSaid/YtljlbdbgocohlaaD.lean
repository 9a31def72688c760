/- The walks of live, room, leaves, Count, Get, Known, New. -/
import Derived.Test.YtljlbdbgocohlaaC
import Derived.Test.YtljlbdbgocohlaaPerm
namespace Go.Proofs.Ytljlbdbgocohlaa
open Go.RowKit Go.Maps

theorem live_none {L : List Pr} {pid : Int} (h : liveN L pid = none) : idx L pid = none ∨ ∃ n s, idx L pid = some n ∧ n < L.length ∧ L[n]? = some s ∧ s.dead = true := by
  unfold liveN at h
  split at h
  · rename_i n hi
    obtain ⟨h1, s, h2, h3⟩ := idx_some hi
    split at h
    · rename_i hd
      rw [List.getD_eq_getElem?_getD, h2] at hd
      exact .inr ⟨n, s, hi, h1, h2, hd⟩
    · cases h
  · exact .inl (by assumption)

set_option maxHeartbeats 400000 in
theorem live_any (b g off cap mb : Nat) (st : PS) (pid : Int) (w : World) (h : TabAt w b (.slice (some ⟨g, off, none⟩) st.L.length cap) mb st) :
    Calls Try.prog 22 #[.pointer (some ⟨b, 0, none⟩), .int .i64 pid] w fun e w' => e = .returned (.pointer ((liveN st.L pid).map fun n => ⟨g, off + n * 7, none⟩)) ∧ w.grownBy w' none := by
  have hat := at_any b _ mb st pid w h
  have H := hide h
  cases hl : liveN st.L pid with
  | none =>
    rcases live_none hl with hi | ⟨n, s, hi, hn, hs, hd⟩
    · rw [hi] at hat
      have Hat := hide hat
      clear hat hl hi h
      go_enter Try.func22, Try.ntmps22
      go_wp2_with fail
      refine Hat.out.mono ?_
      unfold oi
      rintro e w1 ⟨rfl, hg⟩
      have Hg := hide hg
      clear hg
      go_wp2
      go_ret
      exact ⟨rfl, Hg.out⟩
    · rw [hi] at hat
      have Hat := hide hat
      have Hs := hide hs
      have Hd := hide hd
      have q0 : decide ((0 : Int) ≤ (n : Int)) = true := by simp
      have hi2 : (0 : Int) ≤ n ∧ (n : Int) < (st.L.length : Int) := by omega
      clear hat hl hi h hs hd
      go_enter Try.func22, Try.ntmps22
      go_wp2_with fail
      refine Hat.out.mono ?_
      unfold oi
      rintro e w1 ⟨rfl, hg⟩
      have hT := H.out.gr hg
      obtain ⟨a0, a1, a2, a3⟩ := hT.blk.c4
      obtain ⟨c0, c1, c2, c3, c4, c5, c6⟩ := hT.prs.c rfl hn Hs.out
      rw [Hd.out] at c5
      have Hg := hide hg
      clear hg hT
      go_wp2
      go_ret
      exact ⟨rfl, Hg.out⟩
  | some n =>
    obtain ⟨hi, hn, s, hs, hp, hd⟩ := liveN_some hl
    rw [hi] at hat
    have Hat := hide hat
    have Hs := hide hs
    have Hd := hide hd
    have q0 : decide ((0 : Int) ≤ (n : Int)) = true := by simp
    have hi2 : (0 : Int) ≤ n ∧ (n : Int) < (st.L.length : Int) := by omega
    clear hat hl hi h hs hd hp
    go_enter Try.func22, Try.ntmps22
    go_wp2_with fail
    refine Hat.out.mono ?_
    unfold oi
    rintro e w1 ⟨rfl, hg⟩
    have hT := H.out.gr hg
    obtain ⟨a0, a1, a2, a3⟩ := hT.blk.c4
    obtain ⟨c0, c1, c2, c3, c4, c5, c6⟩ := hT.prs.c rfl hn Hs.out
    rw [Hd.out] at c5
    have Hg := hide hg
    clear hg hT
    go_wp2
    go_ret
    exact ⟨by simp, Hg.out⟩

set_option maxHeartbeats 400000 in
theorem count_any (b : Nat) (v : Value) (mb : Nat) (st : PS) (u : Int) (hu : wfi u) (w : World) (h : TabAt w b v mb st) :
    Calls Try.prog 13 #[.pointer (some ⟨b, 0, none⟩), .int .i64 u] w fun e w' => e = .returned (.int .i64 (st.f u)) ∧ w = w' := by
  obtain ⟨a0, a1, a2, a3⟩ := h.blk.c4
  have hl := h.ct.look hu 56 Try.underlying56
  clear h
  go_enter Try.func13, Try.ntmps13
  go_wp2
  go_ret
  exact ⟨rfl, rfl⟩

set_option maxHeartbeats 400000 in
theorem known_any (b : Nat) (v : Value) (mb : Nat) (st : PS) (w : World) (h : TabAt w b v mb st) :
    Calls Try.prog 19 #[.pointer (some ⟨b, 0, none⟩)] w fun e w' => e = .returned (.int .i64 st.U.length) ∧ w = w' := by
  obtain ⟨a0, a1, a2, a3⟩ := h.blk.c4
  have hl := h.ct.len 56 3 Try.underlying56
  clear h
  go_enter Try.func19, Try.ntmps19
  go_wp2
  go_ret
  exact ⟨rfl, rfl⟩

set_option maxHeartbeats 400000 in
theorem get_any (b : Nat) (v : Value) (mb : Nat) (st : PS) (pid : Int) (w : World) (h : TabAt w b v mb st) :
    Calls Try.prog 14 #[.pointer (some ⟨b, 0, none⟩), .int .i64 pid] w fun e w' => e = .returned (.tuple #[(match idx st.L pid with | some n => (st.L.getD n pr0).agg | none => pr0.agg), .bool (idx st.L pid).isSome]) ∧ w.grownBy w' none := by
  obtain ⟨g, off, cap, hv, hcap, hcm, hg⟩ := h.prs.at h.pos
  have H := hide (h.gr (only_alloc (only_refl w none) (.cells #[.int .i64 0, .int .i64 0, .int .i64 0, .int .i64 0, .int .i64 0, .bool false, .bool false] 34)))
  have hat := at_any b _ mb st pid _ H.out
  subst hv
  unfold pr0 Pr.agg
  cases hi : idx st.L pid with
  | none =>
    rw [hi] at hat
    have Hat := hide hat
    clear hat hi h
    go_enter Try.func14, Try.ntmps14
    go_wp2_with fail
    refine Hat.out.mono ?_
    unfold oi
    rintro e w1 ⟨rfl, hg⟩
    have hblk := (Blk.new w 34 #[.int .i64 0, .int .i64 0, .int .i64 0, .int .i64 0, .int .i64 0, .bool false, .bool false]).grown hg (by simp)
    have k0 : w1.cell? ⟨w.heap.size, 0, none⟩ = some (.int .i64 0) := hblk.cell 0
    have k1 : w1.cell? ⟨w.heap.size, 1, none⟩ = some (.int .i64 0) := hblk.cell 1
    have k2 : w1.cell? ⟨w.heap.size, 2, none⟩ = some (.int .i64 0) := hblk.cell 2
    have k3 : w1.cell? ⟨w.heap.size, 3, none⟩ = some (.int .i64 0) := hblk.cell 3
    have k4 : w1.cell? ⟨w.heap.size, 4, none⟩ = some (.int .i64 0) := hblk.cell 4
    have k5 : w1.cell? ⟨w.heap.size, 5, none⟩ = some (.bool false) := hblk.cell 5
    have k6 : w1.cell? ⟨w.heap.size, 6, none⟩ = some (.bool false) := hblk.cell 6
    have z0 := hblk.frozen 0
    have z1 := hblk.frozen 1
    have z2 := hblk.frozen 2
    have z3 := hblk.frozen 3
    have z4 := hblk.frozen 4
    have z5 := hblk.frozen 5
    have z6 := hblk.frozen 6
    have hwl : w.heap.size < w1.heap.size := hblk.lt
    clear hblk
    have Hg := hide hg
    have hsz := hg.size
    rw [World.size_alloc] at hsz
    clear hg
    go_wp2
    exact bodyPost_ret (v := .tuple #[.agg #[.int .i64 0, .int .i64 0, .int .i64 0, .int .i64 0, .int .i64 0, .bool false, .bool false], .bool false]) (by simp [results, Try.results14, go_sem, k0, k1, k2, k3, k4, k5, k6]) rfl ⟨rfl, (by repeat' (first | (with_reducible refine none_setCell ?_ ?_ _) | (with_reducible refine only_alloc ?_ _) | (with_reducible exact only_trans (only_alloc (only_refl w none) _) Hg.out) | (simp; done) | (simp; omega)))⟩
  | some n =>
    obtain ⟨hn, s, hs, hp⟩ := idx_some hi
    rw [hi] at hat
    have Hat := hide hat
    have Hs := hide hs
    have q0 : decide ((0 : Int) ≤ (n : Int)) = true := by simp
    have hi2 : (0 : Int) ≤ n ∧ (n : Int) < (st.L.length : Int) := by omega
    have hgd : st.L.getD n ⟨0, 0, 0, 0, 0, false, false⟩ = s := by rw [List.getD_eq_getElem?_getD, hs]; rfl
    simp only [hgd]
    clear hat hi h hs hgd hp
    go_enter Try.func14, Try.ntmps14
    go_wp2_with fail
    refine Hat.out.mono ?_
    unfold oi
    rintro e w1 ⟨rfl, hg⟩
    have hT := H.out.gr hg
    obtain ⟨a0, a1, a2, a3⟩ := hT.blk.c4
    obtain ⟨c0, c1, c2, c3, c4, c5, c6⟩ := hT.prs.c rfl hn Hs.out
    have hblk := (Blk.new w 34 #[.int .i64 0, .int .i64 0, .int .i64 0, .int .i64 0, .int .i64 0, .bool false, .bool false]).grown hg (by simp)
    have k0 : w1.cell? ⟨w.heap.size, 0, none⟩ = some (.int .i64 0) := hblk.cell 0
    have k1 : w1.cell? ⟨w.heap.size, 1, none⟩ = some (.int .i64 0) := hblk.cell 1
    have k2 : w1.cell? ⟨w.heap.size, 2, none⟩ = some (.int .i64 0) := hblk.cell 2
    have k3 : w1.cell? ⟨w.heap.size, 3, none⟩ = some (.int .i64 0) := hblk.cell 3
    have k4 : w1.cell? ⟨w.heap.size, 4, none⟩ = some (.int .i64 0) := hblk.cell 4
    have k5 : w1.cell? ⟨w.heap.size, 5, none⟩ = some (.bool false) := hblk.cell 5
    have k6 : w1.cell? ⟨w.heap.size, 6, none⟩ = some (.bool false) := hblk.cell 6
    have z0 := hblk.frozen 0
    have z1 := hblk.frozen 1
    have z2 := hblk.frozen 2
    have z3 := hblk.frozen 3
    have z4 := hblk.frozen 4
    have z5 := hblk.frozen 5
    have z6 := hblk.frozen 6
    have hwl : w.heap.size < w1.heap.size := hblk.lt
    clear hblk
    have Hg := hide hg
    have hsz := hg.size
    rw [World.size_alloc] at hsz
    clear hg hT
    go_wp2
    exact bodyPost_ret (v := .tuple #[.agg #[.int .i64 s.pid, .int .i64 s.par, .int .i64 s.usr, .int .i64 s.ses, .int .i64 s.sta, .bool s.dead, .bool s.res], .bool true]) (by simp [results, Try.results14, go_sem, k0, k1, k2, k3, k4, k5, k6]) rfl ⟨rfl, (by repeat' (first | (with_reducible refine none_setCell ?_ ?_ _) | (with_reducible refine only_alloc ?_ _) | (with_reducible exact only_trans (only_alloc (only_refl w none) _) Hg.out) | (simp; done) | (simp; omega)))⟩

end Go.Proofs.Ytljlbdbgocohlaa
