/- The document's table: the walks of Exit and New. -/
import Derived.Test.YtljlbdbgocohlaaO
namespace Go.Proofs.Ytljlbdbgocohlaa
open Go.RowKit Go.Maps

def RS.withL (r : RS) (L : List Pr) : RS := { r with L := L }

set_option maxHeartbeats 1000000 in
theorem rexit_any (b : Nat) (S : Nat → Prop) (r : RS) (pid x : Int) (w : World) (h : RIs w b S r) :
    Calls Try.prog 30 #[.pointer (some ⟨b, 0, none⟩), .int .i64 pid, .int .i64 x] w fun e w' => e = .returned (.int .i64 (exitRes r.st pid x).2) ∧ RTo w w' b S (exitRes r.st pid x).1.rs := by
  obtain ⟨v, u, h, rfl⟩ := h
  obtain ⟨g, off, cap, hv, hcap, hcm, hg⟩ := h.prs.at h.pos
  subst hv
  have hlive := rlive_any b _ u r pid w h
  unfold exitRes
  have H := hide h
  cases hl : liveN r.L pid with
  | none =>
    rw [show liveN r.st.L pid = none from hl]
    rw [hl] at hlive
    have Hl := hide hlive
    clear hlive hl h
    go_enter Try.func30, Try.ntmps30
    go_wp2_with fail
    refine Hl.out.mono ?_
    unfold oi
    rintro e w1 ⟨rfl, rfl⟩
    go_wp2
    go_ret
    exact ⟨rfl, RTo.gr ⟨_, _, H.out, rfl⟩ (only_refl _ _)⟩
  | some n =>
    rw [show liveN r.st.L pid = some n from hl]
    obtain ⟨hi, hn, s, hs, hp, hd⟩ := liveN_some hl
    have hgd : r.st.L.getD n pr0 = s := getD_of hs
    simp only [hgd]
    rw [hl] at hlive
    obtain ⟨a0, a1, a2⟩ := h.blk.c3
    obtain ⟨c0, c1, c2, c3, c4, c5, c6⟩ := h.prs.c rfl hn hs
    have z4 := h.prs.z rfl (n * 7 + 4)
    have z5 := h.prs.z rfl (n * 7 + 5)
    rw [← Nat.add_assoc] at z4 z5
    have q0 : decide ((n : Int) < (0 : Int)) = false := by simp
    have hi2 : (0 : Int) ≤ n ∧ (n : Int) < (r.L.length : Int) := by omega
    have hbg : b ≠ g := fun e => (h.v_ne (k := g) rfl).1 e.symm
    have Hl := hide hlive
    have Hs := hide hs
    have Hlen := hide h.len
    clear hlive hl hi hs hd hp hgd
    by_cases h1 : pid = 1
    · rw [if_pos h1]
      have q1 : (pid == 1) = true := by simpa using h1
      clear h1 h
      go_enter Try.func30, Try.ntmps30
      go_wp2_with fail
      refine Hl.out.mono ?_
      unfold oi
      rintro e w1 ⟨rfl, rfl⟩
      go_wp2
      go_ret
      exact ⟨rfl, RTo.gr ⟨_, _, H.out, rfl⟩ (only_refl _ _)⟩
    · rw [if_neg h1]
      obtain ⟨L1, hL1⟩ : ∃ L1, r.L.set n (die s x) = L1 := ⟨_, rfl⟩
      have hl1 : L1.length = r.L.length := by rw [← hL1, List.length_set]
      have q1 : (pid == 1) = false := by simpa using h1
      have hfin := (h.setPr rfl hn Hs.out 5 (by omega) (.bool true) { s with dead := true } rfl).setPr (g := g) (off := off) (cap := cap) (by simp) (n := n) (by simpa using hn) (s := { s with dead := true }) (by simp [hn]) 4 (by omega) (.int .i64 x) (die s x) rfl
      simp only [List.set_set] at hfin
      have hch : Chg (rOwn b (.slice (some ⟨g, off, none⟩) r.L.length cap) u) w _ := rchg_set (v := .slice (some ⟨g, off, none⟩) r.L.length cap) rfl (rchg_set (v := .slice (some ⟨g, off, none⟩) r.L.length cap) rfl (Chg.refl (rOwn b (.slice (some ⟨g, off, none⟩) r.L.length cap) u) w) (off + n * 7 + 5) (.bool true)) (off + n * 7 + 4) (.int .i64 x)
      have e1 : ({ r with L := r.L.set n (die s x) } : RS) = r.withL (preO pid L1 0) := by unfold RS.withL; rw [hL1, preO_zero]
      rw [e1] at hfin
      rw [show ({ L := (r.st.L.set n (die s x)).map (orphan pid), last := r.st.last, U := r.st.U, f := r.st.f, spare := r.st.spare } : PS).rs = r.withL (L1.map (orphan pid)) from by unfold RS.withL PS.rs; rw [← hL1]; rfl]
      have Hl1 := hide hl1
      have Hfin := hide hfin
      have Hch := hide hch
      have Hbg := hide hbg
      clear h1 hl1 hL1 h hfin hch e1
      go_enter Try.func30, Try.ntmps30
      go_wp2_with fail
      refine Hl.out.mono ?_
      unfold oi
      rintro e w1 ⟨rfl, rfl⟩
      go_wp2_with fail
      go_loopw [8] (fun u1 wr => ∃ k : Nat, u1 = .int .i64 k ∧ k ≤ L1.length ∧ RAt wr b (.slice (some ⟨g, off, none⟩) r.L.length cap) u (r.withL (preO pid L1 k)) ∧ Chg (rOwn b (.slice (some ⟨g, off, none⟩) r.L.length cap) u) w wr) (fun u _ => L1.length - (intOf u).toNat)
      case atStart => exact ⟨0, rfl, by omega, Hfin.out, Hch.out⟩
      case round =>
        obtain ⟨k, rfl, hk, hT, hC⟩ := hrel
        have hl1 := Hl1.out
        have hlen := Hlen.out
        obtain ⟨a0, a1, a2⟩ := hT.blk.c3
        by_cases hlt : k < L1.length
        · obtain ⟨s1, hs1⟩ : ∃ s, L1[k]? = some s := ⟨_, List.getElem?_eq_getElem hlt⟩
          have hle : (r.withL (preO pid L1 k)).L.length = r.L.length := by unfold RS.withL; rw [preO_length, hl1]
          have hv : (.slice (some ⟨g, off, none⟩) r.L.length cap : Value) = .slice (some ⟨g, off, none⟩) (r.withL (preO pid L1 k)).L.length cap := by rw [hle]
          have hkl : k < (r.withL (preO pid L1 k)).L.length := by omega
          have hsk : (r.withL (preO pid L1 k)).L[k]? = some s1 := preO_get hlt hs1
          obtain ⟨c0, c1, c2, c3, c4, c5, c6⟩ := hT.prs.c hv hkl hsk
          have z1 := hT.prs.z hv (k * 7 + 1)
          rw [← Nat.add_assoc] at z1
          have q0 : decide ((k : Int) < (r.L.length : Int)) = true := by simp; omega
          have hi : (0 : Int) ≤ k ∧ (k : Int) < (r.L.length : Int) := by omega
          by_cases hp : s1.par = pid
          · have hT2 := hT.setPr hv hkl hsk 1 (by omega) (.int .i64 1) (orphan pid s1) (by unfold orphan; rw [if_pos hp]; rfl)
            have e2 : ({ (r.withL (preO pid L1 k)) with L := (r.withL (preO pid L1 k)).L.set k (orphan pid s1) } : RS) = r.withL (preO pid L1 (k + 1)) := by unfold RS.withL; simp only; rw [preO_step hlt hs1]
            rw [e2] at hT2
            have hC2 := rchg_set (b := b) (u := u) (v := .slice (some ⟨g, off, none⟩) r.L.length cap) rfl hC (off + k * 7 + 1) (.int .i64 1)
            have q2 : (s1.par == pid) = true := by simpa using hp
            have HT2 := hide hT2
            have HC2 := hide hC2
            clear hT hC hT2 hC2 hp e2 hsk hv hle hs1
            go_wp2
            go_roundw
            case rel => exact ⟨k + 1, by go_num, by omega, HT2.out, HC2.out⟩
            case measure => simp [intOf]; omega
          · have e2 := preO_same hlt hs1 hp
            rw [← e2] at hT
            have q2 : (s1.par == pid) = false := by simpa using hp
            have HT2 := hide hT
            have HC2 := hide hC
            clear hT hC hp e2 hsk hv hle hs1
            go_wp2
            go_roundw
            case rel => exact ⟨k + 1, by go_num, by omega, HT2.out, HC2.out⟩
            case measure => simp [intOf]; omega
        · have e2 : preO pid L1 k = L1.map (orphan pid) := by rw [show k = L1.length by omega]; exact preO_all
          rw [e2] at hT
          have q0 : decide ((k : Int) < (r.L.length : Int)) = false := by simp; omega
          have HT2 := hide hT
          have HC2 := hide hC
          clear hT hC e2
          go_wp2
          go_ret
          exact ⟨rfl, RTo.mk H.out HT2.out HC2.out (fun k hk => .inl hk)⟩

/-- The document's table, new. -/
structure RFresh (w w' : World) (b : Nat) (r : RS) (S : Nat → Prop) : Prop where
  tab : RIs w' b S r
  new : ∀ k, S k → w.heap.size ≤ k
  gr : w.grownBy w' none

set_option maxHeartbeats 1000000 in
theorem rnew_any (w : World) :
    Calls Try.prog 16 #[] w fun e w' => ∃ b S, e = .returned (.pointer (some ⟨b, 0, none⟩)) ∧ RFresh w w' b newPS.rs S := by
  have ho : Own (w.alloc (.cells pr1.cells.toArray 50)) 50 7 (.slice (some ⟨w.heap.size, 0, none⟩) 1 1) 1 (pcs [pr1]) 0 := by
    have := Own.made w pr1.cells.toArray 50 7 1 0 rfl (by unfold maxLen; omega)
    rw [show pr1.cells.toArray.toList = pcs [pr1] from by simp [pcs]] at this
    exact this
  have Ho := hide ho
  clear ho
  go_enter Try.func16, Try.ntmps16
  go_wp2
  go_ret
  refine ⟨w.heap.size + 1, rOwn (w.heap.size + 1) (.slice (some ⟨w.heap.size, 0, none⟩) 1 1) (.slice none 0 0), rfl, ⟨⟨_, _, ?_, rfl⟩, ?_, only_alloc (only_alloc (only_refl _ _) _) _⟩⟩
  · have hb := Blk.new (w.alloc (.cells pr1.cells.toArray 50)) 55 #[.slice (some ⟨w.heap.size, 0, none⟩) 1 1, .int .i64 1, .slice none 0 0]
    rw [show (w.alloc (.cells pr1.cells.toArray 50)).heap.size = w.heap.size + 1 from World.size_alloc _ _] at hb
    exact ⟨hb, Own.alloc Ho.out _, Own.nil _ _ _ _, by simp [newPS, PS.rs], by simp [newPS, PS.rs], by simp [newPS, PS.rs]⟩
  · rintro k (h | h | h)
    · omega
    · simp [Value.ownBlock] at h; omega
    · simp [Value.ownBlock] at h

end Go.Proofs.Ytljlbdbgocohlaa
