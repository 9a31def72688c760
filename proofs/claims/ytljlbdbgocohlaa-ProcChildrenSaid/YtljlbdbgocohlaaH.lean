/- The walk of Exit. -/
import Derived.Test.YtljlbdbgocohlaaG
namespace Go.Proofs.Ytljlbdbgocohlaa
open Go.RowKit Go.Maps

def preO (pid : Int) (L : List Pr) (k : Nat) : List Pr := (L.take k).map (orphan pid) ++ L.drop k
section
variable {pid : Int} {L : List Pr} {k : Nat}
theorem preO_zero : preO pid L 0 = L := by simp [preO]
theorem preO_all : preO pid L L.length = L.map (orphan pid) := by simp [preO]
theorem preO_length : (preO pid L k).length = L.length := by simp [preO]; omega
theorem preO_get (hk : k < L.length) {s : Pr} (hs : L[k]? = some s) : (preO pid L k)[k]? = some s := by
  unfold preO
  rw [List.getElem?_append_right (by simp; omega), List.length_map, List.length_take, Nat.min_eq_left (by omega), Nat.sub_self, List.getElem?_drop, Nat.add_zero, hs]
theorem preO_step (hk : k < L.length) {s : Pr} (hs : L[k]? = some s) : preO pid L (k + 1) = (preO pid L k).set k (orphan pid s) := by
  unfold preO
  have h1 : ((L.take k).map (orphan pid)).length = k := by rw [List.length_map, List.length_take, Nat.min_eq_left (by omega)]
  have h2 : L[k] = s := by rw [List.getElem?_eq_getElem hk] at hs; injection hs
  rw [List.set_append_right _ _ (by omega), h1, Nat.sub_self, List.drop_eq_getElem_cons hk, List.set_cons_zero, List.take_succ_eq_append_getElem hk, List.map_append, h2]
  simp
theorem preO_same (hk : k < L.length) {s : Pr} (hs : L[k]? = some s) (hp : s.par ≠ pid) : preO pid L (k + 1) = preO pid L k := by
  rw [preO_step hk hs]
  have : orphan pid s = s := by unfold orphan; rw [if_neg hp]
  rw [this]
  apply List.ext_getElem?
  intro i
  by_cases hi : i = k
  · subst hi
    rw [List.getElem?_set_self (by rw [preO_length]; exact hk), preO_get hk hs]
  · rw [List.getElem?_set_ne (by omega)]
end
def withL (st : PS) (L : List Pr) : PS := { st with L := L }

set_option maxHeartbeats 1000000 in
theorem exit_any (b : Nat) (S : Nat → Prop) (st : PS) (pid x : Int) (w : World) (h : TabIs w b S st) :
    Calls Try.prog 12 #[.pointer (some ⟨b, 0, none⟩), .int .i64 pid, .int .i64 x] w fun e w' => e = .returned (.int .i64 (exitRes st pid x).2) ∧ TabTo w w' b S (exitRes st pid x).1 := by
  obtain ⟨v, mb, h, rfl⟩ := h
  obtain ⟨g, off, cap, hv, hcap, hcm, hg⟩ := h.prs.at h.pos
  subst hv
  have hlive := live_any b g off cap mb st pid w h
  unfold exitRes
  have H := hide h
  cases hl : liveN st.L pid with
  | none =>
    rw [hl] at hlive
    have Hl := hide hlive
    clear hlive hl h
    go_enter Try.func12, Try.ntmps12
    go_wp2_with fail
    refine Hl.out.mono ?_
    simp only [Option.map]
    rintro e w1 ⟨rfl, hg⟩
    have Hg := hide hg
    clear hg
    go_wp2
    go_ret
    exact ⟨rfl, TabTo.gr ⟨_, _, H.out, rfl⟩ Hg.out⟩
  | some n =>
    obtain ⟨hi, hn, s, hs, hp, hd⟩ := liveN_some hl
    have hgd : st.L.getD n pr0 = s := by rw [List.getD_eq_getElem?_getD, hs]; rfl
    simp only [hgd]
    rw [hl] at hlive
    have Hl := hide hlive
    have Hs := hide hs
    have Hn := hide hn
    have Hlen := hide h.len
    clear hlive hl h hi hs hd hp hgd
    by_cases h1 : pid = 1
    · rw [if_pos h1]
      have q1 : (pid == 1) = true := by simpa using h1
      clear h1
      go_enter Try.func12, Try.ntmps12
      go_wp2_with fail
      refine Hl.out.mono ?_
      simp only [Option.map]
      rintro e w1 ⟨rfl, hg⟩
      have Hg := hide hg
      clear hg
      go_wp2
      go_ret
      exact ⟨rfl, TabTo.gr ⟨_, _, H.out, rfl⟩ Hg.out⟩
    · rw [if_neg h1]
      obtain ⟨L1, hL1⟩ : ∃ L1, st.L.set n (die s x) = L1 := ⟨_, rfl⟩
      have hl1 : L1.length = st.L.length := by rw [← hL1, List.length_set]
      rw [hL1]
      have q1 : (pid == 1) = false := by simpa using h1
      have Hl1 := hide hl1
      have HL1 := hide hL1
      clear h1 hl1 hL1
      go_enter Try.func12, Try.ntmps12
      go_wp2_with fail
      refine Hl.out.mono ?_
      simp only [Option.map]
      rintro e w1 ⟨rfl, hg⟩
      have hT := H.out.gr hg
      obtain ⟨a0, a1, a2, a3⟩ := hT.blk.c4
      obtain ⟨c0, c1, c2, c3, c4, c5, c6⟩ := hT.prs.c rfl hn Hs.out
      have z4 := hT.prs.z rfl (n * 7 + 4)
      have z5 := hT.prs.z rfl (n * 7 + 5)
      rw [← Nat.add_assoc] at z4 z5
      have hbg : b ≠ g := fun e => (hT.v_ne (k := g) rfl).1 e.symm
      have hfin := (hT.setPr rfl hn Hs.out 5 (by omega) (.bool true) { s with dead := true } rfl).setPr (g := g) (off := off) (cap := cap) (by simp [setL]) (n := n) (by simpa [setL] using hn) (s := { s with dead := true }) (by simp [setL, hn]) 4 (by omega) (.int .i64 x) (die s x) rfl
      rw [setL_setL] at hfin
      have hch : Chg (tOwn b (.slice (some ⟨g, off, none⟩) st.L.length cap) mb) w _ := chg_set (b := b) (mb := mb) (g := g) (off := off) (cap := cap) (st := st) rfl (chg_set (b := b) (mb := mb) (g := g) (off := off) (cap := cap) (st := st) rfl (Chg.of_grown hg (fun _ h => by cases h) : Chg (tOwn b (.slice (some ⟨g, off, none⟩) st.L.length cap) mb) w w1) (off + n * 7 + 5) (.bool true)) (off + n * 7 + 4) (.int .i64 x)
      have hl1 := Hl1.out
      have hL1 := HL1.out
      have e1 : setL st n (die s x) = withL st (preO pid L1 0) := by unfold setL withL; rw [hL1, preO_zero]
      rw [e1] at hfin
      have Hfin := hide hfin
      have Hch := hide hch
      have Hbg := hide hbg
      clear hg hT hfin hch hL1 hl1 e1
      go_wp2_with fail
      go_loopw [30] (fun u wr => ∃ k : Nat, u = .int .i64 k ∧ k ≤ L1.length ∧ TabAt wr b (.slice (some ⟨g, off, none⟩) st.L.length cap) mb (withL st (preO pid L1 k)) ∧ Chg (tOwn b (.slice (some ⟨g, off, none⟩) st.L.length cap) mb) w wr) (fun u _ => L1.length - (intOf u).toNat)
      case atStart => exact ⟨0, rfl, by omega, Hfin.out, Hch.out⟩
      case round =>
        obtain ⟨k, rfl, hk, hT, hC⟩ := hrel
        have hl1 := Hl1.out
        have hlen := Hlen.out
        by_cases hlt : k < L1.length
        · obtain ⟨s1, hs1⟩ : ∃ s, L1[k]? = some s := ⟨_, List.getElem?_eq_getElem hlt⟩
          have hle : (withL st (preO pid L1 k)).L.length = st.L.length := by unfold withL; rw [preO_length, hl1]
          have hv : (.slice (some ⟨g, off, none⟩) st.L.length cap : Value) = .slice (some ⟨g, off, none⟩) (withL st (preO pid L1 k)).L.length cap := by rw [hle]
          have hkl : k < (withL st (preO pid L1 k)).L.length := by omega
          have hsk : (withL st (preO pid L1 k)).L[k]? = some s1 := preO_get hlt hs1
          obtain ⟨a0, a1, a2, a3⟩ := hT.blk.c4
          obtain ⟨c0, c1, c2, c3, c4, c5, c6⟩ := hT.prs.c hv hkl hsk
          have z1 := hT.prs.z hv (k * 7 + 1)
          rw [← Nat.add_assoc] at z1
          have q0 : decide ((k : Int) < (st.L.length : Int)) = true := by simp; omega
          have hi : (0 : Int) ≤ k ∧ (k : Int) < (st.L.length : Int) := by omega
          by_cases hp : s1.par = pid
          · have hT2 := hT.setPr hv hkl hsk 1 (by omega) (.int .i64 1) (orphan pid s1) (by unfold orphan; rw [if_pos hp]; rfl)
            have e2 : setL (withL st (preO pid L1 k)) k (orphan pid s1) = withL st (preO pid L1 (k + 1)) := by unfold setL withL; simp only; rw [preO_step hlt hs1]
            rw [e2] at hT2
            have hC2 := chg_set (b := b) (mb := mb) (g := g) (off := off) (cap := cap) (st := st) rfl hC (off + k * 7 + 1) (.int .i64 1)
            have q2 : (s1.par == pid) = true := by simpa using hp
            have HT2 := hide hT2
            have HC2 := hide hC2
            clear hT hC hT2 hC2 hp e2 hsk hv hle hs1
            go_wp2
            go_roundw
            case rel => exact ⟨k + 1, by go_num, by omega, HT2.out, HC2.out⟩
            case measure => simp [intOf]; omega
          · have e2 := preO_same hlt hs1 hp
            rw [← e2] at hT
            have q2 : (s1.par == pid) = false := by simpa using hp
            have HT2 := hide hT
            have HC2 := hide hC
            clear hT hC hp e2 hsk hv hle hs1
            go_wp2
            go_roundw
            case rel => exact ⟨k + 1, by go_num, by omega, HT2.out, HC2.out⟩
            case measure => simp [intOf]; omega
        · have e2 : preO pid L1 k = L1.map (orphan pid) := by rw [show k = L1.length by omega]; exact preO_all
          rw [e2] at hT
          have q0 : decide ((k : Int) < (st.L.length : Int)) = false := by simp; omega
          have HT2 := hide hT
          have HC2 := hide hC
          clear hT hC e2
          go_wp2
          go_ret
          exact ⟨rfl, TabTo.mk H.out HT2.out HC2.out (fun k hk => .inl hk)⟩

end Go.Proofs.Ytljlbdbgocohlaa
