/- The walks of Leads, Becomes. -/
import Derived.Test.YtljlbdbgocohlaaE
namespace Go.Proofs.Ytljlbdbgocohlaa
open Go.RowKit Go.Maps

structure Lite (st : PS) : Prop where
  usr : ∀ p ∈ st.L, wfi p.usr
  ul : st.U.length ≤ 500
  f : ∀ u, 0 ≤ st.f u ∧ st.f u ≤ 500
  sp : 0 ≤ st.spare ∧ st.spare ≤ 500

def putSes (p : Pr) (x : Int) : Pr := { p with ses := x }
def putUsr (p : Pr) (x : Int) : Pr := { p with usr := x }
def noRes (p : Pr) : Pr := { p with res := false }
def setL (st : PS) (n : Nat) (p : Pr) : PS := { st with L := st.L.set n p }
def leadsRes (st : PS) (pid : Int) : PS × Int := match liveN st.L pid with | some n => (setL st n (putSes (st.L.getD n pr0) pid), 0) | none => (st, 3)
def becomesRes (st : PS) (pid uid : Int) : PS × Int :=
  match liveN st.L pid with
  | some n =>
    if uid < 0 ∨ 65535 < uid then (st, 1)
    else if (st.L.getD n pr0).usr = uid ∧ (st.L.getD n pr0).res = false then (st, 0)
    else if (roomRes st uid).2 = 0 then (setL (leavesRes (roomRes st uid).1 (st.L.getD n pr0)) n (noRes (putUsr (st.L.getD n pr0) uid)), 0)
    else (st, (roomRes st uid).2)
  | none => (st, 3)

theorem room_fail {st : PS} {u : Int} (h : (roomRes st u).2 ≠ 0) : (roomRes st u).1 = st := by
  unfold roomRes at *
  by_cases a : st.U.contains u = false ∧ 8 ≤ st.U.length
  · rw [if_pos a]
  · rw [if_neg a] at *
    by_cases b : 6 ≤ st.f u
    · rw [if_pos b]
    · rw [if_neg b] at h
      exact absurd rfl h
theorem room_st {st : PS} {u : Int} : (roomRes st u).1.L = st.L ∧ (roomRes st u).1.spare = st.spare ∧ (roomRes st u).1.U.length ≤ st.U.length + 1 ∧ ∀ x, st.f x ≤ (roomRes st u).1.f x ∧ (roomRes st u).1.f x ≤ st.f x + 1 := by
  unfold roomRes
  split
  · exact ⟨rfl, rfl, by simp, fun x => by simp; omega⟩
  · split
    · exact ⟨rfl, rfl, by simp, fun x => by simp; omega⟩
    · refine ⟨rfl, rfl, ?_, fun x => ?_⟩
      · simp only [learn]; split <;> simp
      · simp only [upd]; split
        · rename_i e; subst e; omega
        · omega
theorem leaves_L {st : PS} {p : Pr} : (leavesRes st p).L = st.L := by unfold leavesRes; split <;> rfl

theorem setL_setL (st : PS) (n : Nat) (p q : Pr) : setL (setL st n p) n q = setL st n q := by simp [setL, List.set_set]

section
variable {w w' : World} {b mb g off cap : Nat} {st : PS} {v : Value}
theorem TabAt.setPr (h : TabAt w b v mb st) (hv : v = .slice (some ⟨g, off, none⟩) st.L.length cap) {n : Nat} (hn : n < st.L.length) {s : Pr} (hs : st.L[n]? = some s) (j : Nat) (hj : j < 7) (u : Value) (s' : Pr) (he : s'.cells = s.cells.set j u) :
    TabAt (w.setCell ⟨g, off + n * 7 + j, none⟩ u) b v mb (setL st n s') := by
  have hg : v.ownBlock = some g := by rw [hv]; rfl
  obtain ⟨h1, h2, h3⟩ := h.v_ne hg
  exact ⟨h.blk.far (fun e => h1 e.symm) _, h.prs.set hv hn hs j hj u s' he, h.ct.chg (S := one_ g) ((Chg.refl (one_ g) w).setCell (p := ⟨g, off + n * 7 + j, none⟩) (.inl rfl) _) (fun e => h2 e.symm),
    by simpa [setL] using h.pos, by simpa [setL] using h.len⟩
theorem tOwn_g (hv : v = .slice (some ⟨g, off, none⟩) st.L.length cap) : tOwn b v mb g := .inr (.inl (by rw [hv]; rfl))
theorem chg_set (hv : v = .slice (some ⟨g, off, none⟩) st.L.length cap) {a : World} (hc : Chg (tOwn b v mb) a w) (j : Nat) (u : Value) : Chg (tOwn b v mb) a (w.setCell ⟨g, j, none⟩ u) :=
  hc.setCell (p := ⟨g, j, none⟩) (.inl (tOwn_g hv)) u
end

set_option maxHeartbeats 400000 in
theorem leads_any (b : Nat) (S : Nat → Prop) (st : PS) (pid : Int) (w : World) (h : TabIs w b S st) :
    Calls Try.prog 11 #[.pointer (some ⟨b, 0, none⟩), .int .i64 pid] w fun e w' => e = .returned (.int .i64 (leadsRes st pid).2) ∧ TabTo w w' b S (leadsRes st pid).1 := by
  obtain ⟨v, mb, h, rfl⟩ := h
  obtain ⟨g, off, cap, hv, hcap, hcm, hg⟩ := h.prs.at h.pos
  have Hv := hide hv
  subst hv
  have hlive := live_any b g off cap mb st pid w h
  unfold leadsRes
  have H := hide h
  cases hl : liveN st.L pid with
  | none =>
    rw [hl] at hlive
    have Hl := hide hlive
    clear hlive hl h
    go_enter Try.func11, Try.ntmps11
    go_wp2_with fail
    refine Hl.out.mono ?_
    simp only [Option.map]
    rintro e w1 ⟨rfl, hg⟩
    have Hg := hide hg
    clear hg
    go_wp2
    go_ret
    exact ⟨rfl, TabTo.gr ⟨_, _, H.out, rfl⟩ Hg.out⟩
  | some n =>
    obtain ⟨hi, hn, s, hs, hp, hd⟩ := liveN_some hl
    have hgd : st.L.getD n pr0 = s := by rw [List.getD_eq_getElem?_getD, hs]; rfl
    simp only [hgd]
    rw [hl] at hlive
    have Hl := hide hlive
    have Hs := hide hs
    have Hn := hide hn
    clear hlive hl h hi hs hd hp hgd
    go_enter Try.func11, Try.ntmps11
    go_wp2_with fail
    refine Hl.out.mono ?_
    simp only [Option.map]
    rintro e w1 ⟨rfl, hg⟩
    have hT := H.out.gr hg
    obtain ⟨c0, c1, c2, c3, c4, c5, c6⟩ := hT.prs.c rfl hn Hs.out
    have z3 := hT.prs.z rfl (n * 7 + 3)
    rw [← Nat.add_assoc] at z3
    have Hg := hide hg
    have HT := hide hT
    clear hg hT
    go_wp2
    go_ret
    exact ⟨rfl, TabTo.mk H.out (HT.out.setPr rfl Hn.out Hs.out 3 (by omega) _ (putSes s pid) rfl) (chg_set rfl (Chg.of_grown Hg.out (fun _ h => by cases h)) _ _) (fun k hk => .inl hk)⟩

set_option maxHeartbeats 1000000 in
theorem becomes_any (b : Nat) (S : Nat → Prop) (st : PS) (pid uid : Int) (w : World) (h : TabIs w b S st) (hL : Lite st) :
    Calls Try.prog 10 #[.pointer (some ⟨b, 0, none⟩), .int .i64 pid, .int .i64 uid] w fun e w' => e = .returned (.int .i64 (becomesRes st pid uid).2) ∧ TabTo w w' b S (becomesRes st pid uid).1 := by
  obtain ⟨v, mb, h, rfl⟩ := h
  obtain ⟨g, off, cap, hv, hcap, hcm, hg⟩ := h.prs.at h.pos
  subst hv
  have hlive := live_any b g off cap mb st pid w h
  unfold becomesRes
  have H := hide h
  cases hl : liveN st.L pid with
  | none =>
    rw [hl] at hlive
    have Hl := hide hlive
    clear hlive hl h
    go_enter Try.func10, Try.ntmps10
    go_wp2_with fail
    refine Hl.out.mono ?_
    simp only [Option.map]
    rintro e w1 ⟨rfl, hg⟩
    have Hg := hide hg
    clear hg
    go_wp2
    go_ret
    exact ⟨rfl, TabTo.gr ⟨_, _, H.out, rfl⟩ Hg.out⟩
  | some n =>
    obtain ⟨hi, hn, s, hs, hp, hd⟩ := liveN_some hl
    have hgd : st.L.getD n pr0 = s := by rw [List.getD_eq_getElem?_getD, hs]; rfl
    simp only [hgd]
    rw [hl] at hlive
    have hsu : wfi s.usr := hL.usr s (List.mem_of_getElem? hs)
    have HL := hide hL
    have Hsu := hide hsu
    have Hl := hide hlive
    have Hs := hide hs
    have Hn := hide hn
    clear hlive hl h hi hs hd hp hgd hL hsu
    by_cases h1 : uid < 0 ∨ 65535 < uid
    · rw [if_pos h1]
      by_cases h2 : uid < 0
      · have q1 : decide (uid < 0) = true := by simpa using h2
        clear h1 h2
        go_enter Try.func10, Try.ntmps10
        go_wp2_with fail
        refine Hl.out.mono ?_
        simp only [Option.map]
        rintro e w1 ⟨rfl, hg⟩
        have Hg := hide hg
        clear hg
        go_wp2
        go_ret
        exact ⟨rfl, TabTo.gr ⟨_, _, H.out, rfl⟩ Hg.out⟩
      · have q1 : decide (uid < 0) = false := by simpa using h2
        have q2 : decide (65535 < uid) = true := by simp; omega
        clear h1 h2
        go_enter Try.func10, Try.ntmps10
        go_wp2_with fail
        refine Hl.out.mono ?_
        simp only [Option.map]
        rintro e w1 ⟨rfl, hg⟩
        have Hg := hide hg
        clear hg
        go_wp2
        go_ret
        exact ⟨rfl, TabTo.gr ⟨_, _, H.out, rfl⟩ Hg.out⟩
    · rw [if_neg h1]
      have q1 : decide (uid < 0) = false := by simp; omega
      have q2 : decide (65535 < uid) = false := by simp; omega
      have Hu := hide (show wfi uid from wfi_small (by omega) (by omega))
      clear h1
      by_cases h2 : s.usr = uid ∧ s.res = false
      · rw [if_pos h2]
        obtain ⟨h3, h4⟩ := h2
        have q3 : (s.usr == uid) = true := by simpa using h3
        have H4 := hide h4
        clear h3 h4
        go_enter Try.func10, Try.ntmps10
        go_wp2_with fail
        refine Hl.out.mono ?_
        simp only [Option.map]
        rintro e w1 ⟨rfl, hg⟩
        have hT := H.out.gr hg
        obtain ⟨c0, c1, c2, c3, c4, c5, c6⟩ := hT.prs.c rfl hn Hs.out
        rw [H4.out] at c6
        have Hg := hide hg
        clear hg hT
        go_wp2
        go_ret
        exact ⟨rfl, TabTo.gr ⟨_, _, H.out, rfl⟩ Hg.out⟩
      · rw [if_neg h2]
        have hq : (s.usr == uid) = false ∨ ((s.usr == uid) = true ∧ s.res = true) := by
          by_cases e : s.usr = uid
          · exact .inr ⟨by simpa using e, by simpa using (fun f => h2 ⟨e, f⟩)⟩
          · exact .inl (by simpa using e)
        clear h2
        obtain ⟨r, hr⟩ : ∃ r, (roomRes st uid).2 = r := ⟨_, rfl⟩
        have Hr := hide hr
        simp only [hr]
        clear hr
        have ht : TabTo w w b (tOwn b (.slice (some ⟨g, off, none⟩) st.L.length cap) mb) st := TabTo.refl ⟨_, _, H.out, rfl⟩
        by_cases hr0 : r = 0
        · subst hr0
          rw [if_pos rfl]
          obtain ⟨st1, hst1⟩ : ∃ st1, (roomRes st uid).1 = st1 := ⟨_, rfl⟩
          have hroom := @room_st st uid
          rw [hst1] at hroom ⊢
          have Hst1 := hide hst1
          have Hroom := hide hroom
          clear hst1 hroom ht
          rcases hq with q3 | ⟨q3, q4⟩
          case inr =>
            have H4 := hide q4
            clear q4
            go_enter Try.func10, Try.ntmps10
            go_wp2_with fail
            refine Hl.out.mono ?_
            simp only [Option.map]
            rintro e w1 ⟨rfl, hg⟩
            have hT := H.out.gr hg
            obtain ⟨c0, c1, c2, c3, c4, c5, c6⟩ := hT.prs.c rfl hn Hs.out
            rw [H4.out] at c6
            have Hg := hide hg
            have HT := hide hT
            clear hg hT
            go_wp2_with fail
            go_at_call 23
            refine (room_any b mb _ st uid w1 HT.out Hu.out (by have := HL.out.ul; omega) (by have := HL.out.f uid; omega)).mono ?_
            rw [Hr.out, Hst1.out]
            rintro e w2 ⟨rfl, hT2, hg2⟩
            obtain ⟨d0, d1, d2, d3, d4, d5, d6⟩ := hT2.prs.c (g := g) (off := off) (cap := cap) (by rw [Hroom.out.1]) (n := n) (by rw [Hroom.out.1]; exact hn) (by rw [Hroom.out.1]; exact Hs.out)
            have Hg2 := hide hg2
            have HT2 := hide hT2
            clear hg2 hT2 c0 c1 c2 c3 c4 c5 c6
            go_wp2_with fail
            go_at_call 24
            refine (leaves_any b mb _ st1 s w2 HT2.out Hsu.out (by have := HL.out.ul; have := Hroom.out.2.2.1; omega) (by have := HL.out.f s.usr; have := Hroom.out.2.2.2 s.usr; omega) (by have := HL.out.sp; have := Hroom.out.2.1; omega)).mono ?_
            rintro e w3 ⟨rfl, hT3, hg3⟩
            have hL3 : (leavesRes st1 s).L = st.L := leaves_L.trans Hroom.out.1
            have hv3 : (.slice (some ⟨g, off, none⟩) st.L.length cap : Value) = .slice (some ⟨g, off, none⟩) (leavesRes st1 s).L.length cap := by rw [hL3]
            obtain ⟨k0, k1, k2, k3, k4, k5, k6⟩ := hT3.prs.c (g := g) (off := off) (cap := cap) hv3 (n := n) (by rw [hL3]; exact hn) (by rw [hL3]; exact Hs.out)
            rw [H4.out] at k6
            have z2 := hT3.prs.z hv3 (n * 7 + 2)
            have z6 := hT3.prs.z hv3 (n * 7 + 6)
            rw [← Nat.add_assoc] at z2 z6
            have HL3 := hide hL3
            have Hv3 := hide hv3
            have Hg3 := hide hg3
            have HT3 := hide hT3
            clear hg3 hT3 d0 d1 d2 d3 d4 d5 d6 hL3 hv3
            go_wp2
            go_ret
            have hfin := (HT3.out.setPr Hv3.out (n := n) (by rw [HL3.out]; exact hn) (s := s) (by rw [HL3.out]; exact Hs.out) 2 (by omega) (.int .i64 uid) (putUsr s uid) rfl).setPr (cap := cap) (by rw [show (setL (leavesRes st1 s) n (putUsr s uid)).L.length = st.L.length from by simp [setL, HL3.out]]) (n := n) (by simp [setL, HL3.out]; exact hn) (s := putUsr s uid) (by simp [setL, HL3.out, hn]) 6 (by omega) (.bool false) (noRes (putUsr s uid)) rfl
            rw [setL_setL] at hfin
            refine ⟨rfl, TabTo.mk H.out hfin (chg_set rfl (chg_set rfl ?_ _ _) _ _) (fun k hk => .inl hk)⟩
            have e1 : Chg (tOwn b (.slice (some ⟨g, off, none⟩) st.L.length cap) mb) w w1 := Chg.of_grown Hg.out (fun _ h => by cases h)
            have e2 := e1.trans (Chg.of_grown Hg2.out (fun k hk => by injection hk with hk; exact hk.symm) : Chg (one_ mb) _ _) (fun k _ hk => .inr (.inr hk))
            exact e2.trans Hg3.out (fun k _ hk => hk.elim (fun h => .inl h) (fun h => .inr (.inr h)))
          case inl =>
            go_enter Try.func10, Try.ntmps10
            go_wp2_with fail
            refine Hl.out.mono ?_
            simp only [Option.map]
            rintro e w1 ⟨rfl, hg⟩
            have hT := H.out.gr hg
            obtain ⟨c0, c1, c2, c3, c4, c5, c6⟩ := hT.prs.c rfl hn Hs.out
            have Hg := hide hg
            have HT := hide hT
            clear hg hT
            go_wp2_with fail
            go_at_call 23
            refine (room_any b mb _ st uid w1 HT.out Hu.out (by have := HL.out.ul; omega) (by have := HL.out.f uid; omega)).mono ?_
            rw [Hr.out, Hst1.out]
            rintro e w2 ⟨rfl, hT2, hg2⟩
            obtain ⟨d0, d1, d2, d3, d4, d5, d6⟩ := hT2.prs.c (g := g) (off := off) (cap := cap) (by rw [Hroom.out.1]) (n := n) (by rw [Hroom.out.1]; exact hn) (by rw [Hroom.out.1]; exact Hs.out)
            have Hg2 := hide hg2
            have HT2 := hide hT2
            clear hg2 hT2 c0 c1 c2 c3 c4 c5 c6
            go_wp2_with fail
            go_at_call 24
            refine (leaves_any b mb _ st1 s w2 HT2.out Hsu.out (by have := HL.out.ul; have := Hroom.out.2.2.1; omega) (by have := HL.out.f s.usr; have := Hroom.out.2.2.2 s.usr; omega) (by have := HL.out.sp; have := Hroom.out.2.1; omega)).mono ?_
            rintro e w3 ⟨rfl, hT3, hg3⟩
            have hL3 : (leavesRes st1 s).L = st.L := leaves_L.trans Hroom.out.1
            have hv3 : (.slice (some ⟨g, off, none⟩) st.L.length cap : Value) = .slice (some ⟨g, off, none⟩) (leavesRes st1 s).L.length cap := by rw [hL3]
            obtain ⟨k0, k1, k2, k3, k4, k5, k6⟩ := hT3.prs.c (g := g) (off := off) (cap := cap) hv3 (n := n) (by rw [hL3]; exact hn) (by rw [hL3]; exact Hs.out)
            have z2 := hT3.prs.z hv3 (n * 7 + 2)
            have z6 := hT3.prs.z hv3 (n * 7 + 6)
            rw [← Nat.add_assoc] at z2 z6
            have HL3 := hide hL3
            have Hv3 := hide hv3
            have Hg3 := hide hg3
            have HT3 := hide hT3
            clear hg3 hT3 d0 d1 d2 d3 d4 d5 d6 hL3 hv3
            go_wp2
            go_ret
            have hfin := (HT3.out.setPr Hv3.out (n := n) (by rw [HL3.out]; exact hn) (s := s) (by rw [HL3.out]; exact Hs.out) 2 (by omega) (.int .i64 uid) (putUsr s uid) rfl).setPr (cap := cap) (by rw [show (setL (leavesRes st1 s) n (putUsr s uid)).L.length = st.L.length from by simp [setL, HL3.out]]) (n := n) (by simp [setL, HL3.out]; exact hn) (s := putUsr s uid) (by simp [setL, HL3.out, hn]) 6 (by omega) (.bool false) (noRes (putUsr s uid)) rfl
            rw [setL_setL] at hfin
            refine ⟨rfl, TabTo.mk H.out hfin (chg_set rfl (chg_set rfl ?_ _ _) _ _) (fun k hk => .inl hk)⟩
            have e1 : Chg (tOwn b (.slice (some ⟨g, off, none⟩) st.L.length cap) mb) w w1 := Chg.of_grown Hg.out (fun _ h => by cases h)
            have e2 := e1.trans (Chg.of_grown Hg2.out (fun k hk => by injection hk with hk; exact hk.symm) : Chg (one_ mb) _ _) (fun k _ hk => .inr (.inr hk))
            exact e2.trans Hg3.out (fun k _ hk => hk.elim (fun h => .inl h) (fun h => .inr (.inr h)))
        · rw [if_neg hr0]
          have hf := room_fail (by rw [Hr.out]; exact hr0)
          have Hf := hide hf
          have q5 : (r == 0) = false := by simpa using hr0
          clear hf hr0 ht
          rcases hq with q3 | ⟨q3, q4⟩
          case inr =>
            have H4 := hide q4
            clear q4
            go_enter Try.func10, Try.ntmps10
            go_wp2_with fail
            refine Hl.out.mono ?_
            simp only [Option.map]
            rintro e w1 ⟨rfl, hg⟩
            have hT := H.out.gr hg
            obtain ⟨c0, c1, c2, c3, c4, c5, c6⟩ := hT.prs.c rfl hn Hs.out
            rw [H4.out] at c6
            have Hg := hide hg
            have HT := hide hT
            clear hg hT
            go_wp2_with fail
            go_at_call 23
            refine (room_any b mb _ st uid w1 HT.out Hu.out (by have := HL.out.ul; omega) (by have := HL.out.f uid; omega)).mono ?_
            rw [Hr.out, Hf.out]
            rintro e w2 ⟨rfl, hT2, hg2⟩
            have Hg2 := hide hg2
            have HT2 := hide hT2
            clear hg2 hT2 c0 c1 c2 c3 c4 c5 c6
            go_wp2
            go_ret
            refine ⟨rfl, TabTo.mk H.out HT2.out ?_ (fun k hk => .inl hk)⟩
            have e1 : Chg (tOwn b (.slice (some ⟨g, off, none⟩) st.L.length cap) mb) w w1 := Chg.of_grown Hg.out (fun _ h => by cases h)
            exact e1.trans (Chg.of_grown Hg2.out (fun k hk => by injection hk with hk; exact hk.symm) : Chg (one_ mb) _ _) (fun k _ hk => .inr (.inr hk))
          case inl =>
            go_enter Try.func10, Try.ntmps10
            go_wp2_with fail
            refine Hl.out.mono ?_
            simp only [Option.map]
            rintro e w1 ⟨rfl, hg⟩
            have hT := H.out.gr hg
            obtain ⟨c0, c1, c2, c3, c4, c5, c6⟩ := hT.prs.c rfl hn Hs.out
            have Hg := hide hg
            have HT := hide hT
            clear hg hT
            go_wp2_with fail
            go_at_call 23
            refine (room_any b mb _ st uid w1 HT.out Hu.out (by have := HL.out.ul; omega) (by have := HL.out.f uid; omega)).mono ?_
            rw [Hr.out, Hf.out]
            rintro e w2 ⟨rfl, hT2, hg2⟩
            have Hg2 := hide hg2
            have HT2 := hide hT2
            clear hg2 hT2 c0 c1 c2 c3 c4 c5 c6
            go_wp2
            go_ret
            refine ⟨rfl, TabTo.mk H.out HT2.out ?_ (fun k hk => .inl hk)⟩
            have e1 : Chg (tOwn b (.slice (some ⟨g, off, none⟩) st.L.length cap) mb) w w1 := Chg.of_grown Hg.out (fun _ h => by cases h)
            exact e1.trans (Chg.of_grown Hg2.out (fun k hk => by injection hk with hk; exact hk.symm) : Chg (one_ mb) _ _) (fun k _ hk => .inr (.inr hk))

end Go.Proofs.Ytljlbdbgocohlaa
