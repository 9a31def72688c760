/- The program's table; the walks of IndexFunc, at and live. -/
import Derived.Test.YtljlbdbgocohlaaB
namespace Go.Proofs.Ytljlbdbgocohlaa
open Go.RowKit Go.Maps

set_option maxHeartbeats 1000000 in
theorem index_any (v : Value) (L : List Pr) (cb : Nat) (pid : Int) (w : World) (h : PrsIs w 34 v L) (hp : 0 < L.length) (hl : L.length ≤ 1000000) (hc : w.cell? ⟨cb, 0, none⟩ = some (.int .i64 pid)) (hlt : cb < w.heap.size) :
    Calls Try.prog 34 #[v, .func (.func 35) #[] #[.pointer (some ⟨cb, 0, none⟩)]] w fun e w' => e = .returned (.int .i64 (oi (idx L pid))) ∧ w.grownBy w' none := by
  obtain ⟨g, off, cap, hv, hcap, hcm, hg⟩ := h.at hp
  have H := hide h
  have Hl := hide hl
  have Hc := hide hc
  have Hlt := hide hlt
  subst hv
  clear h hl hc hlt hcap hcm hp
  go_enter Try.func34, Try.ntmps34
  go_wp2_with fail
  go_loopw [8] (fun u wr => ∃ k : Nat, u = .int .i64 k ∧ k ≤ L.length ∧ idxFrom L pid k = idx L pid ∧ w.grownBy wr none) (fun u _ => L.length - (intOf u).toNat)
  case atStart => exact ⟨0, rfl, by omega, rfl, only_refl _ _⟩
  case round =>
    obtain ⟨k, rfl, hk, hff, hG⟩ := hrel
    have hHl := Hl.out
    by_cases hlt : k < L.length
    · have hT : PrsIs wr 34 _ L := H.out.chg (Chg.of_grown hG (fun _ h => by cases h) : Chg nobody w wr) (fun _ _ h => h)
      have hcw : wr.cell? ⟨cb, 0, none⟩ = some (.int .i64 pid) := by rw [← Hc.out]; exact (below_of_none hG).cell (p := ⟨cb, 0, none⟩) Hlt.out
      have hcl : cb < wr.heap.size := Nat.lt_of_lt_of_le Hlt.out hG.size
      obtain ⟨s, hs⟩ : ∃ s, L[k]? = some s := ⟨_, List.getElem?_eq_getElem hlt⟩
      have hs' : L[k] = s := by rw [List.getElem?_eq_getElem hlt] at hs; injection hs
      obtain ⟨c0, c1, c2, c3, c4, c5, c6⟩ := hT.c rfl hlt hs
      have HG := hide hG
      have hlam := hide (lam_any s cb pid wr hcw hcl)
      have q0 : decide ((k : Int) < (L.length : Int)) = true := by simp; omega
      have hi : (0 : Int) ≤ k ∧ (k : Int) < (L.length : Int) := by omega
      clear hT hs hG hcw hcl
      by_cases h0 : s.pid = pid
      · have hr : idx L pid = some k := by rw [← hff, idx_here hlt (by rw [hs', h0])]
        have Hr := hide hr
        have q : (s.pid == pid) = true := by simpa using h0
        clear h0 hff hs' hr
        go_wp2_with fail
        refine hlam.out.mono ?_
        rw [q]
        rintro e w1 ⟨rfl, hg⟩
        have Hg := hide hg
        clear hg
        go_wp2
        go_ret
        rw [Hr.out]
        exact ⟨rfl, only_trans HG.out Hg.out⟩
      · have hr : idxFrom L pid (k + 1) = idx L pid := by rw [← hff, idx_next hlt (by rw [hs']; exact h0)]
        have Hr := hide hr
        have q : (s.pid == pid) = false := by simpa using h0
        clear h0 hff hs' hr
        go_wp2_with fail
        refine hlam.out.mono ?_
        rw [q]
        rintro e w1 ⟨rfl, hg⟩
        have Hg := hide hg
        clear hg
        go_wp2
        go_roundw
        case rel => exact ⟨k + 1, by go_num, by omega, Hr.out, only_trans HG.out Hg.out⟩
        case measure => simp [intOf]; omega
    · have hr : idx L pid = none := by rw [← hff, idx_end (by omega)]
      have Hr := hide hr
      have q0 : decide ((k : Int) < (L.length : Int)) = false := by simp; omega
      clear hr hff
      go_wp2
      go_ret
      rw [Hr.out]
      exact ⟨rfl, hG⟩

structure PS where
  L : List Pr
  last : Int
  U : List Int
  f : Int → Int
  spare : Int

structure TabAt (w : World) (b : Nat) (v : Value) (mb : Nat) (st : PS) : Prop where
  blk : Blk w b 58 #[v, .int .i64 st.last, .map (some mb), .int .i64 st.spare]
  prs : PrsIs w 34 v st.L
  ct : CtIs w mb st.U st.f
  pos : 0 < st.L.length
  len : st.L.length ≤ 1000000
def tOwn (b : Nat) (v : Value) (mb : Nat) : Nat → Prop := fun k => k = b ∨ v.ownBlock = some k ∨ k = mb
def TabIs (w : World) (b : Nat) (S : Nat → Prop) (st : PS) : Prop := ∃ v mb, TabAt w b v mb st ∧ S = tOwn b v mb
def TabTo (w w' : World) (b : Nat) (S : Nat → Prop) (st' : PS) : Prop := ∃ S', TabIs w' b S' st' ∧ (∀ k, S' k → S k ∨ w.heap.size ≤ k) ∧ Chg S w w'

theorem Blk.c4 {w : World} {g : Nat} {t : TypeId} {a b c d : Value} (h : Blk w g t #[a, b, c, d]) : w.cell? ⟨g, 0, none⟩ = some a ∧ w.cell? ⟨g, 1, none⟩ = some b ∧ w.cell? ⟨g, 2, none⟩ = some c ∧ w.cell? ⟨g, 3, none⟩ = some d :=
  ⟨h.cell 0, h.cell 1, h.cell 2, h.cell 3⟩

section
variable {w w' w1 w2 : World} {b mb : Nat} {v : Value} {st st1 st2 : PS} {S T : Nat → Prop}
theorem TabAt.b_ne_mb (h : TabAt w b v mb st) : b ≠ mb := h.ct.notCells h.blk
theorem TabAt.v_ne (h : TabAt w b v mb st) {k : Nat} (hk : v.ownBlock = some k) : k ≠ b ∧ k ≠ mb ∧ k < w.heap.size := by
  obtain ⟨g, off, cap, hv, h1, h2, h3⟩ := h.prs.at h.pos
  have hlt := Own.lt h.prs hk
  rcases h.prs.2 with ⟨h0, _⟩ | ⟨g', off', cap', cur, fz, hv', hg, _⟩
  · rw [h0] at hv; cases hv
  · rw [hv'] at hk
    simp [Value.ownBlock] at hk
    subst hk
    refine ⟨fun e => ?_, h.ct.notCells hg, hlt⟩
    subst e
    have := h.blk
    unfold Blk at this
    rw [hg] at this
    cases this
theorem TabAt.chg (h : TabAt w b v mb st) (hc : Chg T w w') (hd : ∀ k, tOwn b v mb k → ¬ T k) : TabAt w' b v mb st :=
  ⟨Blk.chg h.blk hc (hd b (.inl rfl)), h.prs.chg hc (fun k hk => hd k (.inr (.inl hk))), h.ct.chg hc (hd mb (.inr (.inr rfl))), h.pos, h.len⟩
theorem TabAt.gr (h : TabAt w b v mb st) (hg : w.grownBy w' none) : TabAt w' b v mb st := h.chg (Chg.of_grown hg (fun _ h => by cases h) : Chg nobody w w') (fun _ _ h => h)
theorem TabAt.lt (h : TabAt w b v mb st) {k : Nat} (hk : tOwn b v mb k) : k < w.heap.size := by
  rcases hk with rfl | hk | rfl
  · exact Blk.lt h.blk
  · exact (h.v_ne hk).2.2
  · exact h.ct.lt
theorem TabIs.lt (h : TabIs w b S st) {k : Nat} (hk : S k) : k < w.heap.size := by
  obtain ⟨v, mb, h, rfl⟩ := h
  exact h.lt hk
theorem TabIs.chg (h : TabIs w b S st) (hc : Chg T w w') (hd : ∀ k, S k → ¬ T k) : TabIs w' b S st := by
  obtain ⟨v, mb, h, rfl⟩ := h
  exact ⟨v, mb, h.chg hc hd, rfl⟩
theorem TabIs.gr (h : TabIs w b S st) (hg : w.grownBy w' none) : TabIs w' b S st := h.chg (Chg.of_grown hg (fun _ h => by cases h) : Chg nobody w w') (fun _ _ h => h)
theorem TabTo.refl (h : TabIs w b S st) : TabTo w w b S st := ⟨S, h, fun _ hk => .inl hk, Chg.refl _ _⟩
theorem TabTo.gr (h : TabIs w b S st) (hg : w.grownBy w' none) : TabTo w w' b S st := ⟨S, h.gr hg, fun _ hk => .inl hk, (Chg.of_grown hg (fun _ h => by cases h) : Chg S w w')⟩
theorem TabTo.mk {v' : Value} {mb' : Nat} (h : TabAt w b v mb st) (h' : TabAt w' b v' mb' st1) (hc : Chg (tOwn b v mb) w w') (hn : ∀ k, tOwn b v' mb' k → tOwn b v mb k ∨ w.heap.size ≤ k) : TabTo w w' b (tOwn b v mb) st1 :=
  ⟨_, ⟨v', mb', h', rfl⟩, hn, hc⟩
end

set_option maxHeartbeats 400000 in
theorem at_any (b : Nat) (v : Value) (mb : Nat) (st : PS) (pid : Int) (w : World) (h : TabAt w b v mb st) :
    Calls Try.prog 25 #[.pointer (some ⟨b, 0, none⟩), .int .i64 pid] w fun e w' => e = .returned (.int .i64 (oi (idx st.L pid))) ∧ w.grownBy w' none := by
  obtain ⟨c0, c1, c2, c3⟩ := h.blk.c4
  have hg := only_alloc (only_refl w none) (.cells #[.int .i64 pid] 3)
  have hidx := hide (index_any v st.L w.heap.size pid (w.alloc (.cells #[.int .i64 pid] 3)) (h.gr hg).prs h.pos h.len ((Blk.new w 3 #[.int .i64 pid]).cell 0) (Blk.new w 3 #[.int .i64 pid]).lt)
  have hb : b < w.heap.size := h.blk.lt
  clear h hg
  go_enter Try.func25, Try.ntmps25
  go_wp2_with fail
  refine hidx.out.mono ?_
  rintro e w1 ⟨rfl, hg⟩
  have Hg := hide hg
  clear hg
  go_wp2
  go_ret
  exact ⟨rfl, only_trans (only_alloc (only_refl w none) _) Hg.out⟩

end Go.Proofs.Ytljlbdbgocohlaa
