/- The walks of room, leaves, New, Leads, Clone, All. -/
import Derived.Test.YtljlbdbgocohlaaD
namespace Go.Proofs.Ytljlbdbgocohlaa
open Go.RowKit Go.Maps

def roomRes (st : PS) (u : Int) : PS × Int :=
  if st.U.contains u = false ∧ 8 ≤ st.U.length then (st, 12)
  else if 6 ≤ st.f u then (st, 13)
  else ({ st with U := learn st.U u, f := upd st.f u (st.f u + 1) }, 0)
def leavesRes (st : PS) (p : Pr) : PS := if p.res then { st with spare := st.spare - 1 } else { st with U := learn st.U p.usr, f := upd st.f p.usr (st.f p.usr - 1) }

theorem wfi_small {x : Int} (h1 : -1000000000 ≤ x) (h2 : x ≤ 1000000000) : wfi x := by
  unfold wfi
  exact WalkArith.wf_i64 (by omega)

theorem TabAt.put {w w' : World} {b mb : Nat} {v : Value} {st : PS} {U : List Int} {f : Int → Int} (h : TabAt w b v mb st) (hc : CtIs w' mb U f) (hg : w.grownBy w' (some mb)) : TabAt w' b v mb { st with U := U, f := f } := by
  have hb := h.b_ne_mb
  refine ⟨h.blk.grown hg (by simpa using hb), ?_, hc, h.pos, h.len⟩
  exact h.prs.chg (Chg.of_grown hg (fun k hk => by injection hk with hk; exact hk.symm) : Chg (one_ mb) w w') (fun k hk e => (h.v_ne hk).2.1 e)

set_option maxHeartbeats 400000 in
theorem room_any (b mb : Nat) (v : Value) (st : PS) (u : Int) (w : World) (h : TabAt w b v mb st) (hu : wfi u) (hU : st.U.length ≤ 1000) (hf : 0 ≤ st.f u ∧ st.f u ≤ 1000) :
    Calls Try.prog 23 #[.pointer (some ⟨b, 0, none⟩), .int .i64 u] w fun e w' => e = .returned (.int .i64 (roomRes st u).2) ∧ TabAt w' b v mb (roomRes st u).1 ∧ w.grownBy w' (some mb) := by
  obtain ⟨a0, a1, a2, a3⟩ := h.blk.c4
  have hl1 := h.ct.lookOk hu 56 Try.underlying56
  have hl2 := h.ct.look hu 56 Try.underlying56
  have hl3 := h.ct.len 56 3 Try.underlying56
  have H := hide h
  have Hu := hide hu
  have HU := hide hU
  have Hf := hide hf
  clear h hu
  unfold roomRes
  by_cases h1 : st.U.contains u = false ∧ 8 ≤ st.U.length
  · rw [if_pos h1]
    obtain ⟨p1, p2⟩ := h1
    have q2 : decide ((8 : Int) ≤ (st.U.length : Int)) = true := by simp; omega
    rw [p1] at hl1
    clear p1 hU hf
    go_enter Try.func23, Try.ntmps23
    go_wp2
    go_ret
    exact ⟨rfl, H.out, only_refl _ _⟩
  · rw [if_neg h1]
    by_cases h2 : 6 ≤ st.f u
    · rw [if_pos h2]
      have q3 : decide ((6 : Int) ≤ st.f u) = true := by simpa using h2
      by_cases p1 : st.U.contains u = true
      · rw [p1] at hl1
        clear h1 hU hf p1 h2
        go_enter Try.func23, Try.ntmps23
        go_wp2
        go_ret
        exact ⟨rfl, H.out, only_refl _ _⟩
      · have p1' : st.U.contains u = false := by simpa using p1
        have h8 : ¬ 8 ≤ st.U.length := fun e => h1 ⟨p1', e⟩
        have q2 : decide ((8 : Int) ≤ (st.U.length : Int)) = false := by simp; omega
        rw [p1'] at hl1
        clear h1 hU hf p1 h2 p1' h8
        go_enter Try.func23, Try.ntmps23
        go_wp2
        go_ret
        exact ⟨rfl, H.out, only_refl _ _⟩
    · rw [if_neg h2]
      have q3 : decide ((6 : Int) ≤ st.f u) = false := by simpa using h2
      by_cases p1 : st.U.contains u = true
      · rw [p1] at hl1
        clear h1 hU hf p1 h2
        go_enter Try.func23, Try.ntmps23
        go_wp2_with (at_mapUpdate; refine wpList_ctPut rfl _ _ _ rfl rfl H.out.ct u (wrap64 (st.f u + 1)) rfl rfl Hu.out (wrap64_wf _) (by have := HU.out; omega) ?_; intro w2 hc hg)
        rw [show wrap64 (st.f u + 1) = st.f u + 1 from by have := Hf.out; unfold wrap64; omega] at hc
        have HC := hide hc
        have HG := hide hg
        clear hc hg
        go_wp2
        go_ret
        exact ⟨rfl, H.out.put HC.out HG.out, HG.out⟩
      · have p1' : st.U.contains u = false := by simpa using p1
        have h8 : ¬ 8 ≤ st.U.length := fun e => h1 ⟨p1', e⟩
        have q2 : decide ((8 : Int) ≤ (st.U.length : Int)) = false := by simp; omega
        rw [p1'] at hl1
        clear h1 hU hf p1 h2 p1' h8
        go_enter Try.func23, Try.ntmps23
        go_wp2_with (at_mapUpdate; refine wpList_ctPut rfl _ _ _ rfl rfl H.out.ct u (wrap64 (st.f u + 1)) rfl rfl Hu.out (wrap64_wf _) (by have := HU.out; omega) ?_; intro w2 hc hg)
        rw [show wrap64 (st.f u + 1) = st.f u + 1 from by have := Hf.out; unfold wrap64; omega] at hc
        have HC := hide hc
        have HG := hide hg
        clear hc hg
        go_wp2
        go_ret
        exact ⟨rfl, H.out.put HC.out HG.out, HG.out⟩

set_option maxHeartbeats 400000 in
theorem leaves_any (b mb : Nat) (v : Value) (st : PS) (p : Pr) (w : World) (h : TabAt w b v mb st) (hu : wfi p.usr) (hU : st.U.length ≤ 1000) (hf : -1000 ≤ st.f p.usr ∧ st.f p.usr ≤ 1000) (hs : -1000 ≤ st.spare ∧ st.spare ≤ 1000) :
    Calls Try.prog 24 #[.pointer (some ⟨b, 0, none⟩), p.agg] w fun e w' => e = .returned (.tuple #[]) ∧ TabAt w' b v mb (leavesRes st p) ∧ Chg (fun k => k = b ∨ k = mb) w w' := by
  have hb := h.blk.lt
  have hm := h.ct.lt
  have h1 := h.gr (only_alloc (only_refl w none) (.cells p.cells.toArray 34))
  obtain ⟨a0, a1, a2, a3⟩ := h.blk.c4
  have z3 := h.blk.frozen 3
  have H0 := hide h
  have H := hide h1
  have Hu := hide hu
  have HU := hide hU
  have Hf := hide hf
  have Hs := hide hs
  unfold Pr.cells at *
  unfold Pr.agg leavesRes
  cases hr : p.res with
  | true =>
    simp only [if_true]
    rw [hr] at H
    clear h hu h1 hU hf hs hr
    go_enter Try.func24, Try.ntmps24
    go_wp2
    refine bodyPost_end (results_none rfl _ _ _) rfl ?_
    rw [show wrap64 (st.spare - 1) = st.spare - 1 from by have := Hs.out; unfold wrap64; omega]
    refine ⟨rfl, ?_, ((Chg.refl _ _).setCell (.inl (.inl rfl)) _).alloc _⟩
    have h0 := H0.out
    have hs1 : TabAt (w.setCell ⟨b, 3, none⟩ (.int .i64 (st.spare - 1))) b v mb { st with spare := st.spare - 1 } :=
      ⟨h0.blk.set_ 3 _, h0.prs.chg (((Chg.refl (one_ b) w).setCell (p := ⟨b, 3, none⟩) (.inl rfl) _)) (fun k hk e => (h0.v_ne hk).1 e), h0.ct.chg ((Chg.refl (one_ b) w).setCell (p := ⟨b, 3, none⟩) (.inl rfl) _) (fun e => h0.b_ne_mb e.symm), h0.pos, h0.len⟩
    exact hs1.gr (only_alloc (only_refl _ none) _)
  | false =>
    simp only [Bool.false_eq_true, if_false]
    rw [hr] at H
    clear h hu h1 hU hf hs hr
    go_enter Try.func24, Try.ntmps24
    go_wp2_with fail
    refine wp_region_qtail 8 (by kernel_rfl) (by kernel_rfl) ?_
    simp only [List.take_succ_cons, List.take_zero, List.drop_succ_cons, List.drop_zero]
    repeat (go_big_quiet_step (fail))
    refine wpQuiet_val (.int .i64 (st.f p.usr)) rfl ?_ ?_
    · rintro _ ⟨n, rfl⟩
      have hl := (H.out.gr (only_drewN (only_refl _ _) n)).ct.look Hu.out 56 Try.underlying56
      simp [execOp, go_sem, hl]
    simp only [Act.put, List.setIfInBounds_toArray, List.set_cons_succ, List.set_cons_zero]
    repeat (go_big_quiet_step (fail))
    refine wpQuiet_nil ?_
    rintro _ ⟨nq, rfl⟩
    go_wp2_with (at_mapUpdate; refine wpList_ctPut rfl _ _ _ rfl rfl H.out.ct p.usr (wrap64 (st.f p.usr - 1)) rfl rfl Hu.out (wrap64_wf _) (by have := HU.out; omega) ?_; intro w2 hc hg)
    rw [show wrap64 (st.f p.usr - 1) = st.f p.usr - 1 from by have := Hf.out; unfold wrap64; omega] at hc
    have HC := hide hc
    have HG := hide hg
    clear hc hg
    go_wp2
    refine bodyPost_end (results_none rfl _ _ _) rfl ?_
    refine ⟨rfl, (H.out.gr (only_drewN (only_refl _ _) nq)).put HC.out HG.out, ?_⟩
    exact (((Chg.refl _ w).alloc _).drewN nq).trans (Chg.of_grown HG.out (fun k hk => by injection hk with hk; exact hk.symm) : Chg (one_ mb) _ _) (fun k _ hk => .inr hk)

end Go.Proofs.Ytljlbdbgocohlaa
