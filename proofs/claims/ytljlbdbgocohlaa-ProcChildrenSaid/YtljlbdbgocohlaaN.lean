/- The document's table: the walks of room, learn, Get, Leads, Becomes, Exit, New. -/
import Derived.Test.YtljlbdbgocohlaaM
namespace Go.Proofs.Ytljlbdbgocohlaa
open Go.RowKit Go.Maps

theorem info3 : (Try.prog.info? 3).map (fun i => (i.zero, i.size, i.bytes)) = some (some (.int .i64 0), 1, 8) := by kernel_rfl
theorem info50 : (Try.prog.info? 50).map (fun i => (i.zero, i.size, i.bytes)) = some (some pr0.agg, 7, 48) := by kernel_rfl

section
variable {w w' : World} {b : Nat} {v u v' u' : Value} {r : RS} {T : Nat → Prop}
theorem RAt.newL (h : RAt w b v u r) (hc : Chg T w w') (hb : ¬ T b) (hu : ∀ k, u.ownBlock = some k → ¬ T k) (L : List Pr) (ho : PrsIs w' 50 v' L) (h0 : 0 < L.length) (h1 : L.length ≤ 1000000) :
    RAt (w'.setCell ⟨b, 0, none⟩ v') b v' u { r with L := L } := by
  have hb' : Blk w' b 55 #[v, .int .i64 r.last, u] := h.blk.chg hc hb
  exact ⟨hb'.set_ 0 _, Own.far (p := ⟨b, 0, none⟩) ho (fun e => Own.neb ho hb' (by decide) e rfl) _, Own.far (p := ⟨b, 0, none⟩) (h.us.chg hc hu) (fun e => (h.u_ne e).1 rfl) _, h0, h1, h.ul⟩
theorem RAt.newU (h : RAt w b v u r) (hc : Chg T w w') (hb : ¬ T b) (hv : ∀ k, v.ownBlock = some k → ¬ T k) (U : List Int) (ho : Own w' 3 1 u' U.length (icells U) 0) (h1 : U.length ≤ 1000000) :
    RAt (w'.setCell ⟨b, 2, none⟩ u') b v u' { r with U := U } := by
  have hb' : Blk w' b 55 #[v, .int .i64 r.last, u] := h.blk.chg hc hb
  exact ⟨hb'.set_ 2 _, Own.far (p := ⟨b, 2, none⟩) (h.prs.chg hc hv) (fun e => (h.v_ne e).1 rfl) _, Own.far (p := ⟨b, 2, none⟩) ho (fun e => Own.neb ho hb' (by decide) e rfl) _, h.pos, h.len, h1⟩
theorem RAt.setLast (h : RAt w b v u r) (x : Int) : RAt (w.setCell ⟨b, 1, none⟩ (.int .i64 x)) b v u { r with last := x } :=
  ⟨h.blk.set_ 1 _, Own.far (p := ⟨b, 1, none⟩) h.prs (fun e => (h.v_ne e).1 rfl) _, Own.far (p := ⟨b, 1, none⟩) h.us (fun e => (h.u_ne e).1 rfl) _, h.pos, h.len, h.ul⟩
end

theorem room_key (st : PS) (x : Int) {cb : Bool} {m : Int} (h1 : st.U.contains x = cb) (h2 : st.f x = m) :
    (cb = false ∧ decide ((8 : Int) ≤ (st.U.length : Int)) = true ∧ (roomRes st x).2 = 12) ∨ ((cb = true ∨ cb = false ∧ decide ((8 : Int) ≤ (st.U.length : Int)) = false) ∧ (decide (6 ≤ m) = true ∧ (roomRes st x).2 = 13 ∨ decide (6 ≤ m) = false ∧ (roomRes st x).2 = 0)) := by
  subst h1 h2
  unfold roomRes
  by_cases a : st.U.contains x = false ∧ 8 ≤ st.U.length
  · rw [if_pos a]
    exact .inl ⟨a.1, by simp; omega, rfl⟩
  · rw [if_neg a]
    refine .inr ⟨?_, ?_⟩
    · cases hcb : st.U.contains x with
      | true => exact .inl rfl
      | false => exact .inr ⟨rfl, by have := Nat.lt_of_not_le (fun e => a ⟨hcb, e⟩); simp; omega⟩
    · by_cases c : 6 ≤ st.f x
      · rw [if_pos c]
        exact .inl ⟨by simpa using c, rfl⟩
      · rw [if_neg c]
        exact .inr ⟨by simpa using c, rfl⟩

set_option maxHeartbeats 1000000 in
theorem rroom_any (b : Nat) (v u : Value) (r : RS) (x : Int) (w : World) (h : RAt w b v u r) :
    Calls Try.prog 37 #[.pointer (some ⟨b, 0, none⟩), .int .i64 x] w fun e w' => e = .returned (.int .i64 (roomRes r.st x).2) ∧ w = w' := by
  have hkn := rknown_any b v u r x w h
  have hct := rcount_any b v u r x w h
  obtain ⟨ua, ucap, hu, hucap, hucm⟩ := Own.form h.us
  subst hu
  obtain ⟨a0, a1, a2⟩ := h.blk.c3
  have hl := h.ul
  obtain ⟨R, hR⟩ : ∃ R, (roomRes r.st x).2 = R := ⟨_, rfl⟩
  rw [hR]
  obtain ⟨m, hm⟩ : ∃ m, cnt r.L x = m := ⟨_, rfl⟩
  obtain ⟨cb, hcb⟩ : ∃ cb, r.U.contains x = cb := ⟨_, rfl⟩
  have key : (cb = false ∧ decide ((8 : Int) ≤ (r.U.length : Int)) = true ∧ (roomRes r.st x).2 = 12) ∨ ((cb = true ∨ cb = false ∧ decide ((8 : Int) ≤ (r.U.length : Int)) = false) ∧ (decide (6 ≤ m) = true ∧ (roomRes r.st x).2 = 13 ∨ decide (6 ≤ m) = false ∧ (roomRes r.st x).2 = 0)) := room_key r.st x (cb := cb) (m := m) hcb hm
  rw [hR] at key
  rw [hcb] at hkn
  rw [hm] at hct
  have Hkn := hide hkn
  have Hct := hide hct
  clear hkn hct h hm hcb hR
  rcases key with ⟨rfl, q1, rfl⟩ | ⟨rfl | ⟨rfl, q1⟩, ⟨q2, rfl⟩ | ⟨q2, rfl⟩⟩
  case inl =>
    go_enter Try.func37, Try.ntmps37
    go_wp2_with fail
    refine Hkn.out.mono ?_
    rintro e w1 ⟨rfl, rfl⟩
    go_wp2
    go_ret
    exact ⟨rfl, rfl⟩
  all_goals
    go_enter Try.func37, Try.ntmps37
    go_wp2_with fail
    refine Hkn.out.mono ?_
    rintro e w1 ⟨rfl, rfl⟩
    go_wp2_with fail
    refine Hct.out.mono ?_
    rintro e w1 ⟨rfl, rfl⟩
    go_wp2
    go_ret
    exact ⟨rfl, rfl⟩

theorem icells_app (U : List Int) (x : Int) : icells U ++ [.int .i64 x] = icells (U ++ [x]) := by simp [icells]

set_option maxHeartbeats 1000000 in
theorem rlearn_any (b : Nat) (v u : Value) (r : RS) (x : Int) (w : World) (h : RAt w b v u r) (hl : r.U.length ≤ 1000) :
    Calls Try.prog 38 #[.pointer (some ⟨b, 0, none⟩), .int .i64 x] w fun e w' => e = .returned (.tuple #[]) ∧ ∃ u', RAt w' b v u' { r with U := learn r.U x } ∧ Chg (fun k => k = b ∨ u.ownBlock = some k) w w' ∧ (∀ k, u'.ownBlock = some k → u.ownBlock = some k ∨ w.heap.size ≤ k) := by
  have hkn := rknown_any b v u r x w h
  obtain ⟨ua, ucap, hu, hucap, hucm⟩ := Own.form h.us
  subst hu
  obtain ⟨a0, a1, a2⟩ := h.blk.c3
  obtain ⟨U', hU'⟩ : ∃ U', learn r.U x = U' := ⟨_, rfl⟩
  rw [hU']
  unfold learn at hU'
  have H := hide h
  have hbl := h.blk.lt
  have z2 := h.blk.frozen 2
  by_cases hc : r.U.contains x = true
  · rw [if_pos hc] at hU'
    rw [hc] at hkn
    subst hU'
    have Hkn := hide hkn
    clear hkn h hc
    go_enter Try.func38, Try.ntmps38
    go_wp2_with fail
    refine Hkn.out.mono ?_
    rintro e w1 ⟨rfl, rfl⟩
    go_wp2
    refine bodyPost_end (results_none rfl _ _ _) rfl ?_
    exact ⟨rfl, _, H.out, Chg.refl _ _, fun k hk => .inl hk⟩
  · rw [if_neg hc] at hU'
    rw [show r.U.contains x = false by simpa using hc] at hkn
    have HU := hide hU'
    have Hkn := hide hkn
    have ho := (Own.alloc h.us (.cells #[.int .i64 x] 3))
    have hm : Own (w.alloc (.cells #[.int .i64 x] 3)) 3 1 (.slice (some ⟨w.heap.size, 0, none⟩) 1 1) 1 [.int .i64 x] 0 := Own.made w #[.int .i64 x] 3 1 1 0 rfl (by unfold maxLen; omega)
    have hsrc := Own.src (P := Try.prog) (tx := 30) (e' := 3) hm (by kernel_rfl) (by intro y hy; simp at hy; subst hy; rfl)
    have Ho := hide ho
    have Hsrc := hide hsrc
    clear hkn h hc hU' ho hm hsrc
    go_enter Try.func38, Try.ntmps38
    go_wp2_with fail
    refine Hkn.out.mono ?_
    rintro e w1 ⟨rfl, rfl⟩
    go_wp2_with (at_builtin; refine wpList_appAt 3 (.int .i64 0) 1 8 (by kernel_rfl) info3 rfl (.slice ua r.U.length ucap) r.U.length (icells r.U) 0 _ 1 [.int .i64 x] rfl rfl Ho.out (by omega) Hsrc.out (by unfold maxLen; omega) (by omega) ?_; intro u' w1 ho hc hn _; obtain ⟨fa, fc, rfl, _, _⟩ := Own.form ho; (have hc' := ((Chg.refl (fun k => (Value.slice ua r.U.length ucap).ownBlock = some k) w).alloc (.cells #[.int .i64 x] 3)).trans hc (fun _ _ h => h)); (have hnb : ¬ (Value.slice ua r.U.length ucap).ownBlock = some b := fun e => (H.out.u_ne e).1 rfl); (have k0 : w1.cell? ⟨b, 2, none⟩ = some (.slice ua r.U.length ucap) := (hc'.cell (p := ⟨b, 2, none⟩) hbl hnb).trans a2); (have kz : w1.frozen? ⟨b, 2, none⟩ = false := (H.out.blk.chg hc' hnb).frozen 2); (have kl : b < w1.heap.size := Nat.lt_of_lt_of_le hbl hc'.size); (have Ho1 := hide ho); (have Hc1 := hide hc'); (have Hn1 := hide hn); (have Hnb := hide hnb); clear ho hc hn hc' hnb)
    have ho := Ho1.out
    have hc' := Hc1.out
    have hn := Hn1.out
    have hnb := Hnb.out
    rw [icells_app] at ho
    obtain ⟨u', hu'⟩ : ∃ u', u' = Value.slice fa (r.U.length + 1) fc := ⟨_, rfl⟩
    rw [← hu'] at ho hn
    have hnew : ∀ k, u'.ownBlock = some k → (Value.slice ua r.U.length ucap).ownBlock = some k ∨ w.heap.size ≤ k := by
      intro k hk
      rcases hn k hk with h | h
      · exact .inl h
      · rw [World.size_alloc] at h
        exact .inr (by omega)
    have hfin := H.out.newU (u' := u') hc' hnb (fun k hk => (fun e => (H.out.v_ne hk).2.1 e)) (r.U ++ [x]) (by rw [List.length_append]; exact ho) (by simp; omega)
    rw [HU.out] at hfin
    have Hfin := hide hfin
    have Hc := hide ((hc'.mono (fun _ _ h => .inr h) : Chg (fun k => k = b ∨ (Value.slice ua r.U.length ucap).ownBlock = some k) _ _).setCell (p := ⟨b, 2, none⟩) (.inl (.inl rfl)) u')
    have Hnew := hide hnew
    subst hu'
    clear hfin hnew hn ho hc' hnb
    refine bodyPost_end (results_none rfl _ _ _) rfl ?_
    exact ⟨rfl, _, Hfin.out, Hc.out, Hnew.out⟩

end Go.Proofs.Ytljlbdbgocohlaa
