/- The document's put. -/
import Derived.Test.YtdcfpklohleoiaaDoorS
import Derived.BigQuiet
namespace Go.Proofs.YtdcfpklohleoiaaDoor
open Go.RowKit
set_option maxRecDepth 100000

structure PutAt (w wr : World) (v : Value) (u : V) (vO : Value) (O : List V) : Prop where
  g : w.grownBy wr none
  env : Blk wr w.heap.size 27 #[v, .slice none 0 0, .string ⟨#[]⟩]
  var : Blk wr (w.heap.size + 1) 35 #[.string ⟨u.n.toArray⟩, .string ⟨u.v.toArray⟩, .bool u.x, .bool u.r]
  res : Blk wr (w.heap.size + 1 + 1) 27 #[.slice none 0 0, .slice none 0 0, .string ⟨#[]⟩]
  out : Own wr 35 4 vO O.length (vcs O) 0
  far : ∀ b, vO.ownBlock = some b → w.heap.size + 3 ≤ b
theorem PutAt.add {w wr w' : World} {v v' : Value} {u x : V} {vO : Value} {O : List V} (h : PutAt w wr v u vO O) (o : Obj)
    (ho : Own w' 35 4 v' (O.length + 1) (vcs O ++ vcs [x]) 0) (hc : Chg (fun b => vO.ownBlock = some b) (wr.alloc o) w') (hn : ∀ b, v'.ownBlock = some b → vO.ownBlock = some b ∨ (wr.alloc o).heap.size ≤ b) : PutAt w w' v u v' (O ++ [x]) := by
  have hc' : Chg (fun b => vO.ownBlock = some b) wr w' := (Chg.alloc (Chg.refl _ wr) o).trans hc (fun _ _ h => h)
  have hlt := Blk.lt h.res
  refine ⟨((Chg.of_grown h.g (fun k hk => by cases hk)).trans hc' (fun _ _ h => h)).grown (fun k hk hS => by have := h.far k hS; omega), Blk.chg h.env hc' (fun e => by have := h.far _ e; omega), Blk.chg h.var hc' (fun e => by have := h.far _ e; omega), Blk.chg h.res hc' (fun e => by have := h.far _ e; omega), by rw [vcs_app, List.length_append]; exact ho, fun b hb => ?_⟩
  rcases hn b hb with h1 | h1
  · exact h.far b h1
  · rw [World.size_alloc] at h1; omega
theorem PutAt.drewN {w wr : World} {v : Value} {u : V} {vO : Value} {O : List V} (h : PutAt w wr v u vO O) (n : Nat) : PutAt w (wr.drewN n) v u vO O := ⟨only_drewN h.g n, h.env, h.var, h.res, h.out, h.far⟩
theorem PutAt.drew {w wr : World} {v : Value} {u : V} {vO : Value} {O : List V} (h : PutAt w wr v u vO O) : PutAt w wr.drew v u vO O := ⟨only_drew h.g, h.env, h.var, h.res, h.out, h.far⟩
theorem src1 (W : World) (b : Nat) (x : V) (hb : W.heap.size = b) : Src Tryd.prog 4 25 (.slice (some ⟨b, 0, none⟩) 1 1) 1 (vcs [x]) (W.alloc (.cells #[.string ⟨x.n.toArray⟩, .string ⟨x.v.toArray⟩, .bool x.x, .bool x.r] 35)) := by
  subst hb
  exact Own.src (P := Tryd.prog) (tx := 25) (e' := 35) (n := 1) (xs := vcs [x]) (k := 0) (e := 35) ⟨rfl, .inr ⟨W.heap.size, 0, 1, _, (0, 0), rfl, Blk.new W 35 _, Nat.le_refl _, Nat.le_refl _, by unfold maxLen; omega, by show 0 + 1 * 4 ≤ 4; omega, fun j hj => by rw [Nat.zero_add]; simp [vcs, V.cells, sv]⟩⟩ (by kernel_rfl) (vcs_one [x])
theorem res35 {w : World} {b : Nat} {x y z t : Value} (h : Blk w b 35 #[x, y, z, t]) : w.cell? ⟨b, 0, none⟩ = some x ∧ w.cell? ⟨b, 1, none⟩ = some y ∧ w.cell? ⟨b, 2, none⟩ = some z ∧ w.cell? ⟨b, 3, none⟩ = some t := ⟨Blk.cell h 0, Blk.cell h 1, Blk.cell h 2, Blk.cell h 3⟩
theorem putD_cons (d : Bool) (a : V) (l : List V) (v : V) : putD d (a :: l) v = (if d = false ∧ lts a.n v.n = false then [v] else []) ++ (if a.n = v.n then [] else [a]) ++ putD (d || !lts a.n v.n) l v := rfl

set_option maxHeartbeats 4000000 in
theorem put_any (vs : List V) (u : V) (v : Value) (w : World) (hl : vs.length ≤ 1000) (ho : Own w 35 4 v vs.length (vcs vs) 0) (hp : 0 < vs.length) :
    Calls Tryd.prog 46 #[envV v, .agg #[.string ⟨u.n.toArray⟩, .string ⟨u.v.toArray⟩, .bool u.x, .bool u.r]] w (EnvIs w (putD false vs u)) := by
  obtain ⟨g, off, cap, rfl, _, hg, hcs⟩ := v_cells ho hp
  have HC := hide hcs
  obtain ⟨R, hR⟩ : ∃ R, putD false vs u = R := ⟨_, rfl⟩
  rw [hR]
  have HP := hide (⟨only_alloc (only_alloc (only_alloc (only_refl w none) _) _) _, ((Blk.new w 27 #[.slice (some ⟨g, off, none⟩) vs.length cap, .slice none 0 0, .string ⟨#[]⟩]).alloc _).alloc _, (Blk.new1 w _ 35 #[.string ⟨u.n.toArray⟩, .string ⟨u.v.toArray⟩, .bool u.x, .bool u.r]).alloc _, Blk.new2 w _ _ 27 #[.slice none 0 0, .slice none 0 0, .string ⟨#[]⟩], Own.nil _ _ _ _, fun b hb => by cases hb⟩ : PutAt w (((w.alloc (.cells #[.slice (some ⟨g, off, none⟩) vs.length cap, .slice none 0 0, .string ⟨#[]⟩] 27)).alloc (.cells #[.string ⟨u.n.toArray⟩, .string ⟨u.v.toArray⟩, .bool u.x, .bool u.r] 35)).alloc (.cells #[.slice none 0 0, .slice none 0 0, .string ⟨#[]⟩] 27)) (.slice (some ⟨g, off, none⟩) vs.length cap) u (.slice none 0 0) [])
  have HR := hide hR
  clear ho hcs hR
  unfold envV
  go_enter Tryd.func46, Tryd.ntmps46
  go_wp2_with fail
  go_loopw [5, 6, 7] (fun v5 v6 v7 wr => ∃ (k : Nat) (d : Bool) (O : List V), v7 = .int .i64 k ∧ v6 = .bool d ∧ k ≤ vs.length ∧ O.length ≤ 2 * k ∧ O ++ putD d (vs.drop k) u = R ∧ PutAt w wr (.slice (some ⟨g, off, none⟩) vs.length cap) u v5 O) (fun _ _ v7 _ => vs.length - (intOf v7).toNat)
  case atStart => exact ⟨0, false, [], rfl, rfl, Nat.zero_le _, Nat.le_refl _, by simpa using HR.out, HP.out⟩
  case round =>
    obtain ⟨k, d, O, rfl, rfl, hk, hO, hinv, hP⟩ := hrel
    have HP := hide hP
    obtain ⟨a5, c5, rfl, _, _⟩ := hP.out.form
    obtain ⟨d0, d1, d2⟩ := res27 hP.env
    obtain ⟨e0, e1, e2, e3⟩ := res35 hP.var
    have lb0 := Blk.lt hP.env
    have lb1 := Blk.lt hP.var
    have lb2 := Blk.lt hP.res
    have hgs : g < wr.heap.size := Nat.lt_of_lt_of_le hg hP.g.size
    by_cases hlt : k < vs.length
    · have q0 : decide ((k : Int) < (vs.length : Int)) = true := decide_eq_true (by omega)
      have hib : (0 : Int) ≤ k ∧ (k : Int) < (vs.length : Int) := by omega
      have hdr := drop_at hlt
      obtain ⟨c0, c1, c2, c3⟩ := HC.out k hlt
      have c0 := old_cell hP.g hg c0
      have c1 := old_cell hP.g hg c1
      have c2 := old_cell hP.g hg c2
      have c3 := old_cell hP.g hg c3
      obtain ⟨x, hx⟩ : ∃ x, vs[k] = x := ⟨_, rfl⟩
      have hX := HC.out k hlt
      rw [hx] at c0 c1 c2 c3 hdr hX
      rw [hdr, putD_cons] at hinv
      obtain ⟨xn, xv, xx, xr⟩ := x
      obtain ⟨un, uv, ux, ur⟩ := u
      simp only [] at c0 c1 c2 c3 e0 e1 e2 e3 hinv
      simp only [] at hX
      have HX := hide hX
      clear hx hdr hP hX
      cases d with
      | true =>
        have ih1 : ¬ ((true : Bool) = false ∧ lts xn un = false) := fun h => by cases h.1
        rw [if_neg ih1, Bool.true_or] at hinv
        clear ih1
        by_cases hne : xn = un
        · have qq : (xn == un) = true := by rw [hne]; simp
          rw [if_pos hne] at hinv
          have hinv : O ++ putD true (vs.drop (k + 1)) ⟨un, uv, ux, ur⟩ = R := by simpa using hinv
          have HI := hide hinv
          have HQ := hide hne
          clear hinv hne
          go_wp2_with fail
          go_quiet (fail)
          go_wp2_with fail
          go_quiet (fail)
          go_wp2_with fail
          go_roundw
          case rel => exact ⟨k + 1, true, _, by go_num, rfl, by omega, by (try simp only [List.length_append, List.length_cons, List.length_nil]); omega, HI.out, (HP.out.drewN _)⟩
          case measure => simp [intOf]; omega
        · have qq : (xn == un) = false := beq_eq_false_iff_ne.2 hne
          rw [if_neg hne] at hinv
          have hinv : O ++ [⟨xn, xv, xx, xr⟩] ++ putD true (vs.drop (k + 1)) ⟨un, uv, ux, ur⟩ = R := by simpa using hinv
          have HI := hide hinv
          have HQ := hide hne
          clear hinv hne
          go_wp2_with fail
          go_quiet (fail)
          go_wp2_with fail
          go_quiet (fail)
          go_wp2_with (at_builtin; refine wpList_appAt 35 (.agg #[.string ⟨#[]⟩, .string ⟨#[]⟩, .bool false, .bool false]) 4 40 Tryd.underlying25 info35 rfl _ O.length (vcs O) 0 _ 1 (vcs [⟨xn, xv, xx, xr⟩]) rfl rfl (Own.alloc (HP.out.drewN _).out _) (by omega) (src1 _ _ ⟨xn, xv, xx, xr⟩ rfl) (by unfold maxLen; omega) (by omega) ?_; intro vA wA ho hc hn _; (have HPA := hide ((HP.out.drewN _).add _ ho hc hn)); clear ho hc hn)
          go_roundw
          case rel => exact ⟨k + 1, true, _, by go_num, rfl, by omega, by (try simp only [List.length_append, List.length_cons, List.length_nil]); omega, HI.out, HPA.out⟩
          case measure => simp [intOf]; omega
      | false =>
        by_cases hlt2 : lts xn un = true
        · have hne := lts_ne hlt2
          rw [if_neg (fun h => by rw [hlt2] at h; cases h.2)] at hinv
          have qq : (xn == un) = false := beq_eq_false_iff_ne.2 hne
          have ql : lts xn un = true := hlt2
          rw [ql, if_neg hne] at hinv
          have hinv : O ++ [⟨xn, xv, xx, xr⟩] ++ putD false (vs.drop (k + 1)) ⟨un, uv, ux, ur⟩ = R := by simpa using hinv
          have HI := hide hinv
          have HQ := hide hne
          clear hinv hne hlt2
          go_wp2_with fail
          go_quiet (fail)
          go_wp2_with fail
          go_quiet (fail)
          go_wp2_with (at_builtin; refine wpList_appAt 35 (.agg #[.string ⟨#[]⟩, .string ⟨#[]⟩, .bool false, .bool false]) 4 40 Tryd.underlying25 info35 rfl _ O.length (vcs O) 0 _ 1 (vcs [⟨xn, xv, xx, xr⟩]) rfl rfl (Own.alloc (HP.out.drewN _).out _) (by omega) (src1 _ _ ⟨xn, xv, xx, xr⟩ rfl) (by unfold maxLen; omega) (by omega) ?_; intro vA wA ho hc hn _; (have HPA := hide ((HP.out.drewN _).add _ ho hc hn)); clear ho hc hn)
          go_roundw
          case rel => exact ⟨k + 1, false, _, by go_num, rfl, by omega, by (try simp only [List.length_append, List.length_cons, List.length_nil]); omega, HI.out, HPA.out⟩
          case measure => simp [intOf]; omega
        · have hlt2 : lts xn un = false := by simpa using hlt2
          rw [if_pos ⟨rfl, hlt2⟩] at hinv
          by_cases hne : xn = un
          · have qq : (xn == un) = true := by rw [hne]; simp
            have ql : lts xn un = false := hlt2
            rw [ql, if_pos hne] at hinv
            have hinv : O ++ [⟨un, uv, ux, ur⟩] ++ putD true (vs.drop (k + 1)) ⟨un, uv, ux, ur⟩ = R := by simpa using hinv
            have HI := hide hinv
            have HQ := hide hne
            clear hinv hne hlt2
            go_wp2_with fail
            go_quiet (fail)
            go_wp2_with (at_builtin; refine wpList_appAt 35 (.agg #[.string ⟨#[]⟩, .string ⟨#[]⟩, .bool false, .bool false]) 4 40 Tryd.underlying25 info35 rfl _ O.length (vcs O) 0 _ 1 (vcs [⟨un, uv, ux, ur⟩]) rfl rfl (Own.alloc (HP.out.drewN _).out _) (by omega) (src1 _ _ ⟨un, uv, ux, ur⟩ rfl) (by unfold maxLen; omega) (by omega) ?_; intro vA wA ho hc hn _; (have HPA := hide ((HP.out.drewN _).add _ ho hc hn)); clear ho hc hn)
            obtain ⟨O2, hO2⟩ : ∃ O2, O ++ [(⟨un, uv, ux, ur⟩ : V)] = O2 := ⟨_, rfl⟩
            have hPA := HPA.out
            rw [hO2] at hPA
            have HPA := hide hPA
            have HI := hide (by have := HI.out; rw [hO2] at this; exact this)
            have bO2 : O2.length ≤ 2 * k + 1 := by rw [← hO2, List.length_append, List.length_singleton]; omega
            obtain ⟨a6, c6, rfl, _, _⟩ := hPA.out.form
            clear d0 d1 d2 e0 e1 e2 e3 c0 c1 c2 c3 lb0 lb1 lb2 hgs
            obtain ⟨d0, d1, d2⟩ := res27 hPA.env
            have lb0 := Blk.lt hPA.env
            obtain ⟨e0, e1, e2, e3⟩ := res35 hPA.var
            have lb1 := Blk.lt hPA.var
            have lb2 := Blk.lt hPA.res
            have hgs : g < wA.heap.size := Nat.lt_of_lt_of_le hg hPA.g.size
            obtain ⟨c0, c1, c2, c3⟩ := HX.out
            have c0 := old_cell hPA.g hg c0
            have c1 := old_cell hPA.g hg c1
            have c2 := old_cell hPA.g hg c2
            have c3 := old_cell hPA.g hg c3
            clear hPA hO2
            go_wp2_with fail
            go_quiet (fail)
            go_wp2_with fail
            go_roundw
            case rel => exact ⟨k + 1, true, _, by go_num, rfl, by omega, by (try simp only [List.length_append, List.length_cons, List.length_nil]); omega, HI.out, (HPA.out.drewN _)⟩
            case measure => simp [intOf]; omega
          · have qq : (xn == un) = false := beq_eq_false_iff_ne.2 hne
            have ql : lts xn un = false := hlt2
            rw [ql, if_neg hne] at hinv
            have hinv : O ++ [⟨un, uv, ux, ur⟩] ++ [⟨xn, xv, xx, xr⟩] ++ putD true (vs.drop (k + 1)) ⟨un, uv, ux, ur⟩ = R := by simpa using hinv
            have HI := hide hinv
            have HQ := hide hne
            clear hinv hne hlt2
            go_wp2_with fail
            go_quiet (fail)
            go_wp2_with (at_builtin; refine wpList_appAt 35 (.agg #[.string ⟨#[]⟩, .string ⟨#[]⟩, .bool false, .bool false]) 4 40 Tryd.underlying25 info35 rfl _ O.length (vcs O) 0 _ 1 (vcs [⟨un, uv, ux, ur⟩]) rfl rfl (Own.alloc (HP.out.drewN _).out _) (by omega) (src1 _ _ ⟨un, uv, ux, ur⟩ rfl) (by unfold maxLen; omega) (by omega) ?_; intro vA wA ho hc hn _; (have HPA := hide ((HP.out.drewN _).add _ ho hc hn)); clear ho hc hn)
            obtain ⟨O2, hO2⟩ : ∃ O2, O ++ [(⟨un, uv, ux, ur⟩ : V)] = O2 := ⟨_, rfl⟩
            have hPA := HPA.out
            rw [hO2] at hPA
            have HPA := hide hPA
            have HI := hide (by have := HI.out; rw [hO2] at this; exact this)
            have bO2 : O2.length ≤ 2 * k + 1 := by rw [← hO2, List.length_append, List.length_singleton]; omega
            obtain ⟨a6, c6, rfl, _, _⟩ := hPA.out.form
            clear d0 d1 d2 e0 e1 e2 e3 c0 c1 c2 c3 lb0 lb1 lb2 hgs
            obtain ⟨d0, d1, d2⟩ := res27 hPA.env
            have lb0 := Blk.lt hPA.env
            obtain ⟨e0, e1, e2, e3⟩ := res35 hPA.var
            have lb1 := Blk.lt hPA.var
            have lb2 := Blk.lt hPA.res
            have hgs : g < wA.heap.size := Nat.lt_of_lt_of_le hg hPA.g.size
            obtain ⟨c0, c1, c2, c3⟩ := HX.out
            have c0 := old_cell hPA.g hg c0
            have c1 := old_cell hPA.g hg c1
            have c2 := old_cell hPA.g hg c2
            have c3 := old_cell hPA.g hg c3
            clear hPA hO2
            go_wp2_with fail
            go_quiet (fail)
            go_wp2_with (at_builtin; refine wpList_appAt 35 (.agg #[.string ⟨#[]⟩, .string ⟨#[]⟩, .bool false, .bool false]) 4 40 Tryd.underlying25 info35 rfl _ O2.length (vcs O2) 0 _ 1 (vcs [⟨xn, xv, xx, xr⟩]) rfl rfl (Own.alloc (HPA.out.drewN _).out _) (by omega) (src1 _ _ ⟨xn, xv, xx, xr⟩ rfl) (by unfold maxLen; omega) (by omega) ?_; intro vB wB ho hc hn _; (have HPB := hide ((HPA.out.drewN _).add _ ho hc hn)); clear ho hc hn)
            go_roundw
            case rel => exact ⟨k + 1, true, _, by go_num, rfl, by omega, by (try simp only [List.length_append, List.length_cons, List.length_nil]); omega, HI.out, HPB.out⟩
            case measure => simp [intOf]; omega
    · obtain rfl : k = vs.length := by omega
      have q0 : decide ((vs.length : Int) < (vs.length : Int)) = false := decide_eq_false (by omega)
      rw [List.drop_eq_nil_of_le (Nat.le_refl _)] at hinv
      obtain ⟨r0, r1, r2⟩ := res27 hP.res
      have z0 := Blk.frozen hP.env 0
      have z1 := Blk.frozen hP.res 0
      have z2 := Blk.frozen hP.res 1
      have z3 := Blk.frozen hP.res 2
      obtain ⟨un, uv, ux, ur⟩ := u
      simp only [] at e0 e1 e2 e3 hinv
      clear hP
      cases d with
      | true =>
        have HI := hide (show O = R by simpa [putD] using hinv)
        clear hinv
        go_wp2_with fail
        have hff := fin27 (Blk.far HP.out.res (p := ⟨w.heap.size, 0, none⟩) (by show w.heap.size + 1 + 1 ≠ w.heap.size; omega) (.slice a5 O.length c5)) (.slice a5 O.length c5) (.slice none 0 0) (.string ⟨#[]⟩)
        have hgg := gr27 (none_setCell HP.out.g (p := ⟨w.heap.size, 0, none⟩) (Nat.le_refl _) (.slice a5 O.length c5)) (b := w.heap.size + 1 + 1) (by omega) (.slice a5 O.length c5) (.slice none 0 0) (.string ⟨#[]⟩)
        have hoo := far27 (Own.far HP.out.out (p := ⟨w.heap.size, 0, none⟩) (fun e => by have := HP.out.far _ e; simp only [] at this; omega) (.slice a5 O.length c5)) (b := w.heap.size + 1 + 1) (fun e => by have := HP.out.far _ e; omega) (.slice a5 O.length c5) (.slice none 0 0) (.string ⟨#[]⟩)
        generalize (((wr.setCell ⟨w.heap.size, 0, none⟩ (.slice a5 O.length c5)).setCell ⟨w.heap.size + 1 + 1, 0, none⟩ (.slice a5 O.length c5)).setCell ⟨w.heap.size + 1 + 1, 1, none⟩ (.slice none 0 0)).setCell ⟨w.heap.size + 1 + 1, 2, none⟩ (.string ⟨#[]⟩) = W9 at hff hgg hoo ⊢
        obtain ⟨f0, f1, f2⟩ := res27 hff
        refine bodyPost_ret (v := .agg #[(.slice a5 O.length c5), .slice none 0 0, .string ⟨#[]⟩]) (by simp [results, Tryd.results46, go_sem, f0, f1, f2]) rfl ?_
        exact ⟨_, rfl, by rw [← HI.out]; exact hoo, hgg⟩
      | false =>
        have HI := hide (show O ++ [⟨un, uv, ux, ur⟩] = R by simpa [putD] using hinv)
        clear hinv
        go_upto_region 13 with (at_builtin; refine wpList_appAt 35 (.agg #[.string ⟨#[]⟩, .string ⟨#[]⟩, .bool false, .bool false]) 4 40 Tryd.underlying25 info35 rfl _ O.length (vcs O) 0 _ 1 (vcs [⟨un, uv, ux, ur⟩]) rfl rfl (Own.alloc HP.out.out _) (by omega) (src1 _ _ ⟨un, uv, ux, ur⟩ rfl) (by unfold maxLen; omega) (by omega) ?_; intro vA wA ho hc hn _; (have HPA := hide (HP.out.add _ ho hc hn)); clear ho hc hn)
        obtain ⟨O2, hO2⟩ : ∃ O2, O ++ [(⟨un, uv, ux, ur⟩ : V)] = O2 := ⟨_, rfl⟩
        have hPA := HPA.out
        rw [hO2] at hPA
        have HPA := hide hPA
        have HI := hide (by have := HI.out; rw [hO2] at this; exact this)
        clear d0 d1 d2 r0 r1 r2 e0 e1 e2 e3 lb0 lb1 lb2 hgs z0 z1 z2 z3 hO2
        obtain ⟨a6, c6, rfl, _, _⟩ := hPA.out.form
        obtain ⟨d0, d1, d2⟩ := res27 hPA.env
        have lb0 := Blk.lt hPA.env
        have lb2 := Blk.lt hPA.res
        obtain ⟨r0, r1, r2⟩ := res27 hPA.res
        have z0 := Blk.frozen hPA.env 0
        have z1 := Blk.frozen hPA.res 0
        have z2 := Blk.frozen hPA.res 1
        have z3 := Blk.frozen hPA.res 2
        clear hPA
        go_wp2_with fail
        have hff := fin27 (Blk.far HPA.out.res (p := ⟨w.heap.size, 0, none⟩) (by show w.heap.size + 1 + 1 ≠ w.heap.size; omega) (.slice a6 O2.length c6)) (.slice a6 O2.length c6) (.slice none 0 0) (.string ⟨#[]⟩)
        have hgg := gr27 (none_setCell HPA.out.g (p := ⟨w.heap.size, 0, none⟩) (Nat.le_refl _) (.slice a6 O2.length c6)) (b := w.heap.size + 1 + 1) (by omega) (.slice a6 O2.length c6) (.slice none 0 0) (.string ⟨#[]⟩)
        have hoo := far27 (Own.far HPA.out.out (p := ⟨w.heap.size, 0, none⟩) (fun e => by have := HPA.out.far _ e; simp only [] at this; omega) (.slice a6 O2.length c6)) (b := w.heap.size + 1 + 1) (fun e => by have := HPA.out.far _ e; omega) (.slice a6 O2.length c6) (.slice none 0 0) (.string ⟨#[]⟩)
        generalize (((wA.setCell ⟨w.heap.size, 0, none⟩ (.slice a6 O2.length c6)).setCell ⟨w.heap.size + 1 + 1, 0, none⟩ (.slice a6 O2.length c6)).setCell ⟨w.heap.size + 1 + 1, 1, none⟩ (.slice none 0 0)).setCell ⟨w.heap.size + 1 + 1, 2, none⟩ (.string ⟨#[]⟩) = W9 at hff hgg hoo ⊢
        obtain ⟨f0, f1, f2⟩ := res27 hff
        refine bodyPost_ret (v := .agg #[(.slice a6 O2.length c6), .slice none 0 0, .string ⟨#[]⟩]) (by simp [results, Tryd.results46, go_sem, f0, f1, f2]) rfl ?_
        exact ⟨_, rfl, by rw [← HI.out]; exact hoo, hgg⟩

set_option maxHeartbeats 4000000 in
theorem put_nil (u : V) (v : Value) (w : World) (ho : Own w 35 4 v ([] : List V).length (vcs []) 0) :
    Calls Tryd.prog 46 #[envV v, .agg #[.string ⟨u.n.toArray⟩, .string ⟨u.v.toArray⟩, .bool u.x, .bool u.r]] w (EnvIs w [u]) := by
  obtain ⟨a, cap, rfl, _, _⟩ := ho.form
  simp only [List.length_nil]
  have HP := hide (⟨only_alloc (only_alloc (only_alloc (only_refl w none) _) _) _, ((Blk.new w 27 #[.slice a 0 cap, .slice none 0 0, .string ⟨#[]⟩]).alloc _).alloc _, (Blk.new1 w _ 35 #[.string ⟨u.n.toArray⟩, .string ⟨u.v.toArray⟩, .bool u.x, .bool u.r]).alloc _, Blk.new2 w _ _ 27 #[.slice none 0 0, .slice none 0 0, .string ⟨#[]⟩], Own.nil _ _ _ _, fun b hb => by cases hb⟩ : PutAt w (((w.alloc (.cells #[.slice a 0 cap, .slice none 0 0, .string ⟨#[]⟩] 27)).alloc (.cells #[.string ⟨u.n.toArray⟩, .string ⟨u.v.toArray⟩, .bool u.x, .bool u.r] 35)).alloc (.cells #[.slice none 0 0, .slice none 0 0, .string ⟨#[]⟩] 27)) (.slice a 0 cap) u (.slice none 0 0) [])
  clear ho
  unfold envV
  go_enter Tryd.func46, Tryd.ntmps46
  go_wp2_with fail
  go_loopw [5, 6, 7] (fun v5 v6 v7 wr => ∃ (O : List V), O = [] ∧ v7 = .int .i64 0 ∧ v6 = .bool false ∧ PutAt w wr (.slice a 0 cap) u v5 O) (fun _ _ _ _ => 0)
  case atStart => exact ⟨[], rfl, rfl, rfl, HP.out⟩
  case round =>
    obtain ⟨O, hOe, rfl, rfl, hP⟩ := hrel
    have hO : O.length ≤ 1 := by rw [hOe]; simp
    obtain ⟨un, uv, ux, ur⟩ := u
    have HI := hide (show O ++ [⟨un, uv, ux, ur⟩] = [⟨un, uv, ux, ur⟩] by rw [hOe]; rfl)
    have HP := hide hP
    clear hOe
    obtain ⟨a5, c5, rfl, _, _⟩ := hP.out.form
    obtain ⟨d0, d1, d2⟩ := res27 hP.env
    obtain ⟨e0, e1, e2, e3⟩ := res35 hP.var
    obtain ⟨r0, r1, r2⟩ := res27 hP.res
    have lb0 := Blk.lt hP.env
    have lb1 := Blk.lt hP.var
    have lb2 := Blk.lt hP.res
    simp only [] at e0 e1 e2 e3
    clear hP
    go_upto_region 13 with (at_builtin; refine wpList_appAt 35 (.agg #[.string ⟨#[]⟩, .string ⟨#[]⟩, .bool false, .bool false]) 4 40 Tryd.underlying25 info35 rfl _ O.length (vcs O) 0 _ 1 (vcs [⟨un, uv, ux, ur⟩]) rfl rfl (Own.alloc HP.out.out _) (by omega) (src1 _ _ ⟨un, uv, ux, ur⟩ rfl) (by unfold maxLen; omega) (by omega) ?_; intro vA wA ho hc hn _; (have HPA := hide (HP.out.add _ ho hc hn)); clear ho hc hn)
    obtain ⟨O2, hO2⟩ : ∃ O2, O ++ [(⟨un, uv, ux, ur⟩ : V)] = O2 := ⟨_, rfl⟩
    have hPA := HPA.out
    rw [hO2] at hPA
    have HPA := hide hPA
    have HI := hide (by have := HI.out; rw [hO2] at this; exact this)
    clear d0 d1 d2 r0 r1 r2 e0 e1 e2 e3 lb0 lb1 lb2 hO2
    obtain ⟨a6, c6, rfl, _, _⟩ := hPA.out.form
    obtain ⟨d0, d1, d2⟩ := res27 hPA.env
    have lb0 := Blk.lt hPA.env
    have lb2 := Blk.lt hPA.res
    obtain ⟨r0, r1, r2⟩ := res27 hPA.res
    have z0 := Blk.frozen hPA.env 0
    have z1 := Blk.frozen hPA.res 0
    have z2 := Blk.frozen hPA.res 1
    have z3 := Blk.frozen hPA.res 2
    clear hPA
    go_wp2_with fail
    have hff := fin27 (Blk.far HPA.out.res (p := ⟨w.heap.size, 0, none⟩) (by show w.heap.size + 1 + 1 ≠ w.heap.size; omega) (.slice a6 O2.length c6)) (.slice a6 O2.length c6) (.slice none 0 0) (.string ⟨#[]⟩)
    have hgg := gr27 (none_setCell HPA.out.g (p := ⟨w.heap.size, 0, none⟩) (Nat.le_refl _) (.slice a6 O2.length c6)) (b := w.heap.size + 1 + 1) (by omega) (.slice a6 O2.length c6) (.slice none 0 0) (.string ⟨#[]⟩)
    have hoo := far27 (Own.far HPA.out.out (p := ⟨w.heap.size, 0, none⟩) (fun e => by have := HPA.out.far _ e; simp only [] at this; omega) (.slice a6 O2.length c6)) (b := w.heap.size + 1 + 1) (fun e => by have := HPA.out.far _ e; omega) (.slice a6 O2.length c6) (.slice none 0 0) (.string ⟨#[]⟩)
    generalize (((wA.setCell ⟨w.heap.size, 0, none⟩ (.slice a6 O2.length c6)).setCell ⟨w.heap.size + 1 + 1, 0, none⟩ (.slice a6 O2.length c6)).setCell ⟨w.heap.size + 1 + 1, 1, none⟩ (.slice none 0 0)).setCell ⟨w.heap.size + 1 + 1, 2, none⟩ (.string ⟨#[]⟩) = W9 at hff hgg hoo ⊢
    obtain ⟨f0, f1, f2⟩ := res27 hff
    refine bodyPost_ret (v := .agg #[(.slice a6 O2.length c6), .slice none 0 0, .string ⟨#[]⟩]) (by simp [results, Tryd.results46, go_sem, f0, f1, f2]) rfl ?_
    exact ⟨_, rfl, by rw [← HI.out]; exact hoo, hgg⟩

theorem put_all (vs : List V) (u : V) (v : Value) (w : World) (hs : Srt vs) (hl : vs.length ≤ 1000) (ho : Own w 35 4 v vs.length (vcs vs) 0) :
    Calls Tryd.prog 46 #[envV v, .agg #[.string ⟨u.n.toArray⟩, .string ⟨u.v.toArray⟩, .bool u.x, .bool u.r]] w (EnvIs w (putF vs u)) := by
  rw [← putD_put hs u]
  by_cases hp : 0 < vs.length
  · exact put_any vs u v w hl ho hp
  · obtain rfl : vs = [] := List.eq_nil_of_length_eq_zero (by omega)
    exact put_nil u v w ho

end Go.Proofs.YtdcfpklohleoiaaDoor
