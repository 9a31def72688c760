/- The document's table: the walks of Fork. -/
import Derived.Test.YtljlbdbgocohlaaQ
namespace Go.Proofs.Ytljlbdbgocohlaa
open Go.RowKit Go.Maps

set_option maxHeartbeats 2000000 in
theorem rfork_some (b : Nat) (S : Nat → Prop) (r : RS) (par : Int) (w : World) (h : RIs w b S r) (hlast : 0 ≤ r.last ∧ r.last ≤ 1000000) (hlen : r.L.length < 1000000) (hU : r.U.length ≤ 1000) (n : Nat) (hl : liveN r.L par = some n) (hs : (roomRes r.st (r.L.getD n pr0).usr).2 = 0) :
    Calls Try.prog 27 #[.pointer (some ⟨b, 0, none⟩), .int .i64 par, .bool false] w fun e w' => e = .returned (.tuple #[.int .i64 (r.last + 1), .int .i64 0]) ∧ RTo w w' b S ⟨r.L ++ [child r.st par (r.L.getD n pr0) false], r.last + 1, learn r.U (r.L.getD n pr0).usr⟩ := by
  obtain ⟨v, u, h, rfl⟩ := h
  obtain ⟨g, off, cap, hv, hcap, hcm, hg⟩ := h.prs.at h.pos
  subst hv
  have hlive := rlive_any b _ u r par w h
  have hroom0 := hs
  clear hs
  obtain ⟨hi, hn, s, hs, hp, hd⟩ := liveN_some hl
  have hgd : r.L.getD n pr0 = s := getD_of hs
  rw [hgd] at hroom0 ⊢
  have hroom := rroom_any b _ u r s.usr w h
  rw [hroom0] at hroom
  have hlearn := rlearn_any b _ u r s.usr w h hU
  obtain ⟨F, hF⟩ : ∃ F : RS, (⟨r.L ++ [child r.st par s false], r.last + 1, learn r.U s.usr⟩ : RS) = F := ⟨_, rfl⟩
  rw [hF]
  obtain ⟨r2, hr2⟩ : ∃ r2 : RS, ({ r with U := learn r.U s.usr } : RS) = r2 := ⟨_, rfl⟩
  have hrl : r2.L = r.L := by rw [← hr2]
  have hla : r2.last = r.last := by rw [← hr2]
  have hF2 : F = ⟨r.L ++ [⟨r.last + 1, par, s.usr, s.ses, 0, false, false⟩], r.last + 1, r2.U⟩ := by rw [← hF, ← hr2]; rfl
  rw [hr2] at hlearn
  rw [hl] at hlive
  have Hl3 := hide hrl
  have Hla := hide hla
  have HF := hide hF2
  have H := hide h
  have Hl := hide hlive
  have Hs := hide hs
  have Hroom := hide hroom
  have Hlearn := hide hlearn
  have Hlast := hide hlast
  have Hlen := hide hlen
  obtain ⟨a0, a1, a2⟩ := h.blk.c3
  obtain ⟨c0, c1, c2, c3, c4, c5, c6⟩ := h.prs.c rfl hn hs
  have q0 : decide ((n : Int) < (0 : Int)) = false := by simp
  have hi2 : (0 : Int) ≤ n ∧ (n : Int) < (r.L.length : Int) := by omega
  clear hlive hl h hi hs hd hp hgd hroom hlearn hroom0 hF hr2 hrl hla hF2 hlast hlen
  go_enter Try.func27, Try.ntmps27
  go_wp2_with fail
  refine Hl.out.mono ?_
  unfold oi
  rintro e w1 ⟨rfl, rfl⟩
  go_wp2_with fail
  go_at_call 37
  refine Hroom.out.mono ?_
  rintro e w1 ⟨rfl, rfl⟩
  go_wp2_with fail
  go_at_call 38
  refine Hlearn.out.mono ?_
  rintro e w2 ⟨rfl, u2, hT2, hC2, hN⟩
  have HT2 := hide hT2
  have HC2 := hide (hC2.mono (fun k _ hk => hk.elim .inl (fun e => .inr (.inr e))) : Chg (rOwn b (.slice (some ⟨g, off, none⟩) r.L.length cap) u) w w2)
  have HN := hide hN
  clear hT2 hC2 hN c0 c1 c2 c3 c4 c5 c6 a0 a1 a2
  obtain ⟨a0, a1, a2⟩ := HT2.out.blk.c3
  rw [Hla.out] at a1
  have z1 := HT2.out.blk.frozen 1
  have q9 : wrap64 (r.last + 1) = r.last + 1 := by have := Hlast.out; unfold wrap64; omega
  go_wp2_with fail
  try rw [q9]
  have hT3 := HT2.out.setLast (r.last + 1)
  have hC3 : Chg (rOwn b (.slice (some ⟨g, off, none⟩) r.L.length cap) u) w (w2.setCell ⟨b, 1, none⟩ (.int .i64 (r.last + 1))) := HC2.out.setCell (p := ⟨b, 1, none⟩) (.inl (.inl rfl)) _
  have hl3 : r2.L = r.L := Hl3.out
  clear a0 a1 a2 z1 HT2 HC2
  generalize w2.setCell ⟨b, 1, none⟩ (.int .i64 (r.last + 1)) = w3 at hT3 hC3 ⊢
  obtain ⟨d0, d1, d2, d3, d4, d5, d6⟩ := hT3.prs.c (g := g) (off := off) (cap := cap) (by rw [hl3]) (n := n) (by rw [hl3]; exact hn) (by rw [hl3]; exact Hs.out)
  obtain ⟨a0, a1, a2⟩ := hT3.blk.c3
  have HT3 := hide hT3
  have HC3 := hide hC3
  have hbl : b < w3.heap.size := hT3.blk.lt
  have hgl : g < w3.heap.size := (hT3.v_ne (k := g) rfl).2.2
  obtain ⟨c, hc⟩ : ∃ c : Pr, (⟨r.last + 1, par, s.usr, s.ses, 0, false, false⟩ : Pr) = c := ⟨_, rfl⟩
  have Hc := hide hc
  clear hT3 hC3 hl3 hc
  refine wp_region_perm [0, 1, 2, 3, 4, 5, 6, 7, 8, 9, 10, 11, 12, 13, 14, 15, 16, 17, 19] [18, 20, 21, 22, 23, 24, 25] (by kernel_rfl) (by kernel_rfl) (fun w' => w'.cell? ⟨b, 0, none⟩ = some (.slice (some ⟨g, off, none⟩) r.L.length cap) ∧ w'.cell? ⟨b, 1, none⟩ = some (.int .i64 (r.last + 1))) ⟨a0, a1⟩ ?_
  simp only [pick, List.getElem?_cons_zero, List.getElem?_cons_succ]
  repeat
    refine wpTake_cons ?_ (by rfl) ?_ ?_
    rotate_left
    · (intro W hSW; obtain ⟨hS1, hS2⟩ := hSW; go_simp; try with_reducible rfl)
    simp only [Act.put, List.setIfInBounds_toArray, List.set_cons_zero, List.set_cons_succ]
  refine wpTake_nil ?_
  refine wpForce_cons fun K7 hK7 => ?_
  refine step_val (.int .i64 s.ses) w3.drew (by rfl) (by have hd3 : w3.drew.cell? ⟨g, off + n * 7 + 3, none⟩ = some (.int .i64 s.ses) := d3
                                                         go_simp) ?_
  refine hK7.out _ _ ⟨a0, a1⟩ ?_
  simp only [Act.put, List.setIfInBounds_toArray, List.set_cons_zero, List.set_cons_succ]
  refine wpForce_cons fun K8 hK8 => ?_
  refine step_val c.agg w3.drew (by rfl) (by rw [← Hc.out]; unfold Pr.agg; go_simp; try rfl) ?_
  refine hK8.out _ _ ⟨a0, a1⟩ ?_
  simp only [Act.put, List.setIfInBounds_toArray, List.set_cons_zero, List.set_cons_succ]
  refine wpForce_cons fun K1 hK1 => ?_
  refine step_val (.slice (some ⟨w3.heap.size, 0, none⟩) 1 1) (w3.drew.alloc (.cells c.cells.toArray 50)) (by rfl) (by unfold Pr.cells Pr.agg; go_simp; try rfl) ?_
  refine hK1.out _ _ ⟨drew_alloc_cell _ a0 hbl, drew_alloc_cell _ a1 hbl⟩ ?_
  simp only [Act.put, List.setIfInBounds_toArray, List.set_cons_zero, List.set_cons_succ]
  refine wpForce_cons fun K2 hK2 => ?_
  have hsrcO : Own (w3.drew.alloc (.cells c.cells.toArray 50)) 50 7 (.slice (some ⟨w3.heap.size, 0, none⟩) 1 1) 1 (pcs [c]) 0 := by
    have := Own.made w3.drew c.cells.toArray 50 7 1 0 rfl (by unfold maxLen; omega)
    rw [show c.cells.toArray.toList = pcs [c] from by simp [pcs]] at this
    exact this
  have hT5 := HT3.out.gr (only_alloc (only_drew (only_refl w3 none)) (.cells c.cells.toArray 50))
  have hlen5 : r2.L.length = r.L.length := by rw [Hl3.out]
  refine step_appAt (by rfl) (.tmp 70) (.tmp 87) 53 53 (by rfl) 50 pr0.agg 7 48 (by kernel_rfl) info50 rfl (.slice (some ⟨g, off, none⟩) r.L.length cap) r.L.length (pcs r2.L) 0 _ 1 (pcs [c]) (by rfl) (by rfl) (by have := hT5.prs; unfold PrsIs at this; rw [hlen5] at this; exact this) (by omega) (Own.src (e' := 50) hsrcO (by kernel_rfl) (pcs_one _)) (by have := Hlen.out; unfold maxLen; omega) (by have := Hlen.out; omega) ?_
  intro v' w5 ho hcc hnn _
  have hC5 : Chg (fun k => (Value.slice (some ⟨g, off, none⟩) r.L.length cap).ownBlock = some k) w3 w5 :=
    (((Chg.refl (fun k => (Value.slice (some ⟨g, off, none⟩) r.L.length cap).ownBlock = some k) w3).drew.alloc (.cells c.cells.toArray 50))).trans hcc (fun _ _ h => h)
  have hn5 : ∀ k, v'.ownBlock = some k → (Value.slice (some ⟨g, off, none⟩) r.L.length cap).ownBlock = some k ∨ w3.heap.size ≤ k := by
    intro k hk
    rcases hnn k hk with h | h
    · exact .inl h
    · rw [World.size_alloc] at h
      have : w3.drew.heap.size = w3.heap.size := rfl
      exact .inr (by omega)
  have hgb : ¬ (Value.slice (some ⟨g, off, none⟩) r.L.length cap).ownBlock = some b := fun e => (HT3.out.v_ne e).1 rfl
  have hTf := HT3.out.newL (v' := v') hC5 hgb (fun k hk e => (HT3.out.u_ne hk).2.1 e) (r2.L ++ [c]) (by
    unfold PrsIs
    rw [List.length_append, List.length_singleton, hlen5, pcs_append]
    exact ho) (by simp) (by have := Hlen.out; rw [List.length_append, List.length_singleton, hlen5]; omega)
  have hgg : (Value.slice (some ⟨g, off, none⟩) r.L.length cap).ownBlock = some g := rfl
  have zb : w5.frozen? ⟨b, 0, none⟩ = false := (HT3.out.blk.chg hC5 hgb).frozen 0
  have u0 : w5.cell? ⟨b, 0, none⟩ = some (.slice (some ⟨g, off, none⟩) r.L.length cap) := (hC5.cell (p := ⟨b, 0, none⟩) hbl hgb).trans a0
  have u1 : w5.cell? ⟨b, 1, none⟩ = some (.int .i64 (r.last + 1)) := (hC5.cell (p := ⟨b, 1, none⟩) hbl hgb).trans a1
  have hb5 : b < w5.heap.size := Nat.lt_of_lt_of_le hbl hC5.size
  refine hK2.out _ _ ⟨u0, u1⟩ ?_
  simp only [Act.put, List.setIfInBounds_toArray, List.set_cons_zero, List.set_cons_succ]
  refine wpForce_cons fun K3 hK3 => ?_
  refine step_val (.pointer (some ⟨b, 0, none⟩)) w5 (by rfl) (by go_simp) ?_
  refine hK3.out _ _ ⟨u0, u1⟩ ?_
  simp only [Act.put, List.setIfInBounds_toArray, List.set_cons_zero, List.set_cons_succ]
  refine wpForce_cons fun K4 hK4 => ?_
  refine step_val (.pointer (some ⟨b, 0, none⟩)) w5 (by rfl) (by go_simp) ?_
  refine hK4.out _ _ ⟨u0, u1⟩ ?_
  simp only [Act.put, List.setIfInBounds_toArray, List.set_cons_zero, List.set_cons_succ]
  refine wpForce_one ?_
  have hCf : Chg (rOwn b (.slice (some ⟨g, off, none⟩) r.L.length cap) u) w (w5.setCell ⟨b, 0, none⟩ v') := (HC3.out.trans hC5 (fun k _ h => .inr (.inl h))).setCell (p := ⟨b, 0, none⟩) (.inl (.inl rfl)) _
  have hnf : ∀ k, rOwn b v' u2 k → rOwn b (.slice (some ⟨g, off, none⟩) r.L.length cap) u k ∨ w.heap.size ≤ k := by
    rintro k (h | h | h)
    · exact .inl (.inl h)
    · rcases hn5 k h with h | h
      · exact .inl (.inr (.inl h))
      · exact .inr (Nat.le_trans HC3.out.size h)
    · exact (HN.out k h).elim (fun e => .inl (.inr (.inr e))) .inr
  obtain ⟨fo, fc, hvf, _, _⟩ := ho.form
  subst hvf
  obtain ⟨f0, f1, f2⟩ := hTf.blk.c3
  have Hfin := hide (RTo.mk H.out hTf hCf hnf)
  clear hK1 hK2 hK3 hK4 hK7 hK8 K1 K2 K3 K4 K7 K8 hCf hnf hTf hC5 hn5 hnn ho hcc hT5 hsrcO
  go_wp2
  refine NoPanic.normal ?_
  go_wp2
  go_ret2
  rw [HF.out, Hc.out]
  exact ⟨rfl, by have := Hfin.out; rw [Hl3.out] at this; exact this⟩

set_option maxHeartbeats 2000000 in
theorem rfork_none (b : Nat) (S : Nat → Prop) (r : RS) (par : Int) (res : Bool) (w : World) (h : RIs w b S r) (hl : liveN r.L par = none) :
    Calls Try.prog 27 #[.pointer (some ⟨b, 0, none⟩), .int .i64 par, .bool res] w fun e w' => e = .returned (.tuple #[.int .i64 0, .int .i64 3]) ∧ RTo w w' b S r := by
  obtain ⟨v, u, h, rfl⟩ := h
  obtain ⟨g, off, cap, hv, hcap, hcm, hg⟩ := h.prs.at h.pos
  subst hv
  have hlive := rlive_any b _ u r par w h
  have H := hide h
  rw [hl] at hlive
  have Hl := hide hlive
  clear hlive hl h
  go_enter Try.func27, Try.ntmps27
  go_wp2_with fail
  refine Hl.out.mono ?_
  unfold oi
  rintro e w1 ⟨rfl, rfl⟩
  go_wp2
  go_ret2
  exact ⟨rfl, RTo.gr ⟨_, _, H.out, rfl⟩ (only_refl _ _)⟩

set_option maxHeartbeats 2000000 in
theorem rfork_perm (b : Nat) (S : Nat → Prop) (r : RS) (par : Int) (w : World) (h : RIs w b S r) (n : Nat) (hl : liveN r.L par = some n) (h1 : par ≠ 1) :
    Calls Try.prog 27 #[.pointer (some ⟨b, 0, none⟩), .int .i64 par, .bool true] w fun e w' => e = .returned (.tuple #[.int .i64 0, .int .i64 2]) ∧ RTo w w' b S r := by
  obtain ⟨v, u, h, rfl⟩ := h
  obtain ⟨g, off, cap, hv, hcap, hcm, hg⟩ := h.prs.at h.pos
  subst hv
  have hlive := rlive_any b _ u r par w h
  have H := hide h
  obtain ⟨hi, hn, s, hs, hp, hd⟩ := liveN_some hl
  have hgd : r.L.getD n pr0 = s := getD_of hs
  rw [hl] at hlive
  have Hl := hide hlive
  have Hs := hide hs
  obtain ⟨a0, a1, a2⟩ := h.blk.c3
  obtain ⟨c0, c1, c2, c3, c4, c5, c6⟩ := h.prs.c rfl hn hs
  have q0 : decide ((n : Int) < (0 : Int)) = false := by simp
  have hi2 : (0 : Int) ≤ n ∧ (n : Int) < (r.L.length : Int) := by omega
  have q1 : (par == 1) = false := by simpa using h1
  have q1n : (par != 1) = true := by simpa using h1
  clear hlive hl h h1 hi hs hp hd hgd
  go_enter Try.func27, Try.ntmps27
  go_wp2_with fail
  refine Hl.out.mono ?_
  unfold oi
  rintro e w1 ⟨rfl, rfl⟩
  go_wp2
  go_ret2
  exact ⟨rfl, RTo.gr ⟨_, _, H.out, rfl⟩ (only_refl _ _)⟩

set_option maxHeartbeats 2000000 in
theorem rfork_full (b : Nat) (S : Nat → Prop) (r : RS) (w : World) (h : RIs w b S r) (n : Nat) (hl : liveN r.L 1 = some n) (h5 : 5 ≤ rcnt r.L) (hlen : r.L.length < 1000000) :
    Calls Try.prog 27 #[.pointer (some ⟨b, 0, none⟩), .int .i64 1, .bool true] w fun e w' => e = .returned (.tuple #[.int .i64 0, .int .i64 12]) ∧ RTo w w' b S r := by
  obtain ⟨v, u, h, rfl⟩ := h
  obtain ⟨g, off, cap, hv, hcap, hcm, hg⟩ := h.prs.at h.pos
  subst hv
  have hlive := rlive_any b _ u r 1 w h
  have H := hide h
  obtain ⟨hi, hn, s, hs, hp, hd⟩ := liveN_some hl
  have hgd : r.L.getD n pr0 = s := getD_of hs
  rw [hl] at hlive
  have Hl := hide hlive
  have Hs := hide hs
  obtain ⟨a0, a1, a2⟩ := h.blk.c3
  obtain ⟨c0, c1, c2, c3, c4, c5, c6⟩ := h.prs.c rfl hn hs
  have q0 : decide ((n : Int) < (0 : Int)) = false := by simp
  have hi2 : (0 : Int) ≤ n ∧ (n : Int) < (r.L.length : Int) := by omega
  have Hlen := hide hlen
  clear hlive hl h hi hs hp hd hgd hlen
  go_enter Try.func27, Try.ntmps27
  go_wp2_with fail
  refine Hl.out.mono ?_
  unfold oi
  rintro e w1 ⟨rfl, rfl⟩
  go_wp2_with fail
  go_loopw [10, 11] (fun u1 u2 wr => ∃ (k : Nat) (m : Int), u1 = .int .i64 m ∧ u2 = .int .i64 k ∧ k ≤ r.L.length ∧ 0 ≤ m ∧ m ≤ k ∧ m = rcnt (r.L.take k) ∧ w = wr) (fun _ u _ => r.L.length - (intOf u).toNat)
  case atStart => exact ⟨0, 0, rfl, rfl, by omega, by omega, by omega, rfl, rfl⟩
  case round =>
    obtain ⟨k, m, rfl, rfl, hk, hm0, hm1, hm, rfl⟩ := hrel
    have Hm := hide hm
    clear hm
    have hlen0 := Hlen.out
    by_cases hlt : k < r.L.length
    · obtain ⟨t, ht⟩ : ∃ s, r.L[k]? = some s := ⟨_, List.getElem?_eq_getElem hlt⟩
      obtain ⟨c0, c1, c2, c3, c4, c5, c6⟩ := H.out.prs.c rfl hlt ht
      have q0 : decide ((k : Int) < (r.L.length : Int)) = true := by simp; omega
      have hi : (0 : Int) ≤ k ∧ (k : Int) < (r.L.length : Int) := by omega
      have hct := rcnt_take ht
      clear ht
      cases hr : t.res with
      | true =>
        rw [hr] at c6
        have h1 : m + 1 = rcnt (r.L.take (k + 1)) := by rw [hct, ← Hm.out]; simp [rind, hr]
        have H1 := hide h1
        clear hct h1 hr
        go_wp2_with fail
        go_roundw
        case rel => exact ⟨k + 1, m + 1, by go_num, by go_num, by omega, by omega, by omega, H1.out, (by first | rfl | trivial)⟩
        case measure => simp [intOf]; omega
      | false =>
        rw [hr] at c6
        have h1 : m = rcnt (r.L.take (k + 1)) := by rw [hct, ← Hm.out]; simp [rind, hr]
        have H1 := hide h1
        clear hct h1 hr
        go_wp2_with fail
        go_roundw
        case rel => exact ⟨k + 1, m, rfl, by go_num, by omega, by omega, by omega, H1.out, (by first | rfl | trivial)⟩
        case measure => simp [intOf]; omega
    · have q0 : decide ((k : Int) < (r.L.length : Int)) = false := by simp; omega
      have h1 : m = rcnt r.L := by rw [Hm.out, List.take_of_length_le (by omega)]
      rw [← h1] at h5
      have q5 : decide (5 ≤ m) = true := by simpa using h5
      clear h5 h1
      go_wp2
      go_ret2
      exact ⟨rfl, RTo.gr ⟨_, _, H.out, rfl⟩ (only_refl _ _)⟩

set_option maxHeartbeats 2000000 in
theorem rfork_noroom (b : Nat) (S : Nat → Prop) (r : RS) (par : Int) (w : World) (h : RIs w b S r) (n : Nat) (hl : liveN r.L par = some n) (hr : (roomRes r.st (r.L.getD n pr0).usr).2 ≠ 0) :
    Calls Try.prog 27 #[.pointer (some ⟨b, 0, none⟩), .int .i64 par, .bool false] w fun e w' => e = .returned (.tuple #[.int .i64 0, .int .i64 (roomRes r.st (r.L.getD n pr0).usr).2]) ∧ RTo w w' b S r := by
  obtain ⟨v, u, h, rfl⟩ := h
  obtain ⟨g, off, cap, hv, hcap, hcm, hg⟩ := h.prs.at h.pos
  subst hv
  have hlive := rlive_any b _ u r par w h
  have H := hide h
  obtain ⟨hi, hn, s, hs, hp, hd⟩ := liveN_some hl
  have hgd : r.L.getD n pr0 = s := getD_of hs
  rw [hl] at hlive
  have Hl := hide hlive
  have Hs := hide hs
  obtain ⟨a0, a1, a2⟩ := h.blk.c3
  obtain ⟨c0, c1, c2, c3, c4, c5, c6⟩ := h.prs.c rfl hn hs
  have q0 : decide ((n : Int) < (0 : Int)) = false := by simp
  have hi2 : (0 : Int) ≤ n ∧ (n : Int) < (r.L.length : Int) := by omega
  rw [hgd] at hr ⊢
  have hroom := rroom_any b _ u r s.usr w h
  obtain ⟨R, hR⟩ : ∃ R, (roomRes r.st s.usr).2 = R := ⟨_, rfl⟩
  rw [hR] at hr hroom ⊢
  have q5 : (R == 0) = false := by simpa using hr
  have q6 : (R != 0) = true := by simpa using hr
  have Hroom := hide hroom
  clear hlive hl h hi hs hp hd hgd hr hR hroom
  go_enter Try.func27, Try.ntmps27
  go_wp2_with fail
  refine Hl.out.mono ?_
  unfold oi
  rintro e w1 ⟨rfl, rfl⟩
  go_wp2_with fail
  go_at_call 37
  refine Hroom.out.mono ?_
  rintro e w1 ⟨rfl, rfl⟩
  go_wp2
  go_ret2
  exact ⟨rfl, RTo.gr ⟨_, _, H.out, rfl⟩ (only_refl _ _)⟩

set_option maxHeartbeats 2000000 in
theorem rfork_res (b : Nat) (S : Nat → Prop) (r : RS) (w : World) (h : RIs w b S r) (hlast : 0 ≤ r.last ∧ r.last ≤ 1000000) (hlen : r.L.length < 1000000) (n : Nat) (hl : liveN r.L 1 = some n) (h5 : ¬ 5 ≤ rcnt r.L) :
    Calls Try.prog 27 #[.pointer (some ⟨b, 0, none⟩), .int .i64 1, .bool true] w fun e w' => e = .returned (.tuple #[.int .i64 (r.last + 1), .int .i64 0]) ∧ RTo w w' b S ⟨r.L ++ [child r.st 1 (r.L.getD n pr0) true], r.last + 1, r.U⟩ := by
  obtain ⟨v, u, h, rfl⟩ := h
  obtain ⟨g, off, cap, hv, hcap, hcm, hg⟩ := h.prs.at h.pos
  subst hv
  have hlive := rlive_any b _ u r 1 w h
  have H := hide h
  obtain ⟨hi, hn, s, hs, hp, hd⟩ := liveN_some hl
  have hgd : r.L.getD n pr0 = s := getD_of hs
  rw [hl] at hlive
  have Hl := hide hlive
  have Hs := hide hs
  obtain ⟨a0, a1, a2⟩ := h.blk.c3
  obtain ⟨c0, c1, c2, c3, c4, c5, c6⟩ := h.prs.c rfl hn hs
  have q0 : decide ((n : Int) < (0 : Int)) = false := by simp
  have hi2 : (0 : Int) ≤ n ∧ (n : Int) < (r.L.length : Int) := by omega
  rw [hgd]
  obtain ⟨F, hF⟩ : ∃ F : RS, (⟨r.L ++ [child r.st 1 s true], r.last + 1, r.U⟩ : RS) = F := ⟨_, rfl⟩
  rw [hF]
  have hF2 : F = ⟨r.L ++ [⟨r.last + 1, 1, s.usr, s.ses, 0, false, true⟩], r.last + 1, r.U⟩ := by rw [← hF]; rfl
  have HF := hide hF2
  have Hlen := hide hlen
  have Hlast := hide hlast
  clear hlive hl h hi hs hp hd hgd hlen hlast hF hF2
  go_enter Try.func27, Try.ntmps27
  go_wp2_with fail
  refine Hl.out.mono ?_
  unfold oi
  rintro e w1 ⟨rfl, rfl⟩
  go_wp2_with fail
  go_loopw [10, 11] (fun u1 u2 wr => ∃ (k : Nat) (m : Int), u1 = .int .i64 m ∧ u2 = .int .i64 k ∧ k ≤ r.L.length ∧ 0 ≤ m ∧ m ≤ k ∧ m = rcnt (r.L.take k) ∧ w = wr) (fun _ u _ => r.L.length - (intOf u).toNat)
  case atStart => exact ⟨0, 0, rfl, rfl, by omega, by omega, by omega, rfl, rfl⟩
  case round =>
    obtain ⟨k, m, rfl, rfl, hk, hm0, hm1, hm, rfl⟩ := hrel
    have Hm := hide hm
    clear hm
    have hlen0 := Hlen.out
    by_cases hlt : k < r.L.length
    · obtain ⟨t, ht⟩ : ∃ s, r.L[k]? = some s := ⟨_, List.getElem?_eq_getElem hlt⟩
      obtain ⟨c0, c1, c2, c3, c4, c5, c6⟩ := H.out.prs.c rfl hlt ht
      have q0 : decide ((k : Int) < (r.L.length : Int)) = true := by simp; omega
      have hi : (0 : Int) ≤ k ∧ (k : Int) < (r.L.length : Int) := by omega
      have hct := rcnt_take ht
      clear ht
      cases hr : t.res with
      | true =>
        rw [hr] at c6
        have h1 : m + 1 = rcnt (r.L.take (k + 1)) := by rw [hct, ← Hm.out]; simp [rind, hr]
        have H1 := hide h1
        clear hct h1 hr
        go_wp2_with fail
        go_roundw
        case rel => exact ⟨k + 1, m + 1, by go_num, by go_num, by omega, by omega, by omega, H1.out, (by first | rfl | trivial)⟩
        case measure => simp [intOf]; omega
      | false =>
        rw [hr] at c6
        have h1 : m = rcnt (r.L.take (k + 1)) := by rw [hct, ← Hm.out]; simp [rind, hr]
        have H1 := hide h1
        clear hct h1 hr
        go_wp2_with fail
        go_roundw
        case rel => exact ⟨k + 1, m, rfl, by go_num, by omega, by omega, by omega, H1.out, (by first | rfl | trivial)⟩
        case measure => simp [intOf]; omega
    · have q0 : decide ((k : Int) < (r.L.length : Int)) = false := by simp; omega
      have h1 : m = rcnt r.L := by rw [Hm.out, List.take_of_length_le (by omega)]
      rw [← h1] at h5
      have q5 : decide (5 ≤ m) = false := by simpa using h5
      clear h5 h1 a0 a1 a2 c0 c1 c2 c3 c4 c5 c6
      have HT2 := H
      have HC2 := hide (Chg.refl (rOwn b (.slice (some ⟨g, off, none⟩) r.L.length cap) u) w)
      have HN : Hid (∀ k, u.ownBlock = some k → u.ownBlock = some k ∨ w.heap.size ≤ k) := hide (fun k hk => .inl hk)
      clear Hm
      obtain ⟨a0, a1, a2⟩ := HT2.out.blk.c3
      have z1 := HT2.out.blk.frozen 1
      have q9 : wrap64 (r.last + 1) = r.last + 1 := by have := Hlast.out; unfold wrap64; omega
      go_wp2_with fail
      try rw [q9]
      have hT3 := HT2.out.setLast (r.last + 1)
      have hC3 : Chg (rOwn b (.slice (some ⟨g, off, none⟩) r.L.length cap) u) w (w.setCell ⟨b, 1, none⟩ (.int .i64 (r.last + 1))) := HC2.out.setCell (p := ⟨b, 1, none⟩) (.inl (.inl rfl)) _
      have hl3 : r.L = r.L := rfl
      clear a0 a1 a2 z1 HT2 HC2
      generalize w.setCell ⟨b, 1, none⟩ (.int .i64 (r.last + 1)) = w3 at hT3 hC3 ⊢
      obtain ⟨d0, d1, d2, d3, d4, d5, d6⟩ := hT3.prs.c (g := g) (off := off) (cap := cap) (by rw [hl3]) (n := n) (by rw [hl3]; exact hn) (by rw [hl3]; exact Hs.out)
      obtain ⟨a0, a1, a2⟩ := hT3.blk.c3
      have HT3 := hide hT3
      have HC3 := hide hC3
      have hbl : b < w3.heap.size := hT3.blk.lt
      have hgl : g < w3.heap.size := (hT3.v_ne (k := g) rfl).2.2
      obtain ⟨c, hc⟩ : ∃ c : Pr, (⟨r.last + 1, 1, s.usr, s.ses, 0, false, true⟩ : Pr) = c := ⟨_, rfl⟩
      have Hc := hide hc
      clear hT3 hC3 hl3 hc
      refine wp_region_perm [0, 1, 2, 3, 4, 5, 6, 7, 8, 9, 10, 11, 12, 13, 14, 15, 16, 17, 19] [18, 20, 21, 22, 23, 24, 25] (by kernel_rfl) (by kernel_rfl) (fun w' => w'.cell? ⟨b, 0, none⟩ = some (.slice (some ⟨g, off, none⟩) r.L.length cap) ∧ w'.cell? ⟨b, 1, none⟩ = some (.int .i64 (r.last + 1))) ⟨a0, a1⟩ ?_
      simp only [pick, List.getElem?_cons_zero, List.getElem?_cons_succ]
      repeat
        refine wpTake_cons ?_ (by rfl) ?_ ?_
        rotate_left
        · (intro W hSW; obtain ⟨hS1, hS2⟩ := hSW; go_simp; try with_reducible rfl)
        simp only [Act.put, List.setIfInBounds_toArray, List.set_cons_zero, List.set_cons_succ]
      refine wpTake_nil ?_
      refine wpForce_cons fun K7 hK7 => ?_
      refine step_val (.int .i64 s.ses) w3.drew (by rfl) (by have hd3 : w3.drew.cell? ⟨g, off + n * 7 + 3, none⟩ = some (.int .i64 s.ses) := d3
                                                             go_simp) ?_
      refine hK7.out _ _ ⟨a0, a1⟩ ?_
      simp only [Act.put, List.setIfInBounds_toArray, List.set_cons_zero, List.set_cons_succ]
      refine wpForce_cons fun K8 hK8 => ?_
      refine step_val c.agg w3.drew (by rfl) (by rw [← Hc.out]; unfold Pr.agg; go_simp; try rfl) ?_
      refine hK8.out _ _ ⟨a0, a1⟩ ?_
      simp only [Act.put, List.setIfInBounds_toArray, List.set_cons_zero, List.set_cons_succ]
      refine wpForce_cons fun K1 hK1 => ?_
      refine step_val (.slice (some ⟨w3.heap.size, 0, none⟩) 1 1) (w3.drew.alloc (.cells c.cells.toArray 50)) (by rfl) (by unfold Pr.cells Pr.agg; go_simp; try rfl) ?_
      refine hK1.out _ _ ⟨drew_alloc_cell _ a0 hbl, drew_alloc_cell _ a1 hbl⟩ ?_
      simp only [Act.put, List.setIfInBounds_toArray, List.set_cons_zero, List.set_cons_succ]
      refine wpForce_cons fun K2 hK2 => ?_
      have hsrcO : Own (w3.drew.alloc (.cells c.cells.toArray 50)) 50 7 (.slice (some ⟨w3.heap.size, 0, none⟩) 1 1) 1 (pcs [c]) 0 := by
        have := Own.made w3.drew c.cells.toArray 50 7 1 0 rfl (by unfold maxLen; omega)
        rw [show c.cells.toArray.toList = pcs [c] from by simp [pcs]] at this
        exact this
      have hT5 := HT3.out.gr (only_alloc (only_drew (only_refl w3 none)) (.cells c.cells.toArray 50))
      have hlen5 : r.L.length = r.L.length := rfl
      refine step_appAt (by rfl) (.tmp 70) (.tmp 87) 53 53 (by rfl) 50 pr0.agg 7 48 (by kernel_rfl) info50 rfl (.slice (some ⟨g, off, none⟩) r.L.length cap) r.L.length (pcs r.L) 0 _ 1 (pcs [c]) (by rfl) (by rfl) (by have := hT5.prs; unfold PrsIs at this; rw [hlen5] at this; exact this) (by omega) (Own.src (e' := 50) hsrcO (by kernel_rfl) (pcs_one _)) (by have := Hlen.out; unfold maxLen; omega) (by have := Hlen.out; omega) ?_
      intro v' w5 ho hcc hnn _
      have hC5 : Chg (fun k => (Value.slice (some ⟨g, off, none⟩) r.L.length cap).ownBlock = some k) w3 w5 :=
        (((Chg.refl (fun k => (Value.slice (some ⟨g, off, none⟩) r.L.length cap).ownBlock = some k) w3).drew.alloc (.cells c.cells.toArray 50))).trans hcc (fun _ _ h => h)
      have hn5 : ∀ k, v'.ownBlock = some k → (Value.slice (some ⟨g, off, none⟩) r.L.length cap).ownBlock = some k ∨ w3.heap.size ≤ k := by
        intro k hk
        rcases hnn k hk with h | h
        · exact .inl h
        · rw [World.size_alloc] at h
          have : w3.drew.heap.size = w3.heap.size := rfl
          exact .inr (by omega)
      have hgb : ¬ (Value.slice (some ⟨g, off, none⟩) r.L.length cap).ownBlock = some b := fun e => (HT3.out.v_ne e).1 rfl
      have hTf := HT3.out.newL (v' := v') hC5 hgb (fun k hk e => (HT3.out.u_ne hk).2.1 e) (r.L ++ [c]) (by
        unfold PrsIs
        rw [List.length_append, List.length_singleton, hlen5, pcs_append]
        exact ho) (by simp) (by have := Hlen.out; rw [List.length_append, List.length_singleton, hlen5]; omega)
      have hgg : (Value.slice (some ⟨g, off, none⟩) r.L.length cap).ownBlock = some g := rfl
      have zb : w5.frozen? ⟨b, 0, none⟩ = false := (HT3.out.blk.chg hC5 hgb).frozen 0
      have u0 : w5.cell? ⟨b, 0, none⟩ = some (.slice (some ⟨g, off, none⟩) r.L.length cap) := (hC5.cell (p := ⟨b, 0, none⟩) hbl hgb).trans a0
      have u1 : w5.cell? ⟨b, 1, none⟩ = some (.int .i64 (r.last + 1)) := (hC5.cell (p := ⟨b, 1, none⟩) hbl hgb).trans a1
      have hb5 : b < w5.heap.size := Nat.lt_of_lt_of_le hbl hC5.size
      refine hK2.out _ _ ⟨u0, u1⟩ ?_
      simp only [Act.put, List.setIfInBounds_toArray, List.set_cons_zero, List.set_cons_succ]
      refine wpForce_cons fun K3 hK3 => ?_
      refine step_val (.pointer (some ⟨b, 0, none⟩)) w5 (by rfl) (by go_simp) ?_
      refine hK3.out _ _ ⟨u0, u1⟩ ?_
      simp only [Act.put, List.setIfInBounds_toArray, List.set_cons_zero, List.set_cons_succ]
      refine wpForce_cons fun K4 hK4 => ?_
      refine step_val (.pointer (some ⟨b, 0, none⟩)) w5 (by rfl) (by go_simp) ?_
      refine hK4.out _ _ ⟨u0, u1⟩ ?_
      simp only [Act.put, List.setIfInBounds_toArray, List.set_cons_zero, List.set_cons_succ]
      refine wpForce_one ?_
      have hCf : Chg (rOwn b (.slice (some ⟨g, off, none⟩) r.L.length cap) u) w (w5.setCell ⟨b, 0, none⟩ v') := (HC3.out.trans hC5 (fun k _ h => .inr (.inl h))).setCell (p := ⟨b, 0, none⟩) (.inl (.inl rfl)) _
      have hnf : ∀ k, rOwn b v' u k → rOwn b (.slice (some ⟨g, off, none⟩) r.L.length cap) u k ∨ w.heap.size ≤ k := by
        rintro k (h | h | h)
        · exact .inl (.inl h)
        · rcases hn5 k h with h | h
          · exact .inl (.inr (.inl h))
          · exact .inr (Nat.le_trans HC3.out.size h)
        · exact (HN.out k h).elim (fun e => .inl (.inr (.inr e))) .inr
      obtain ⟨fo, fc, hvf, _, _⟩ := ho.form
      subst hvf
      obtain ⟨f0, f1, f2⟩ := hTf.blk.c3
      have Hfin := hide (RTo.mk H.out hTf hCf hnf)
      clear hK1 hK2 hK3 hK4 hK7 hK8 K1 K2 K3 K4 K7 K8 hCf hnf hTf hC5 hn5 hnn ho hcc hT5 hsrcO
      go_wp2
      refine NoPanic.normal ?_
      go_wp2
      go_ret2
      rw [HF.out, Hc.out]
      exact ⟨rfl, by have := Hfin.out; exact this⟩

end Go.Proofs.Ytljlbdbgocohlaa
