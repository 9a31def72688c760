/- The document's table: the walk of Wait. -/
import Derived.Test.YtljlbdbgocohlaaR
namespace Go.Proofs.Ytljlbdbgocohlaa
open Go.RowKit Go.Maps

theorem wait_rs {st : PS} {k : Nat} {s : Pr} (hk : s.res = false → s.usr ∈ st.U) : (leavesRes (withL st (del st.L k)) s).rs = ⟨del st.L k, st.last, st.U⟩ := by
  unfold leavesRes PS.rs withL
  by_cases hr : s.res = true
  · rw [if_pos hr]
  · rw [if_neg hr]
    simp only
    rw [learn_known (hk (by simpa using hr))]

theorem tail_src {w : World} {L : List Pr} {g off cap k : Nat} {ya : Option Addr} (h : PrsIs w 50 (.slice (some ⟨g, off, none⟩) L.length cap) L) (hk : k < L.length) (hcap : L.length ≤ cap) (hya : ya = (if cap = k + 1 then some (⟨g, off, none⟩ : Addr) else some ⟨g, off + (k + 1) * 7, none⟩)) :
    Src Try.prog 7 53 (.slice ya (L.length - (k + 1)) (cap - (k + 1))) (L.length - (k + 1)) ((pcs L).drop ((k + 1) * 7)) w := by
  subst hya
  by_cases hc : cap = k + 1
  · rw [if_pos hc]
    have e1 : L.length - (k + 1) = 0 := by omega
    have e2 : cap - (k + 1) = 0 := by omega
    have e3 : (pcs L).drop ((k + 1) * 7) = [] := List.drop_eq_nil_of_le (by rw [pcs_length]; omega)
    rw [e1, e2, e3]
    exact Own.src (e' := 50) (Own.empty h) (by kernel_rfl) (by simp)
  · rw [if_neg hc]
    exact Own.src (e' := 50) (h.from_ (k + 1) (by omega)) (by kernel_rfl) (fun u hu => pcs_one L u (List.mem_of_mem_drop hu))

set_option maxHeartbeats 2000000 in
theorem rwait_any (b : Nat) (S : Nat → Prop) (r : RS) (pid c : Int) (w : World) (h : RIs w b S r) (hk : ∀ p ∈ r.L, p.res = false → p.usr ∈ r.U) (h1 : ∀ k, waitAt pid c r.L 0 = some k → liveN r.L pid ≠ none → 0 < (del r.L k).length) :
    Calls Try.prog 31 #[.pointer (some ⟨b, 0, none⟩), .int .i64 pid, .int .i64 c] w fun e w' => e = .returned (.tuple #[.int .i64 (waitRes r.st pid c).2.1, .int .i64 (waitRes r.st pid c).2.2.1, .int .i64 (waitRes r.st pid c).2.2.2]) ∧ RTo w w' b S (waitRes r.st pid c).1.rs := by
  obtain ⟨v, u, h, rfl⟩ := h
  obtain ⟨g, off, cap, hv, hcap, hcm, hg⟩ := h.prs.at h.pos
  subst hv
  have hlive := rlive_any b _ u r pid w h
  have hlen := h.len
  have H := hide h
  obtain ⟨R, hR⟩ : ∃ R, waitRes r.st pid c = R := ⟨_, rfl⟩
  rw [hR]
  unfold waitRes at hR
  cases hl : liveN r.L pid with
  | none =>
    rw [show liveN r.st.L pid = none from hl] at hR
    rw [hl] at hlive
    simp only at hR
    subst hR
    have Hl := hide hlive
    clear hlive hl h h1
    go_enter Try.func31, Try.ntmps31
    go_wp2_with fail
    refine Hl.out.mono ?_
    unfold oi
    rintro e w1 ⟨rfl, rfl⟩
    go_wp2
    go_returns
    exact ⟨rfl, RTo.gr ⟨_, _, H.out, rfl⟩ (only_refl _ _)⟩
  | some n =>
    rw [show liveN r.st.L pid = some n from hl] at hR
    rw [hl] at hlive
    simp only at hR
    have Hl := hide hlive
    have H1 := hide (fun k hk => h1 k hk (by rw [hl]; simp))
    have Hk := hide hk
    obtain ⟨a0, a1, a2⟩ := h.blk.c3
    have q0 : decide ((n : Int) < (0 : Int)) = false := by simp
    clear hlive hl h h1 hk
    obtain ⟨t, ht⟩ : ∃ t, waitAt pid c r.L 0 = t := ⟨_, rfl⟩
    rw [ht] at H1
    rw [show waitAt pid c r.st.L 0 = t from ht] at hR
    have Ht := hide ht
    have HR := hide hR
    clear ht hR
    go_enter Try.func31, Try.ntmps31
    go_wp2_with fail
    refine Hl.out.mono ?_
    unfold oi
    rintro e w1 ⟨rfl, rfl⟩
    go_wp2_with fail
    go_loopw [10, 11] (fun u1 u2 wr => ∃ k : Nat, u1 = .bool (anyKid pid c r.L k) ∧ u2 = .int .i64 k ∧ k ≤ r.L.length ∧ waitAt pid c r.L k = t ∧ w.grownBy wr none) (fun _ u _ => r.L.length - (intOf u).toNat)
    case atStart => exact ⟨0, rfl, rfl, by omega, Ht.out, only_refl _ _⟩
    case round =>
      obtain ⟨k, rfl, rfl, hk, hwait, hG⟩ := hrel
      obtain ⟨ak, hak0⟩ : ∃ ak, anyKid pid c r.L k = ak := ⟨_, rfl⟩
      rw [hak0]
      have hT := H.out.gr hG
      obtain ⟨wa0, wa1, wa2⟩ := hT.blk.c3
      by_cases hlt : k < r.L.length
      · obtain ⟨s, hs⟩ : ∃ s, r.L[k]? = some s := ⟨_, List.getElem?_eq_getElem hlt⟩
        obtain ⟨c0, c1, c2, c3, c4, c5, c6⟩ := hT.prs.c rfl hlt hs
        have q0 : decide ((k : Int) < (r.L.length : Int)) = true := by simp; omega
        have i1 : (0 : Int) ≤ k ∧ (k : Int) < (r.L.length : Int) := by omega
        have HG := hide hG
        have HTr := hide hT
        have HT := hide (hT.gr (only_alloc (only_refl wr none) (.cells s.cells.toArray 50)))
        unfold Pr.cells at HT
        have hkd : isKid pid c s = (decide (s.par = pid) && !(decide (1 ≤ c) && !decide (s.pid = c))) := rfl
        have hak := anyKid_step (pid := pid) (c := c) hs
        clear hG hT
        by_cases hkid : isKid pid c s = true
        · have q1 : (s.par != pid) = false := by rw [hkid] at hkd; simp only [Bool.and_eq_true, Eq.comm (a := true)] at hkd; simpa using hkd.1
          have hq : decide (1 ≤ c) = false ∨ (decide (1 ≤ c) = true ∧ (s.pid != c) = false) := by
            rw [hkid] at hkd
            by_cases e1 : 1 ≤ c
            · refine .inr ⟨by simpa using e1, ?_⟩
              by_cases e2 : s.pid = c
              · simpa using e2
              · simp [e1, e2] at hkd
            · exact .inl (by simpa using e1)
          have hak2 : anyKid pid c r.L (k + 1) = true := by rw [hak, hkid, Bool.or_true]
          cases hd : s.dead with
          | false =>
            have hwn : waitAt pid c r.L (k + 1) = t := by rw [← wait_next hs (.inr hd)]; exact hwait
            rw [hd] at c5
            have Hwn := hide hwn
            have Hak := hide hak2
            clear hkd hak hak2 hwn hkid hwait hs hak0
            rcases hq with q2 | ⟨q2, q3⟩
            · go_wp2
              go_roundw
              case rel => exact ⟨k + 1, by rw [Hak.out], by go_num, by omega, Hwn.out, only_alloc HG.out _⟩
              case measure => simp [intOf]; omega
            · go_wp2
              go_roundw
              case rel => exact ⟨k + 1, by rw [Hak.out], by go_num, by omega, Hwn.out, only_alloc HG.out _⟩
              case measure => simp [intOf]; omega
          | true =>
            have hwn : some k = t := by rw [← wait_here hs hkid hd]; exact hwait
            subst hwn
            rw [hd] at c5
            have Hs := hide hs
            have Hd := hide hd
            have hblk := (Blk.new wr 50 s.cells.toArray)
            have hTw := HT.out
            unfold Pr.cells at hblk
            rw [hd] at hblk hTw
            have z0 := HTr.out.blk.frozen 0
            have hbl := HTr.out.blk.lt
            have hgl := (HTr.out.v_ne (k := g) rfl).2.2
            obtain ⟨ya, hya⟩ : ∃ ya, ya = (if cap = k + 1 then some (⟨g, off, none⟩ : Addr) else some ⟨g, off + (k + 1) * 7, none⟩) := ⟨_, rfl⟩
            have Hya := hide hya
            have i5 : (0 : Int) ≤ (k : Int) + 1 ∧ (k : Int) + 1 ≤ r.L.length := by omega
            have hkcap : k ≤ cap := by omega
            have hw9 : IntKind.i64.wrap ((k : Int) + 1) = (k : Int) + 1 := by rw [IntWalk.i64_in _ (by omega)]
            clear hkd hak hak2 hkid hwait hs hd hak0 hya
            have hcond : decide (1 ≤ c) = false ∨ (decide (1 ≤ c) = true ∧ (s.pid != c) = false) := hq
            clear hq
            rcases hcond with q2 | ⟨q2, q3⟩
            · have HTw := hide hTw
              have Hblk := hide hblk
              clear hTw hblk
              go_wp2_with fail
              refine wp_region_perm [0, 2, 3, 4, 5, 6, 7, 9, 10, 11, 12, 13, 14, 15] [1, 8, 16, 17, 18, 19] (by kernel_rfl) (by kernel_rfl) (fun w' => w'.cell? ⟨b, 0, none⟩ = some (.slice (some ⟨g, off, none⟩) r.L.length cap)) ((((Chg.refl nobody wr).alloc _).drew.cell (p := ⟨b, 0, none⟩) hbl (fun h => h)).trans wa0) ?_
              simp only [pick, List.getElem?_cons_zero, List.getElem?_cons_succ]
              iterate 6
                refine wpTake_cons ?_ (by rfl) ?_ ?_
                rotate_left
                · (intro W hSW; go_simp; try with_reducible rfl)
                simp only [Act.put, List.setIfInBounds_toArray, List.set_cons_zero, List.set_cons_succ]
              refine wpTake_cons (.slice (some ⟨g, off, none⟩) k cap) (by rfl) (fun W _ => by go_simp) ?_
              simp only [Act.put, List.setIfInBounds_toArray, List.set_cons_zero, List.set_cons_succ]
              iterate 6
                refine wpTake_cons ?_ (by rfl) ?_ ?_
                rotate_left
                · (intro W hSW; go_simp; try with_reducible rfl)
                simp only [Act.put, List.setIfInBounds_toArray, List.set_cons_zero, List.set_cons_succ]
              try simp only [hw9]
              refine wpTake_cons (.slice ya (r.L.length - (k + 1)) (cap - (k + 1))) (by rfl) (fun W _ => by go_simp; exact Hya.out.symm) ?_
              simp only [Act.put, List.setIfInBounds_toArray, List.set_cons_zero, List.set_cons_succ]
              refine wpTake_nil ?_
              obtain ⟨W0, hW0⟩ : ∃ W0, (wr.alloc (.cells #[.int .i64 s.pid, .int .i64 s.par, .int .i64 s.usr, .int .i64 s.ses, .int .i64 s.sta, .bool true, .bool s.res] 50)).drew = W0 := ⟨_, rfl⟩
              rw [hW0]
              have hT0 := HTw.out.gr (only_drew (only_refl _ none))
              have hB0 := Hblk.out.chg ((Chg.refl nobody _).drew) (fun h => h)
              have hG0 := only_drew (only_alloc HG.out (.cells #[.int .i64 s.pid, .int .i64 s.par, .int .i64 s.usr, .int .i64 s.ses, .int .i64 s.sta, .bool true, .bool s.res] 50))
              rw [hW0] at hT0 hB0 hG0
              have HT0 := hide hT0
              have HB0 := hide hB0
              have HG0 := hide hG0
              have hbl0 := hT0.blk.lt
              have hkb : wr.heap.size ≠ b := by omega
              have hkl := hB0.lt
              have s0 := (hT0.blk.c3).1
              clear hW0 hT0 hB0 hG0 HTw Hblk
              refine wpForce_cons fun K1 hK1 => ?_
              refine step_val (.slice (some ⟨W0.heap.size, 0, none⟩) 0 0) (W0.alloc (.cells #[] 50)) (by rfl) (by go_simp; try rfl) ?_
              have hC0 := (Chg.refl nobody W0).alloc (.cells #[] 50)
              refine hK1.out _ _ ((hC0.cell (p := ⟨b, 0, none⟩) hbl0 (fun h => h)).trans s0) ?_
              simp only [Act.put, List.setIfInBounds_toArray, List.set_cons_zero, List.set_cons_succ]
              refine wpForce_cons fun K2 hK2 => ?_
              refine step_appAt (by rfl) (.tmp 51) (.tmp 57) 53 53 (by rfl) 50 pr0.agg 7 48 (by kernel_rfl) info50 rfl (.slice (some ⟨W0.heap.size, 0, none⟩) 0 0) 0 [] 0 _ k ((pcs r.L).take (k * 7)) (by rfl) (by rfl) (Own.made W0 #[] 50 7 0 0 rfl (by unfold maxLen; omega)) (by omega) (Own.src (e' := 50) (Own.to_ (HT0.out.chg hC0 (fun _ _ h => h)).prs k (by omega)) (by kernel_rfl) (fun y hy => pcs_one _ y (List.mem_of_mem_take hy))) (by unfold maxLen; omega) (by omega) ?_
              intro v1 w2 ho1 hc1 hn1 _
              have hC1 : Chg nobody W0 w2 := hC0.trans hc1 (fun i hi e => by simp [Value.ownBlock] at e; omega)
              have hv1 : ∀ i, v1.ownBlock = some i → W0.heap.size ≤ i := by
                intro i hi
                rcases hn1 i hi with e | e
                · simp [Value.ownBlock] at e; omega
                · rw [World.size_alloc] at e; omega
              refine hK2.out _ _ ((hC1.cell (p := ⟨b, 0, none⟩) hbl0 (fun h => h)).trans s0) ?_
              simp only [Act.put, List.setIfInBounds_toArray, List.set_cons_zero, List.set_cons_succ]
              refine wpForce_cons fun K3 hK3 => ?_
              refine step_appAt (by rfl) (.tmp 58) (.tmp 65) 53 53 (by rfl) 50 pr0.agg 7 48 (by kernel_rfl) info50 rfl v1 (0 + k) _ 0 _ (r.L.length - (k + 1)) ((pcs r.L).drop ((k + 1) * 7)) (by rfl) (by rfl) ho1 (by omega) (tail_src (HT0.out.chg hC1 (fun _ _ h => h)).prs hlt hcap Hya.out) (by unfold maxLen; omega) (by omega) ?_
              intro v2 w3 ho2 hc2 hn2 _
              have hC2 : Chg nobody W0 w3 := hC1.trans hc2 (fun i hi e => by have := hv1 i e; omega)
              have hv2 : ∀ i, v2.ownBlock = some i → W0.heap.size ≤ i := by
                intro i hi
                rcases hn2 i hi with e | e
                · exact hv1 i e
                · exact Nat.le_trans hC1.size e
              have hdl : (del r.L k).length = r.L.length - 1 := by simp [del]; omega
              rw [List.nil_append, pcs_del, show 0 + k + (r.L.length - (k + 1)) = (del r.L k).length by omega] at ho2
              obtain ⟨fo, fc, rfl, _, _⟩ := ho2.form
              have u0 := (hC2.cell (p := ⟨b, 0, none⟩) hbl0 (fun h => h)).trans s0
              have zb := (HT0.out.blk.chg hC2 (fun h => h)).frozen 0
              have hb3 : b < w3.heap.size := Nat.lt_of_lt_of_le hbl0 hC2.size
              refine hK3.out _ _ u0 ?_
              simp only [Act.put, List.setIfInBounds_toArray, List.set_cons_zero, List.set_cons_succ]
              refine wpForce_cons fun K4 hK4 => ?_
              refine step_val (.pointer (some ⟨b, 0, none⟩)) w3 (by rfl) (by go_simp) ?_
              refine hK4.out _ _ u0 ?_
              simp only [Act.put, List.setIfInBounds_toArray, List.set_cons_zero, List.set_cons_succ]
              refine wpForce_cons fun K5 hK5 => ?_
              refine step_val (.pointer (some ⟨b, 0, none⟩)) w3 (by rfl) (by go_simp) ?_
              refine hK5.out _ _ u0 ?_
              simp only [Act.put, List.setIfInBounds_toArray, List.set_cons_zero, List.set_cons_succ]
              refine wpForce_one ?_
              have hTf := HT0.out.newL hC2 (fun h => h) (fun _ _ h => h) (del r.L k) ho2 (H1.out k rfl) (by omega)
              have hB3 := (HB0.out.chg hC2 (fun h => h)).far (p := ⟨b, 0, none⟩) hkb (.slice fo (del r.L k).length fc)
              have hCf : Chg (rOwn b (.slice (some ⟨g, off, none⟩) r.L.length cap) u) w _ := (((Chg.of_grown HG0.out (fun _ h => by cases h) : Chg (rOwn b (.slice (some ⟨g, off, none⟩) r.L.length cap) u) w W0)).trans hC2 (fun _ _ h => h.elim)).setCell (p := ⟨b, 0, none⟩) (.inl (.inl rfl)) (.slice fo (del r.L k).length fc)
              have m0 : (w3.setCell ⟨b, 0, none⟩ (.slice fo (del r.L k).length fc)).cell? ⟨wr.heap.size, 0, none⟩ = some (.int .i64 s.pid) := hB3.cell 0
              have m4 : (w3.setCell ⟨b, 0, none⟩ (.slice fo (del r.L k).length fc)).cell? ⟨wr.heap.size, 4, none⟩ = some (.int .i64 s.sta) := hB3.cell 4
              have hnf : ∀ i, rOwn b (.slice fo (del r.L k).length fc) u i → rOwn b (.slice (some ⟨g, off, none⟩) r.L.length cap) u i ∨ w.heap.size ≤ i := by
                rintro i (e | e | e)
                · exact .inl (.inl e)
                · exact .inr (Nat.le_trans HG0.out.size (hv2 i e))
                · exact .inl (.inr (.inr e))
              have HTf := hide hTf
              have HCf := hide hCf
              have Hnf := hide hnf
              clear hK1 hK2 hK3 hK4 hK5 K1 K2 K3 K4 K5 hTf hB3 hCf hnf ho1 hc1 hn1 hv1 ho2 hc2 hn2 hv2 hC0 hC1 hC2 hdl
              go_wp2
              refine NoPanic.normal ?_
              generalize w3.setCell ⟨b, 0, none⟩ (.slice fo (del r.L k).length fc) = w4 at m0 m4 HTf HCf ⊢
              go_wp2_with fail
              go_quiet (fail)
              go_wp2
              go_returns
              have hR := HR.out
              simp only [show r.st.L = r.L from rfl, getD_of Hs.out] at hR
              subst hR
              refine ⟨rfl, ?_⟩
              rw [show (leavesRes (withL r.st (del r.L k)) s).rs = ⟨del r.L k, r.last, r.U⟩ from wait_rs (Hk.out s (List.mem_of_getElem? Hs.out))]
              exact RTo.mk H.out (HTf.out.gr (only_drewN (only_refl _ _) nq)) (HCf.out.drewN nq) Hnf.out
            · have HTw := hide hTw
              have Hblk := hide hblk
              clear hTw hblk
              go_wp2_with fail
              refine wp_region_perm [0, 2, 3, 4, 5, 6, 7, 9, 10, 11, 12, 13, 14, 15] [1, 8, 16, 17, 18, 19] (by kernel_rfl) (by kernel_rfl) (fun w' => w'.cell? ⟨b, 0, none⟩ = some (.slice (some ⟨g, off, none⟩) r.L.length cap)) ((((Chg.refl nobody wr).alloc _).drew.cell (p := ⟨b, 0, none⟩) hbl (fun h => h)).trans wa0) ?_
              simp only [pick, List.getElem?_cons_zero, List.getElem?_cons_succ]
              iterate 6
                refine wpTake_cons ?_ (by rfl) ?_ ?_
                rotate_left
                · (intro W hSW; go_simp; try with_reducible rfl)
                simp only [Act.put, List.setIfInBounds_toArray, List.set_cons_zero, List.set_cons_succ]
              refine wpTake_cons (.slice (some ⟨g, off, none⟩) k cap) (by rfl) (fun W _ => by go_simp) ?_
              simp only [Act.put, List.setIfInBounds_toArray, List.set_cons_zero, List.set_cons_succ]
              iterate 6
                refine wpTake_cons ?_ (by rfl) ?_ ?_
                rotate_left
                · (intro W hSW; go_simp; try with_reducible rfl)
                simp only [Act.put, List.setIfInBounds_toArray, List.set_cons_zero, List.set_cons_succ]
              try simp only [hw9]
              refine wpTake_cons (.slice ya (r.L.length - (k + 1)) (cap - (k + 1))) (by rfl) (fun W _ => by go_simp; exact Hya.out.symm) ?_
              simp only [Act.put, List.setIfInBounds_toArray, List.set_cons_zero, List.set_cons_succ]
              refine wpTake_nil ?_
              obtain ⟨W0, hW0⟩ : ∃ W0, (wr.alloc (.cells #[.int .i64 s.pid, .int .i64 s.par, .int .i64 s.usr, .int .i64 s.ses, .int .i64 s.sta, .bool true, .bool s.res] 50)).drew = W0 := ⟨_, rfl⟩
              rw [hW0]
              have hT0 := HTw.out.gr (only_drew (only_refl _ none))
              have hB0 := Hblk.out.chg ((Chg.refl nobody _).drew) (fun h => h)
              have hG0 := only_drew (only_alloc HG.out (.cells #[.int .i64 s.pid, .int .i64 s.par, .int .i64 s.usr, .int .i64 s.ses, .int .i64 s.sta, .bool true, .bool s.res] 50))
              rw [hW0] at hT0 hB0 hG0
              have HT0 := hide hT0
              have HB0 := hide hB0
              have HG0 := hide hG0
              have hbl0 := hT0.blk.lt
              have hkb : wr.heap.size ≠ b := by omega
              have hkl := hB0.lt
              have s0 := (hT0.blk.c3).1
              clear hW0 hT0 hB0 hG0 HTw Hblk
              refine wpForce_cons fun K1 hK1 => ?_
              refine step_val (.slice (some ⟨W0.heap.size, 0, none⟩) 0 0) (W0.alloc (.cells #[] 50)) (by rfl) (by go_simp; try rfl) ?_
              have hC0 := (Chg.refl nobody W0).alloc (.cells #[] 50)
              refine hK1.out _ _ ((hC0.cell (p := ⟨b, 0, none⟩) hbl0 (fun h => h)).trans s0) ?_
              simp only [Act.put, List.setIfInBounds_toArray, List.set_cons_zero, List.set_cons_succ]
              refine wpForce_cons fun K2 hK2 => ?_
              refine step_appAt (by rfl) (.tmp 51) (.tmp 57) 53 53 (by rfl) 50 pr0.agg 7 48 (by kernel_rfl) info50 rfl (.slice (some ⟨W0.heap.size, 0, none⟩) 0 0) 0 [] 0 _ k ((pcs r.L).take (k * 7)) (by rfl) (by rfl) (Own.made W0 #[] 50 7 0 0 rfl (by unfold maxLen; omega)) (by omega) (Own.src (e' := 50) (Own.to_ (HT0.out.chg hC0 (fun _ _ h => h)).prs k (by omega)) (by kernel_rfl) (fun y hy => pcs_one _ y (List.mem_of_mem_take hy))) (by unfold maxLen; omega) (by omega) ?_
              intro v1 w2 ho1 hc1 hn1 _
              have hC1 : Chg nobody W0 w2 := hC0.trans hc1 (fun i hi e => by simp [Value.ownBlock] at e; omega)
              have hv1 : ∀ i, v1.ownBlock = some i → W0.heap.size ≤ i := by
                intro i hi
                rcases hn1 i hi with e | e
                · simp [Value.ownBlock] at e; omega
                · rw [World.size_alloc] at e; omega
              refine hK2.out _ _ ((hC1.cell (p := ⟨b, 0, none⟩) hbl0 (fun h => h)).trans s0) ?_
              simp only [Act.put, List.setIfInBounds_toArray, List.set_cons_zero, List.set_cons_succ]
              refine wpForce_cons fun K3 hK3 => ?_
              refine step_appAt (by rfl) (.tmp 58) (.tmp 65) 53 53 (by rfl) 50 pr0.agg 7 48 (by kernel_rfl) info50 rfl v1 (0 + k) _ 0 _ (r.L.length - (k + 1)) ((pcs r.L).drop ((k + 1) * 7)) (by rfl) (by rfl) ho1 (by omega) (tail_src (HT0.out.chg hC1 (fun _ _ h => h)).prs hlt hcap Hya.out) (by unfold maxLen; omega) (by omega) ?_
              intro v2 w3 ho2 hc2 hn2 _
              have hC2 : Chg nobody W0 w3 := hC1.trans hc2 (fun i hi e => by have := hv1 i e; omega)
              have hv2 : ∀ i, v2.ownBlock = some i → W0.heap.size ≤ i := by
                intro i hi
                rcases hn2 i hi with e | e
                · exact hv1 i e
                · exact Nat.le_trans hC1.size e
              have hdl : (del r.L k).length = r.L.length - 1 := by simp [del]; omega
              rw [List.nil_append, pcs_del, show 0 + k + (r.L.length - (k + 1)) = (del r.L k).length by omega] at ho2
              obtain ⟨fo, fc, rfl, _, _⟩ := ho2.form
              have u0 := (hC2.cell (p := ⟨b, 0, none⟩) hbl0 (fun h => h)).trans s0
              have zb := (HT0.out.blk.chg hC2 (fun h => h)).frozen 0
              have hb3 : b < w3.heap.size := Nat.lt_of_lt_of_le hbl0 hC2.size
              refine hK3.out _ _ u0 ?_
              simp only [Act.put, List.setIfInBounds_toArray, List.set_cons_zero, List.set_cons_succ]
              refine wpForce_cons fun K4 hK4 => ?_
              refine step_val (.pointer (some ⟨b, 0, none⟩)) w3 (by rfl) (by go_simp) ?_
              refine hK4.out _ _ u0 ?_
              simp only [Act.put, List.setIfInBounds_toArray, List.set_cons_zero, List.set_cons_succ]
              refine wpForce_cons fun K5 hK5 => ?_
              refine step_val (.pointer (some ⟨b, 0, none⟩)) w3 (by rfl) (by go_simp) ?_
              refine hK5.out _ _ u0 ?_
              simp only [Act.put, List.setIfInBounds_toArray, List.set_cons_zero, List.set_cons_succ]
              refine wpForce_one ?_
              have hTf := HT0.out.newL hC2 (fun h => h) (fun _ _ h => h) (del r.L k) ho2 (H1.out k rfl) (by omega)
              have hB3 := (HB0.out.chg hC2 (fun h => h)).far (p := ⟨b, 0, none⟩) hkb (.slice fo (del r.L k).length fc)
              have hCf : Chg (rOwn b (.slice (some ⟨g, off, none⟩) r.L.length cap) u) w _ := (((Chg.of_grown HG0.out (fun _ h => by cases h) : Chg (rOwn b (.slice (some ⟨g, off, none⟩) r.L.length cap) u) w W0)).trans hC2 (fun _ _ h => h.elim)).setCell (p := ⟨b, 0, none⟩) (.inl (.inl rfl)) (.slice fo (del r.L k).length fc)
              have m0 : (w3.setCell ⟨b, 0, none⟩ (.slice fo (del r.L k).length fc)).cell? ⟨wr.heap.size, 0, none⟩ = some (.int .i64 s.pid) := hB3.cell 0
              have m4 : (w3.setCell ⟨b, 0, none⟩ (.slice fo (del r.L k).length fc)).cell? ⟨wr.heap.size, 4, none⟩ = some (.int .i64 s.sta) := hB3.cell 4
              have hnf : ∀ i, rOwn b (.slice fo (del r.L k).length fc) u i → rOwn b (.slice (some ⟨g, off, none⟩) r.L.length cap) u i ∨ w.heap.size ≤ i := by
                rintro i (e | e | e)
                · exact .inl (.inl e)
                · exact .inr (Nat.le_trans HG0.out.size (hv2 i e))
                · exact .inl (.inr (.inr e))
              have HTf := hide hTf
              have HCf := hide hCf
              have Hnf := hide hnf
              clear hK1 hK2 hK3 hK4 hK5 K1 K2 K3 K4 K5 hTf hB3 hCf hnf ho1 hc1 hn1 hv1 ho2 hc2 hn2 hv2 hC0 hC1 hC2 hdl
              go_wp2
              refine NoPanic.normal ?_
              generalize w3.setCell ⟨b, 0, none⟩ (.slice fo (del r.L k).length fc) = w4 at m0 m4 HTf HCf ⊢
              go_wp2_with fail
              go_quiet (fail)
              go_wp2
              go_returns
              have hR := HR.out
              simp only [show r.st.L = r.L from rfl, getD_of Hs.out] at hR
              subst hR
              refine ⟨rfl, ?_⟩
              rw [show (leavesRes (withL r.st (del r.L k)) s).rs = ⟨del r.L k, r.last, r.U⟩ from wait_rs (Hk.out s (List.mem_of_getElem? Hs.out))]
              exact RTo.mk H.out (HTf.out.gr (only_drewN (only_refl _ _) nq)) (HCf.out.drewN nq) Hnf.out
        · have hkid' : isKid pid c s = false := by simpa using hkid
          have hak2 : anyKid pid c r.L (k + 1) = ak := by rw [hak, hkid', Bool.or_false, hak0]
          have hwn : waitAt pid c r.L (k + 1) = t := by rw [← wait_next hs (.inl hkid')]; exact hwait
          have hq : (s.par != pid) = true ∨ ((s.par != pid) = false ∧ decide (1 ≤ c) = true ∧ (s.pid != c) = true) := by
            rw [hkid'] at hkd
            by_cases e0 : s.par = pid
            · refine .inr ⟨by simpa using e0, ?_⟩
              by_cases e1 : 1 ≤ c
              · refine ⟨by simpa using e1, ?_⟩
                by_cases e2 : s.pid = c
                · simp [e0, e2] at hkd
                · simpa using e2
              · simp [e0, e1] at hkd
            · exact .inl (by simpa using e0)
          have Hwn := hide hwn
          have Hak := hide hak2
          clear hkd hak hak2 hwn hkid hkid' hwait hs hak0
          rcases hq with q1 | ⟨q1, q2, q3⟩
          · go_wp2
            go_roundw
            case rel => exact ⟨k + 1, by rw [Hak.out], by go_num, by omega, Hwn.out, only_alloc HG.out _⟩
            case measure => simp [intOf]; omega
          · go_wp2
            go_roundw
            case rel => exact ⟨k + 1, by rw [Hak.out], by go_num, by omega, Hwn.out, only_alloc HG.out _⟩
            case measure => simp [intOf]; omega
      · have q0 : decide ((k : Int) < (r.L.length : Int)) = false := by simp; omega
        have hwn : none = t := by rw [← hwait, waitAt, dif_neg hlt]
        subst hwn
        have e1 : r.st.L.any (isKid pid c) = ak := by rw [← hak0]; unfold anyKid; rw [List.take_of_length_le (by omega)]; rfl
        have HG := hide hG
        have HR2 := hide (HR.out.symm.trans (by rw [e1]))
        clear hG hwait e1 hT hak0 HR
        cases ak with
        | true =>
          go_wp2
          go_returns
          rw [HR2.out]
          exact ⟨rfl, RTo.gr ⟨_, _, H.out, rfl⟩ HG.out⟩
        | false =>
          go_wp2
          go_returns
          rw [HR2.out]
          exact ⟨rfl, RTo.gr ⟨_, _, H.out, rfl⟩ HG.out⟩

end Go.Proofs.Ytljlbdbgocohlaa
