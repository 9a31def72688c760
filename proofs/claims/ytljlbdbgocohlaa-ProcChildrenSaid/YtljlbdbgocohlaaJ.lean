/- The walks of Delete, Wait, New. -/
import Derived.Test.YtljlbdbgocohlaaI
namespace Go.Proofs.Ytljlbdbgocohlaa
open Go.RowKit Go.Maps

/-- append in place. -/
theorem run_append_in {P : Program} (w : World) (t tx ty e : TypeId) (i : TypeInfo) (size : Nat) (ht : P.underlying t = some (.slice e)) (hi : P.info? e = some i)
    (hsize : i.size = size) (g off cap n : Nat) (xs : List Value) (k : Nat) (hown : Own w e size (.slice (some ⟨g, off, none⟩) n cap) n xs k) (hk : k ≤ n * size)
    (x : Value) (m : Nat) (news : List Value) (hs : Src P size tx x m news w) (hroom : n + m ≤ cap) :
    ∃ w', (Builtin.append_ #[t, tx] ty #[.slice (some ⟨g, off, none⟩) n cap, x]).run P w = .ok (.slice (some ⟨g, off, none⟩) (n + m) cap) w' ∧ Own w' e size (.slice (some ⟨g, off, none⟩) (n + m) cap) (n + m) (xs ++ news) k ∧ Chg (one_ g) w w' := by
  subst hsize
  have hlen : (xs ++ news).length = (n + m) * i.size := by rw [List.length_append, hown.1, hs.newsLen, Nat.add_mul]
  have hl := hown.1
  rcases hown.2 with ⟨h0, _⟩ | ⟨g', off', cap', cur, fz, hv, hg, hfz, hnc, hcm, hcs, hcells⟩
  · cases h0
  · injection hv with ha _ hcap
    injection ha with ha
    injection ha with e1 e2 _
    subst e1 e2 hcap
    have hfitm : (n + m) * i.size ≤ cap * i.size := Nat.mul_le_mul_right _ hroom
    rw [Nat.add_mul] at hfitm
    have hnl := hs.newsLen
    have hr := run_append_room_src (P := P) w t tx ty e i ht hi g off n cap x m news hs hroom (fun j hj => by
        rw [cell_of_row w g _ cur e fz hg, Array.getElem?_eq_getElem (by omega)]; rfl) (fun j hj => by
        have : ¬ (off + n * i.size + j < fz.2) := by omega
        obtain ⟨lo, hi'⟩ := fz
        simp only at this
        simp [World.frozen?, hg, this])
    obtain ⟨cur', a1, a2, a3, a4⟩ := setCells_heap (g := g) (o := 0) news (off + n * i.size) cur w hg (by omega)
    refine ⟨_, hr, ⟨hlen, .inr ⟨g, off, cap, cur', fz, rfl, a1, hfz, hroom, hcm, by omega, fun j hj => ?_⟩⟩, ⟨World.os_setCells w g _ news, ?_, World.output_setCells w g _ news, ?_, fun b hb hne => World.heap_setCells_other w g _ news hb (fun e => hne e)⟩⟩
    · by_cases hjn : j < n * i.size
      · rw [a4 _ (by omega), List.getElem?_append_left (by omega)]
        exact hcells j hjn
      · rw [List.getElem?_append_right (by omega), hl]
        have := a3 (j - n * i.size) (by rw [Nat.add_mul] at hj; omega)
        rw [← this]
        congr 1
        omega
    · have : ∀ (vs : List Value) (o : Nat) (w : World), (w.setCells g o vs).tape = w.tape := by
        intro vs
        induction vs with
        | nil => intros; rfl
        | cons u r ih => intro o w; exact (ih (o + 1) _).trans rfl
      exact this _ _ _
    · have : ∀ (vs : List Value) (o : Nat) (w : World), (w.setCells g o vs).heap.size = w.heap.size := by
        intro vs
        induction vs with
        | nil => intros; rfl
        | cons u r ih => intro o w; exact (ih (o + 1) _).trans (World.size_setCell _ _ _)
      rw [this]
      exact Nat.le_refl _

theorem size_setCells (g : Nat) : ∀ (vs : List Value) (o : Nat) (w : World), (w.setCells g o vs).heap.size = w.heap.size
  | [], _, _ => rfl
  | _ :: r, o, w => (size_setCells g r (o + 1) _).trans (World.size_setCell _ _ _)
theorem tape_setCells (g : Nat) : ∀ (vs : List Value) (o : Nat) (w : World), (w.setCells g o vs).tape = w.tape
  | [], _, _ => rfl
  | _ :: r, o, w => (tape_setCells g r (o + 1) _).trans rfl

/-- clear of what lies behind a slice, up to its capacity. -/
theorem run_clear_behind (w : World) (ty : TypeId) (g off cap n c : Nat) (xs : List Value) (h : Own w 34 7 (.slice (some ⟨g, off, none⟩) n cap) n xs 0) (hn : n + 1 ≤ cap) :
    ∃ w', (Builtin.clear_ #[46] ty #[.slice (some ⟨g, off + n * 7, none⟩) 1 c]).run Try.prog w = .ok (.tuple #[]) w' ∧ Own w' 34 7 (.slice (some ⟨g, off, none⟩) n cap) n xs 0 ∧ Chg (one_ g) w w' := by
  have hz : (zeroValue 34).run Try.prog w = .ok pr0.agg w := by kernel_rfl
  have hl := h.1
  rcases h.2 with ⟨h0, _⟩ | ⟨g', off', cap', cur, fz, hv, hg, hfz, hnc, hcm, hcs, hcells⟩
  · cases h0
  · injection hv with ha _ hcap
    injection ha with ha
    injection ha with e1 e2 _
    subst e1 e2 hcap
    have hcl : ∀ j, j < 7 → off + n * 7 + j < cur.size := fun j hj => by omega
    have hst := run_storeCells_cells (P := Try.prog) g (off + n * 7) pr0.cells 0 w (fun j hj => by
        have hj' : j < 7 := hj
        rw [Nat.add_zero, cell_of_row w g _ cur 34 fz hg, Array.getElem?_eq_getElem (hcl j hj')]; rfl) (fun j hj => by
        have : ¬ (off + n * 7 + j < fz.2) := by omega
        obtain ⟨lo, hi'⟩ := fz
        simp only at this
        simp [World.frozen?, hg, this]) (by simp [Pr.cells, Value.oneCell', pr0])
    simp only [Nat.add_zero] at hst
    obtain ⟨cur', a1, a2, a3, a4⟩ := setCells_heap (g := g) (o := 0) pr0.cells (off + n * 7) cur w hg (by have : pr0.cells.length = 7 := rfl; omega)
    refine ⟨w.setCells g (off + n * 7) pr0.cells, ?_, ⟨hl, .inr ⟨g, off, cap, cur', fz, rfl, a1, hfz, hnc, hcm, by omega, fun j hj => by rw [a4 _ (by omega)]; exact hcells j hj⟩⟩,
      ⟨World.os_setCells w g _ _, tape_setCells _ _ _ _, World.output_setCells w g _ _, by rw [size_setCells]; exact Nat.le_refl _, fun b hb hne => World.heap_setCells_other w g _ _ hb (fun e => hne e)⟩⟩
    have hz2 : (Builtin.zeroCells pr0.agg.cells 1).toList = pr0.cells := by kernel_rfl
    simp [Builtin.clear_, run_underlying (show Try.prog.underlying 46 = some (.slice 34) by kernel_rfl), hz, hz2, hst]

theorem pcs_del (L : List Pr) (k : Nat) : (pcs L).take (k * 7) ++ (pcs L).drop ((k + 1) * 7) = pcs (del L k) := by
  rw [pcs_take, pcs_drop, ← pcs_append]; rfl

theorem step_append {P : Program} {ops : Array Oper} {o : Oper} {a : Act} {w w' : World} {K : Act → World → Prop} {Q : Exit → Act → World → Prop} {E : Prop} (v : Value) (hgd : o.guard = none) (s x : Operand) (T U : TypeId)
    (ho : o.op = .call { callee := .builtin .append, args := #[s, x], argTypes := #[T, U] }) (y z : Value) (hy : a.eval s = y) (hz : a.eval x = z) (hr : (Builtin.append_ #[T, U] o.type #[y, z]).run P w = .ok v w') (h : K (a.put o.dst v) w') :
    if Region.wanted o (yielded ops a.tmps) = true then Oper.wp P o a w K Q else E := by
  refine step_val v w' hgd ?_ h
  unfold execOp
  simp only [ho, resolve, invoke, builtin, Sem.run_bind, Sem.run_pure, Result.andThen_ok, List.map_toArray, List.map_cons, List.map_nil, hy, hz, hr]

set_option maxHeartbeats 1000000 in
theorem delete_any (g off cap : Nat) (L : List Pr) (k : Nat) (w : World) (h : PrsIs w 34 (.slice (some ⟨g, off, none⟩) L.length cap) L) (hk : k < L.length) (hlen : L.length ≤ 1000000) (hcap : L.length ≤ cap ∧ cap ≤ maxLen) :
    Calls Try.prog 26 #[.slice (some ⟨g, off, none⟩) L.length cap, .int .i64 k, .int .i64 ((k : Int) + 1)] w fun e w' => e = .returned (.slice (some ⟨g, off, none⟩) (del L k).length cap) ∧ PrsIs w' 34 (.slice (some ⟨g, off, none⟩) (del L k).length cap) (del L k) ∧ Chg (one_ g) w w' := by
  have hdl : (del L k).length = L.length - 1 := by simp [del]; omega
  have h1 := h.to_ k (by omega)
  obtain ⟨ya, hya, hsrc⟩ : ∃ ya, ya = (if cap = k + 1 then some (⟨g, off, none⟩ : Addr) else some ⟨g, off + (k + 1) * 7, none⟩) ∧ Src Try.prog 7 46 (.slice ya (L.length - (k + 1)) (cap - (k + 1))) (L.length - (k + 1)) ((pcs L).drop ((k + 1) * 7)) w.drew := by
    refine ⟨_, rfl, ?_⟩
    by_cases hc : cap = k + 1
    · rw [if_pos hc]
      have e1 : L.length - (k + 1) = 0 := by omega
      have e2 : cap - (k + 1) = 0 := by omega
      have e3 : (pcs L).drop ((k + 1) * 7) = [] := List.drop_eq_nil_of_le (by rw [pcs_length]; omega)
      rw [e1, e2, e3]
      exact Own.src (e' := 34) (Own.keep (w' := w.drew) (Own.empty h) fun _ _ => rfl) (by kernel_rfl) (by simp)
    · rw [if_neg hc]
      exact Own.src (e' := 34) ((h.from_ (k + 1) (by omega)).keep (w' := w.drew) fun _ _ => rfl) (by kernel_rfl) (fun u hu => pcs_one L u (List.mem_of_mem_drop hu))
  obtain ⟨ti, hti, _, htis, _⟩ := info_parts info34
  obtain ⟨w1, hr, ho, hc⟩ := run_append_in (P := Try.prog) w.drew 46 46 46 34 ti 7 (by kernel_rfl) hti htis g off cap k _ 0 (h1.keep (w' := w.drew) fun _ _ => rfl) (by omega) _ (L.length - (k + 1)) _ hsrc (by omega)
  rw [show k + (L.length - (k + 1)) = (del L k).length by omega] at ho hr
  rw [pcs_del] at ho
  obtain ⟨w2, hr2, ho2, hc2⟩ := run_clear_behind w1 0 g off cap (del L k).length (cap - (del L k).length) _ ho (by omega)
  rw [show 1 = L.length - (del L k).length by omega] at hr2
  have Hr := hide hr
  have Hr2 := hide hr2
  have Ho2 := hide ho2
  have Hc := hide ((Chg.refl (one_ g) w).drew.trans hc (fun _ _ h => h))
  have Hc2 := hide hc2
  have q1 : ((k : Int) == (k : Int) + 1) = false := by simp; omega
  have i1 : (0 : Int) ≤ k ∧ (k : Int) < L.length := by omega
  have i2 : (L.length : Int) ≤ cap := by omega
  have i3 : (del L k).length < L.length := by omega
  have i4 : ¬ cap = (del L k).length := by omega
  have i5 : (0 : Int) ≤ (k : Int) + 1 ∧ (k : Int) + 1 ≤ L.length := by omega
  have Hya := hide hya
  clear hya
  clear h h1 hr ho hc hr2 ho2 hc2 hdl hsrc
  go_enter Try.func26, Try.ntmps26
  go_wp2_with fail
  refine wp_region_perm [0, 1, 2, 3, 4, 5] [6, 7] (by kernel_rfl) (by kernel_rfl) (fun _ => True) trivial ?_
  simp only [pick, List.getElem?_cons_zero, List.getElem?_cons_succ]
  iterate 2
    refine wpTake_cons ?_ (by rfl) ?_ ?_
    rotate_left
    · (intro W hSW; go_simp; try with_reducible rfl)
    simp only [Act.put, List.setIfInBounds_toArray, List.set_cons_zero, List.set_cons_succ]
  refine wpTake_cons (.slice (some ⟨g, off, none⟩) k cap) (by rfl) (fun W _ => by go_simp; omega) ?_
  simp only [Act.put, List.setIfInBounds_toArray, List.set_cons_zero, List.set_cons_succ]
  iterate 2
    refine wpTake_cons ?_ (by rfl) ?_ ?_
    rotate_left
    · (intro W hSW; go_simp; try with_reducible rfl)
    simp only [Act.put, List.setIfInBounds_toArray, List.set_cons_zero, List.set_cons_succ]
  refine wpTake_cons (.slice ya (L.length - (k + 1)) (cap - (k + 1))) (by rfl) (fun W _ => by go_simp; exact Hya.out.symm) ?_
  simp only [Act.put, List.setIfInBounds_toArray, List.set_cons_zero, List.set_cons_succ]
  refine wpTake_nil ?_
  refine wpForce_cons fun K1 hK1 => ?_
  refine step_append (.slice (some ⟨g, off, none⟩) (del L k).length cap) (by rfl) (.tmp 22) (.tmp 25) 46 46 (by rfl) _ _ (by rfl) (by rfl) Hr.out ?_
  refine hK1.out _ _ trivial ?_
  simp only [Act.put, List.setIfInBounds_toArray, List.set_cons_zero, List.set_cons_succ]
  refine wpForce_one ?_
  clear hK1
  clear K1
  go_wp2
  refine NoPanic.normal ?_
  go_wp2_with fail
  simp only [Hr2.out, Result.andThen_ok]
  go_wp2
  go_ret
  exact ⟨rfl, Ho2.out, Hc.out.trans Hc2.out (fun _ _ h => h)⟩

def anyKid (pid c : Int) (L : List Pr) (k : Nat) : Bool := (L.take k).any (isKid pid c)
def eOf (b : Bool) : Int := if b then 0 else 16
theorem anyKid_step {pid c : Int} {L : List Pr} {k : Nat} {s : Pr} (hs : L[k]? = some s) : anyKid pid c L (k + 1) = (anyKid pid c L k || isKid pid c s) := by
  obtain ⟨hk, hs'⟩ := List.getElem?_eq_some_iff.1 hs
  unfold anyKid
  rw [List.take_succ_eq_append_getElem hk, List.any_append, hs']
  simp
theorem wait_here {pid c : Int} {L : List Pr} {k : Nat} {s : Pr} (hs : L[k]? = some s) (h1 : isKid pid c s = true) (h2 : s.dead = true) : waitAt pid c L k = some k := by
  obtain ⟨hk, hs'⟩ := List.getElem?_eq_some_iff.1 hs
  rw [waitAt, dif_pos hk, hs', h1, h2]
  rfl
theorem wait_next {pid c : Int} {L : List Pr} {k : Nat} {s : Pr} (hs : L[k]? = some s) (h : isKid pid c s = false ∨ s.dead = false) : waitAt pid c L k = waitAt pid c L (k + 1) := by
  obtain ⟨hk, hs'⟩ := List.getElem?_eq_some_iff.1 hs
  rw [waitAt, dif_pos hk, hs']
  rcases h with h | h <;> simp [h]

set_option maxHeartbeats 2000000 in
theorem wait_any (b : Nat) (S : Nat → Prop) (st : PS) (pid c : Int) (w : World) (h : TabIs w b S st) (hL : Lite st) (h1 : ∀ k, waitAt pid c st.L 0 = some k → liveN st.L pid ≠ none → 0 < (del st.L k).length) :
    Calls Try.prog 15 #[.pointer (some ⟨b, 0, none⟩), .int .i64 pid, .int .i64 c] w fun e w' => e = .returned (.tuple #[.int .i64 (waitRes st pid c).2.1, .int .i64 (waitRes st pid c).2.2.1, .int .i64 (waitRes st pid c).2.2.2]) ∧ TabTo w w' b S (waitRes st pid c).1 := by
  obtain ⟨v, mb, h, rfl⟩ := h
  obtain ⟨g, off, cap, hv, hcap, hcm, hg⟩ := h.prs.at h.pos
  subst hv
  have hlive := live_any b g off cap mb st pid w h
  have hlen := h.len
  have H := hide h
  obtain ⟨R, hR⟩ : ∃ R, waitRes st pid c = R := ⟨_, rfl⟩
  rw [hR]
  unfold waitRes at hR
  cases hl : liveN st.L pid with
  | none =>
    rw [hl] at hlive hR
    simp only at hR
    subst hR
    have Hl := hide hlive
    clear hlive hl h h1
    go_enter Try.func15, Try.ntmps15
    go_wp2_with fail
    refine Hl.out.mono ?_
    simp only [Option.map]
    rintro e w1 ⟨rfl, hg⟩
    have Hg := hide hg
    clear hg
    go_wp2
    go_returns
    exact ⟨rfl, TabTo.gr ⟨_, _, H.out, rfl⟩ Hg.out⟩
  | some n =>
    rw [hl] at hlive hR
    simp only at hR
    have Hl := hide hlive
    have H1 := hide (fun k hk => h1 k hk (by rw [hl]; simp))
    have HL := hide hL
    clear hlive hl h h1 hL
    obtain ⟨r, hr⟩ : ∃ r, waitAt pid c st.L 0 = r := ⟨_, rfl⟩
    rw [hr] at H1 hR
    have Hr := hide hr
    have HR := hide hR
    clear hr hR
    go_enter Try.func15, Try.ntmps15
    go_wp2_with fail
    refine Hl.out.mono ?_
    simp only [Option.map]
    rintro e w1 ⟨rfl, hg⟩
    have hT := H.out.gr hg
    obtain ⟨a0, a1, a2, a3⟩ := hT.blk.c4
    have Hg := hide hg
    clear hg hT
    go_wp2_with fail
    go_loopw [9, 21] (fun u1 u2 wr => ∃ k : Nat, u1 = .int .i64 (eOf (anyKid pid c st.L k)) ∧ u2 = .int .i64 k ∧ k ≤ st.L.length ∧ waitAt pid c st.L k = r ∧ w.grownBy wr none) (fun _ u _ => st.L.length - (intOf u).toNat)
    case atStart => exact ⟨0, rfl, rfl, by omega, Hr.out, Hg.out⟩
    case round =>
      obtain ⟨k, rfl, rfl, hk, hwait, hG⟩ := hrel
      by_cases hlt : k < st.L.length
      · have hT := H.out.gr hG
        obtain ⟨s, hs⟩ : ∃ s, st.L[k]? = some s := ⟨_, List.getElem?_eq_getElem hlt⟩
        obtain ⟨c0, c1, c2, c3, c4, c5, c6⟩ := hT.prs.c rfl hlt hs
        have q0 : decide ((k : Int) < (st.L.length : Int)) = true := by simp; omega
        have i1 : (0 : Int) ≤ k ∧ (k : Int) < (st.L.length : Int) := by omega
        have hG2 := only_alloc hG (.cells s.cells.toArray 34)
        have HG := hide hG
        have HG2 := hide hG2
        have HTr := hide hT
        have HT := hide (hT.gr (only_alloc (only_refl wr none) (.cells s.cells.toArray 34)))
        unfold Pr.cells at HG2 HT
        have hkd : isKid pid c s = (decide (s.par = pid) && !(decide (1 ≤ c) && !decide (s.pid = c))) := rfl
        have hak := anyKid_step (pid := pid) (c := c) hs
        clear hG hG2 hT
        by_cases hkid : isKid pid c s = true
        · have q1 : (s.par != pid) = false := by rw [hkid] at hkd; simp only [Bool.and_eq_true, Eq.comm (a := true)] at hkd; simpa using hkd.1
          have hq : decide (1 ≤ c) = false ∨ (decide (1 ≤ c) = true ∧ (s.pid != c) = false) := by
            rw [hkid] at hkd
            by_cases e1 : 1 ≤ c
            · refine .inr ⟨by simpa using e1, ?_⟩
              by_cases e2 : s.pid = c
              · simpa using e2
              · simp [e1, e2] at hkd
            · exact .inl (by simpa using e1)
          have hak2 : anyKid pid c st.L (k + 1) = true := by rw [hak, hkid, Bool.or_true]
          cases hd : s.dead with
          | false =>
            have hwn : waitAt pid c st.L (k + 1) = r := by rw [← wait_next hs (.inr hd)]; exact hwait
            rw [hd] at c5
            have Hwn := hide hwn
            have Hak := hide hak2
            clear hkd hak hak2 hwn hkid hwait hs
            rcases hq with q2 | ⟨q2, q3⟩
            · go_wp2
              go_roundw
              case rel => exact ⟨k + 1, by rw [Hak.out]; rfl, by go_num, by omega, Hwn.out, only_alloc HG.out _⟩
              case measure => simp [intOf]; omega
            · go_wp2
              go_roundw
              case rel => exact ⟨k + 1, by rw [Hak.out]; rfl, by go_num, by omega, Hwn.out, only_alloc HG.out _⟩
              case measure => simp [intOf]; omega
          | true =>
            have hwn : some k = r := by rw [← wait_here hs hkid hd]; exact hwait
            subst hwn
            rw [hd] at c5
            have Hs := hide hs
            have Hd := hide hd
            have hblk := (Blk.new wr 34 s.cells.toArray)
            have hTw := HT.out
            unfold Pr.cells at hblk
            rw [hd] at hblk hTw
            obtain ⟨b0, b1, b2, b3⟩ := HTr.out.blk.c4
            have z0 := HTr.out.blk.frozen 0
            have hbl := HTr.out.blk.lt
            have hgl := (HTr.out.v_ne (k := g) rfl).2.2
            have hml := HTr.out.ct.lt
            clear hkd hak hak2 hkid hwait hs hd
            rcases hq with q2 | ⟨q2, q3⟩
            · have HTw := hide hTw
              have Hblk := hide hblk
              clear hTw hblk
              go_wp2_with fail
              go_at_call 26
              refine (delete_any g off cap st.L k _ HTw.out.prs hlt hlen ⟨hcap, hcm⟩).mono ?_
              rintro e w2 ⟨rfl, hp, hc⟩
              have hc' : Chg (fun k => (Value.slice (some ⟨g, off, none⟩) st.L.length cap).ownBlock = some k) _ w2 := hc.mono (fun i _ hi => by rw [hi]; rfl)
              have hT2 := HTw.out.newL hc' (del st.L k) hp (fun i hi => .inl hi) (H1.out k rfl) (by have hdl : (del st.L k).length ≤ st.L.length := (by simp [del]; omega); exact Nat.le_trans hdl hlen)
              have hT1 := HTw.out.blk.chg hc' (fun e => (HTw.out.v_ne (k := g) rfl).1 (by simpa [Value.ownBlock] using e))
              have hbl2 := hT1.lt
              obtain ⟨x0, x1, x2, x3⟩ := hT1.c4
              have y0 := hT1.frozen 0
              have hbk := Hblk.out.chg hc' (fun e => by simp [Value.ownBlock] at e; omega)
              have hcc : Chg (tOwn b (.slice (some ⟨g, off, none⟩) st.L.length cap) mb) w w2 := (Chg.of_grown (only_alloc HG.out _) (fun _ h => by cases h) : Chg (tOwn b (.slice (some ⟨g, off, none⟩) st.L.length cap) mb) w _).trans hc (fun i _ hi => .inr (.inl (by rw [hi]; rfl)))
              have hkb : wr.heap.size ≠ b := by omega
              have hcc2 := hcc.setCell (p := ⟨b, 0, none⟩) (.inl (.inl rfl)) (.slice (some ⟨g, off, none⟩) (del st.L k).length cap)
              have hbk2 := hbk.far (p := ⟨b, 0, none⟩) hkb (.slice (some ⟨g, off, none⟩) (del st.L k).length cap)
              have HT2 := hide hT2
              have HC2 := hide hcc2
              have HB2 := hide hbk2
              clear hT2 hT1 hbk hbk2 hcc hcc2 hc hc' hp HTw Hblk
              have m0 : (w2.setCell ⟨b, 0, none⟩ (.slice (some ⟨g, off, none⟩) (del st.L k).length cap)).cell? ⟨wr.heap.size, 0, none⟩ = some (.int .i64 s.pid) := HB2.out.cell 0
              have m1 : (w2.setCell ⟨b, 0, none⟩ (.slice (some ⟨g, off, none⟩) (del st.L k).length cap)).cell? ⟨wr.heap.size, 1, none⟩ = some (.int .i64 s.par) := HB2.out.cell 1
              have m2 : (w2.setCell ⟨b, 0, none⟩ (.slice (some ⟨g, off, none⟩) (del st.L k).length cap)).cell? ⟨wr.heap.size, 2, none⟩ = some (.int .i64 s.usr) := HB2.out.cell 2
              have m3 : (w2.setCell ⟨b, 0, none⟩ (.slice (some ⟨g, off, none⟩) (del st.L k).length cap)).cell? ⟨wr.heap.size, 3, none⟩ = some (.int .i64 s.ses) := HB2.out.cell 3
              have m4 : (w2.setCell ⟨b, 0, none⟩ (.slice (some ⟨g, off, none⟩) (del st.L k).length cap)).cell? ⟨wr.heap.size, 4, none⟩ = some (.int .i64 s.sta) := HB2.out.cell 4
              have m5 : (w2.setCell ⟨b, 0, none⟩ (.slice (some ⟨g, off, none⟩) (del st.L k).length cap)).cell? ⟨wr.heap.size, 5, none⟩ = some (.bool true) := HB2.out.cell 5
              have m6 : (w2.setCell ⟨b, 0, none⟩ (.slice (some ⟨g, off, none⟩) (del st.L k).length cap)).cell? ⟨wr.heap.size, 6, none⟩ = some (.bool s.res) := HB2.out.cell 6
              go_wp2_with fail
              generalize w2.setCell ⟨b, 0, none⟩ (.slice (some ⟨g, off, none⟩) (del st.L k).length cap) = w3 at m0 m1 m2 m3 m4 m5 m6 HT2 HC2 HB2 ⊢
              have hag : (.agg #[.int .i64 s.pid, .int .i64 s.par, .int .i64 s.usr, .int .i64 s.ses, .int .i64 s.sta, .bool true, .bool s.res] : Value) = s.agg := by unfold Pr.agg; rw [Hd.out]
              rw [hag]
              go_wp2_with fail
              go_at_call 24
              refine (leaves_any b mb _ (withL st (del st.L k)) s w3 HT2.out (HL.out.usr s (List.mem_of_getElem? Hs.out)) (by have := HL.out.ul; simp only [withL]; omega) (by have := HL.out.f s.usr; simp only [withL]; omega) (by have := HL.out.sp; simp only [withL]; omega)).mono ?_
              rintro e w4 ⟨rfl, hT4, hC4⟩
              have hmb : wr.heap.size ≠ mb := by omega
              have hb4 := HB2.out.chg hC4 (fun e => e.elim hkb hmb)
              have n0 : w4.cell? ⟨wr.heap.size, 0, none⟩ = some (.int .i64 s.pid) := hb4.cell 0
              have n4 : w4.cell? ⟨wr.heap.size, 4, none⟩ = some (.int .i64 s.sta) := hb4.cell 4
              have HT4 := hide hT4
              have HC4 := hide (HC2.out.trans hC4 (fun i _ hi => hi.elim .inl (fun e => .inr (.inr e))))
              clear hT4 hC4 hb4
              go_wp2_with fail
              go_quiet (fail)
              go_wp2
              go_returns
              have hR := HR.out
              simp only [getD_of Hs.out] at hR
              subst hR
              exact ⟨rfl, TabTo.mk H.out (HT4.out.gr (only_drewN (only_refl _ _) nq)) (HC4.out.drewN nq) (fun i hi => .inl hi)⟩
            · have HTw := hide hTw
              have Hblk := hide hblk
              clear hTw hblk
              go_wp2_with fail
              go_at_call 26
              refine (delete_any g off cap st.L k _ HTw.out.prs hlt hlen ⟨hcap, hcm⟩).mono ?_
              rintro e w2 ⟨rfl, hp, hc⟩
              have hc' : Chg (fun k => (Value.slice (some ⟨g, off, none⟩) st.L.length cap).ownBlock = some k) _ w2 := hc.mono (fun i _ hi => by rw [hi]; rfl)
              have hT2 := HTw.out.newL hc' (del st.L k) hp (fun i hi => .inl hi) (H1.out k rfl) (by have hdl : (del st.L k).length ≤ st.L.length := (by simp [del]; omega); exact Nat.le_trans hdl hlen)
              have hT1 := HTw.out.blk.chg hc' (fun e => (HTw.out.v_ne (k := g) rfl).1 (by simpa [Value.ownBlock] using e))
              have hbl2 := hT1.lt
              obtain ⟨x0, x1, x2, x3⟩ := hT1.c4
              have y0 := hT1.frozen 0
              have hbk := Hblk.out.chg hc' (fun e => by simp [Value.ownBlock] at e; omega)
              have hcc : Chg (tOwn b (.slice (some ⟨g, off, none⟩) st.L.length cap) mb) w w2 := (Chg.of_grown (only_alloc HG.out _) (fun _ h => by cases h) : Chg (tOwn b (.slice (some ⟨g, off, none⟩) st.L.length cap) mb) w _).trans hc (fun i _ hi => .inr (.inl (by rw [hi]; rfl)))
              have hkb : wr.heap.size ≠ b := by omega
              have hcc2 := hcc.setCell (p := ⟨b, 0, none⟩) (.inl (.inl rfl)) (.slice (some ⟨g, off, none⟩) (del st.L k).length cap)
              have hbk2 := hbk.far (p := ⟨b, 0, none⟩) hkb (.slice (some ⟨g, off, none⟩) (del st.L k).length cap)
              have HT2 := hide hT2
              have HC2 := hide hcc2
              have HB2 := hide hbk2
              clear hT2 hT1 hbk hbk2 hcc hcc2 hc hc' hp HTw Hblk
              have m0 : (w2.setCell ⟨b, 0, none⟩ (.slice (some ⟨g, off, none⟩) (del st.L k).length cap)).cell? ⟨wr.heap.size, 0, none⟩ = some (.int .i64 s.pid) := HB2.out.cell 0
              have m1 : (w2.setCell ⟨b, 0, none⟩ (.slice (some ⟨g, off, none⟩) (del st.L k).length cap)).cell? ⟨wr.heap.size, 1, none⟩ = some (.int .i64 s.par) := HB2.out.cell 1
              have m2 : (w2.setCell ⟨b, 0, none⟩ (.slice (some ⟨g, off, none⟩) (del st.L k).length cap)).cell? ⟨wr.heap.size, 2, none⟩ = some (.int .i64 s.usr) := HB2.out.cell 2
              have m3 : (w2.setCell ⟨b, 0, none⟩ (.slice (some ⟨g, off, none⟩) (del st.L k).length cap)).cell? ⟨wr.heap.size, 3, none⟩ = some (.int .i64 s.ses) := HB2.out.cell 3
              have m4 : (w2.setCell ⟨b, 0, none⟩ (.slice (some ⟨g, off, none⟩) (del st.L k).length cap)).cell? ⟨wr.heap.size, 4, none⟩ = some (.int .i64 s.sta) := HB2.out.cell 4
              have m5 : (w2.setCell ⟨b, 0, none⟩ (.slice (some ⟨g, off, none⟩) (del st.L k).length cap)).cell? ⟨wr.heap.size, 5, none⟩ = some (.bool true) := HB2.out.cell 5
              have m6 : (w2.setCell ⟨b, 0, none⟩ (.slice (some ⟨g, off, none⟩) (del st.L k).length cap)).cell? ⟨wr.heap.size, 6, none⟩ = some (.bool s.res) := HB2.out.cell 6
              go_wp2_with fail
              generalize w2.setCell ⟨b, 0, none⟩ (.slice (some ⟨g, off, none⟩) (del st.L k).length cap) = w3 at m0 m1 m2 m3 m4 m5 m6 HT2 HC2 HB2 ⊢
              have hag : (.agg #[.int .i64 s.pid, .int .i64 s.par, .int .i64 s.usr, .int .i64 s.ses, .int .i64 s.sta, .bool true, .bool s.res] : Value) = s.agg := by unfold Pr.agg; rw [Hd.out]
              rw [hag]
              go_wp2_with fail
              go_at_call 24
              refine (leaves_any b mb _ (withL st (del st.L k)) s w3 HT2.out (HL.out.usr s (List.mem_of_getElem? Hs.out)) (by have := HL.out.ul; simp only [withL]; omega) (by have := HL.out.f s.usr; simp only [withL]; omega) (by have := HL.out.sp; simp only [withL]; omega)).mono ?_
              rintro e w4 ⟨rfl, hT4, hC4⟩
              have hmb : wr.heap.size ≠ mb := by omega
              have hb4 := HB2.out.chg hC4 (fun e => e.elim hkb hmb)
              have n0 : w4.cell? ⟨wr.heap.size, 0, none⟩ = some (.int .i64 s.pid) := hb4.cell 0
              have n4 : w4.cell? ⟨wr.heap.size, 4, none⟩ = some (.int .i64 s.sta) := hb4.cell 4
              have HT4 := hide hT4
              have HC4 := hide (HC2.out.trans hC4 (fun i _ hi => hi.elim .inl (fun e => .inr (.inr e))))
              clear hT4 hC4 hb4
              go_wp2_with fail
              go_quiet (fail)
              go_wp2
              go_returns
              have hR := HR.out
              simp only [getD_of Hs.out] at hR
              subst hR
              exact ⟨rfl, TabTo.mk H.out (HT4.out.gr (only_drewN (only_refl _ _) nq)) (HC4.out.drewN nq) (fun i hi => .inl hi)⟩
        · have hkid' : isKid pid c s = false := by simpa using hkid
          have hak2 : anyKid pid c st.L (k + 1) = anyKid pid c st.L k := by rw [hak, hkid', Bool.or_false]
          have hwn : waitAt pid c st.L (k + 1) = r := by rw [← wait_next hs (.inl hkid')]; exact hwait
          have hq : (s.par != pid) = true ∨ ((s.par != pid) = false ∧ decide (1 ≤ c) = true ∧ (s.pid != c) = true) := by
            rw [hkid'] at hkd
            by_cases e0 : s.par = pid
            · refine .inr ⟨by simpa using e0, ?_⟩
              by_cases e1 : 1 ≤ c
              · refine ⟨by simpa using e1, ?_⟩
                by_cases e2 : s.pid = c
                · simp [e0, e2] at hkd
                · simpa using e2
              · simp [e0, e1] at hkd
            · exact .inl (by simpa using e0)
          have Hwn := hide hwn
          have Hak := hide hak2
          clear hkd hak hak2 hwn hkid hkid' hwait hs
          rcases hq with q1 | ⟨q1, q2, q3⟩
          · go_wp2
            go_roundw
            case rel => exact ⟨k + 1, by rw [Hak.out], by go_num, by omega, Hwn.out, only_alloc HG.out _⟩
            case measure => simp [intOf]; omega
          · go_wp2
            go_roundw
            case rel => exact ⟨k + 1, by rw [Hak.out], by go_num, by omega, Hwn.out, only_alloc HG.out _⟩
            case measure => simp [intOf]; omega
      · have q0 : decide ((k : Int) < (st.L.length : Int)) = false := by simp; omega
        have hwn : none = r := by rw [← hwait, waitAt, dif_neg hlt]
        subst hwn
        have e1 : st.L.any (isKid pid c) = anyKid pid c st.L k := by unfold anyKid; rw [List.take_of_length_le (by omega)]
        have HE1 := hide e1
        have HG := hide hG
        clear hG hwait e1
        go_wp2
        go_returns
        have hR := HR.out
        simp only [HE1.out] at hR
        subst hR
        exact ⟨rfl, TabTo.gr ⟨_, _, H.out, rfl⟩ HG.out⟩

end Go.Proofs.Ytljlbdbgocohlaa
