/- slices.Insert of one var. -/
import Derived.Test.YtdcfpklohleoiaaDoorD
namespace Go.Proofs.YtdcfpklohleoiaaDoor
open Go.RowKit Go.Lib
set_option maxRecDepth 100000

/-- A slice of these: where the old one lay, or of the call's own. -/
def InPost (w : World) (v : Value) (vs : List V) (e : Ending) (w' : World) : Prop := ∃ v', e = .returned v' ∧ Own w' 35 4 v' vs.length (vcs vs) 0 ∧ (∀ b, v'.ownBlock = some b → v.ownBlock = some b ∨ w.heap.size ≤ b) ∧ Chg (fun b => v.ownBlock = some b) w w'

set_option maxHeartbeats 1000000 in
theorem insert_end (vs : List V) (x : V) (v : Value) (xb : Nat) (w : World) (hl : vs.length ≤ 1000) (ho : Own w 35 4 v vs.length (vcs vs) 0) (hx : Blk w xb 35 x.cells.toArray) :
    Calls Tryd.prog 50 #[v, .int .i64 vs.length, .slice (some ⟨xb, 0, none⟩) 1 1] w (InPost w v (vs ++ [x])) := by
  obtain ⟨a, cap, rfl, hn, hcm⟩ := ho.form
  have hox : Own w 35 4 (.slice (some ⟨xb, 0, none⟩) 1 1) 1 (vcs [x]) 0 := ⟨rfl, .inr ⟨xb, 0, 1, _, (0, 0), rfl, hx, Nat.le_refl _, Nat.le_refl _, by unfold maxLen; omega, by show 0 + 1 * 4 ≤ 4; omega, fun j hj => by rw [Nat.zero_add]; simp [vcs]⟩⟩
  have hsrc := Own.src (P := Tryd.prog) (tx := 25) (e' := 35) hox (by kernel_rfl) (vcs_one [x])
  have HO := hide ho
  have Hsrc := hide hsrc
  have hib : (0 : Int) ≤ (vs.length : Int) ∧ (vs.length : Int) ≤ (vs.length : Int) := by omega
  clear hsrc hox hx ho
  by_cases hc : cap = vs.length
  · subst hc
    go_enter Tryd.func50, Tryd.ntmps50
    go_wp2_with (at_builtin; refine wpList_appAt 35 (.agg #[.string ⟨#[]⟩, .string ⟨#[]⟩, .bool false, .bool false]) 4 40 Tryd.underlying25 info35 rfl (.slice a vs.length vs.length) vs.length (vcs vs) 0 _ 1 (vcs [x]) rfl rfl HO.out (by omega) Hsrc.out (by unfold maxLen; omega) (by omega) ?_; intro v' w' ho hc hn _; (have HO2 := hide ho); (have HC := hide hc); (have HN := hide hn); clear ho hc hn)
    go_ret
    exact ⟨v', rfl, by rw [vcs_app, List.length_append]; exact HO2.out, HN.out, HC.out⟩
  · go_enter Tryd.func50, Tryd.ntmps50
    go_wp2_with (at_builtin; refine wpList_appAt 35 (.agg #[.string ⟨#[]⟩, .string ⟨#[]⟩, .bool false, .bool false]) 4 40 Tryd.underlying25 info35 rfl (.slice a vs.length cap) vs.length (vcs vs) 0 _ 1 (vcs [x]) rfl rfl HO.out (by omega) Hsrc.out (by unfold maxLen; omega) (by omega) ?_; intro v' w' ho hc hn _; (have HO2 := hide ho); (have HC := hide hc); (have HN := hide hn); clear ho hc hn)
    go_ret
    exact ⟨v', rfl, by rw [vcs_app, List.length_append]; exact HO2.out, HN.out, HC.out⟩

theorem setCells_drew (b o : Nat) (vs : List Value) (w : World) : w.drew.setCells b o vs = (w.setCells b o vs).drew := (drew_setCells b vs o w).symm
theorem Chg.puts {S : Nat → Prop} {a w : World} (h : Chg S a w) {b : Nat} (hb : S b ∨ a.heap.size ≤ b) : ∀ (vs : List Value) (o : Nat), Chg S a (w.setCells b o vs) := by
  intro vs
  induction vs generalizing w with
  | nil => intro o; exact h
  | cons v r ih => intro o; exact ih (h.setCell (p := ⟨b, o, none⟩) hb v) (o + 1)
theorem Own.drew {w : World} {e : TypeId} {size n k : Nat} {v : Value} {xs : List Value} (h : Own w e size v n xs k) : Own w.drew e size v n xs k := h

set_option maxHeartbeats 4000000 in
theorem insert_room (vs : List V) (x : V) (g off cap : Nat) (i xb : Nat) (w : World) (hl : vs.length ≤ 1000) (hi : i < vs.length) (hr : vs.length + 1 ≤ cap) (hcm : cap ≤ maxLen) (ho : Own w 35 4 (.slice (some ⟨g, off, none⟩) vs.length cap) vs.length (vcs vs) 0) (hx : Blk w xb 35 x.cells.toArray) (hne : xb ≠ g) :
    Calls Tryd.prog 50 #[.slice (some ⟨g, off, none⟩) vs.length cap, .int .i64 i, .slice (some ⟨xb, 0, none⟩) 1 1] w (InPost w (.slice (some ⟨g, off, none⟩) vs.length cap) (vs.take i ++ x :: vs.drop i)) := by
  unfold maxLen at hcm
  have hov : ∀ o' lb cb, (callFunc 59 #[.slice (some ⟨xb, 0, none⟩) 1 1, .slice (some ⟨g, o', none⟩) lb cb]).run Tryd.prog w = .ok (.value (.bool false)) w := by
    intro o' lb cb
    obtain ⟨cur, fz, hg, hsz⟩ : ∃ cur fz, w.heap[g]? = some (.cells cur 35 fz) ∧ cur.size ≠ 0 := by
      rcases ho.2 with ⟨hv, _⟩ | ⟨g', off', cap', cur, fz, hv, hg, hfz, hnc, hcm, hcs, hcells⟩
      · injection hv with hv _ _
        cases hv
      injection hv with hv _ hcap
      injection hv with hv
      injection hv with e1 e2 _
      subst e1
      exact ⟨cur, fz, hg, by omega⟩
    rw [run_callFunc_extern Tryd.func59 (by kernel_rfl) (by kernel_rfl) (by kernel_rfl) (e := Extern.SlicesOverlaps.overlaps #[25, 25] #[4]) (by kernel_rfl),
      Lib.run_overlaps_apart w 25 4 35 Tryd.underlying25 4 (fun w => by simp [sizeOf, typeInfo]; kernel_rfl) ⟨xb, 0, none⟩ ⟨g, o', none⟩ 1 1 lb cb hne 35 35 4 cur.size (by simp [World.shape?, show w.heap[xb]? = _ from hx, V.cells]) (by simp [World.shape?, hg]) hsz (Blk.frozen hx 0) (Blk.frozen hx 4)]
    rfl
  obtain ⟨ys, hyl, hoy⟩ := ho.more hr
  have hvl := vcs_len vs
  have hdl : (vcs (vs.drop i)).length = (vs.length - i) * 4 := by rw [vcs_len, List.length_drop]
  have hcp1 : ∀ ty dc sc, (Builtin.copy_ #[25, 25] ty #[.slice (some ⟨g, off + (i + 1) * 4, none⟩) (vs.length - i) dc, .slice (some ⟨g, off + i * 4, none⟩) (vs.length + 1 - i) sc]).run Tryd.prog w.drew = .ok (goInt (Nat.min (vs.length + 1 - i) (vs.length - i))) (w.drew.setCells g (off + (i + 1) * 4) (vcs (vs.drop i))) := fun ty dc sc =>
    run_copy_K w.drew 25 25 ty 35 4 g (off + (i + 1) * 4) (vs.length - i) dc ⟨g, off + i * 4, none⟩ (vs.length + 1 - i) sc (vcs (vs.drop i)) Tryd.underlying25 (by kernel_rfl)
      (by rw [hdl]; congr 1; simp only [Nat.min_def]; split <;> omega)
      (fun j v hj => by
        have hj2 : j < (vs.length - i) * 4 := by rw [← hdl]; exact (List.getElem?_eq_some_iff.1 hj).1
        rw [Addr.add_lit, Nat.add_assoc]
        refine (ho.cellAt (i * 4 + j) (by omega)).1.trans ?_
        rw [← vcs_drop, List.getElem?_drop] at hj
        exact hj)
      (fun j hj => by
        rw [hdl] at hj
        rw [Nat.add_assoc]
        show (w.cell? _).isSome = true
        rw [(hoy.cellAt ((i + 1) * 4 + j) (by omega)).1]
        exact (hoy.cellAt ((i + 1) * 4 + j) (by omega)).2)
      (fun j hj => by rw [Nat.add_assoc]; exact hoy.frozen0 _)
      (vcs_one _)
  obtain ⟨W1, hW1⟩ : ∃ W1, W1 = w.drew.setCells g (off + (i + 1) * 4) (vcs (vs.drop i)) := ⟨_, rfl⟩
  have ho1 : Own W1 35 4 (.slice (some ⟨g, off, none⟩) (vs.length + 1) cap) (vs.length + 1) ((vcs vs ++ ys).take ((i + 1) * 4) ++ vcs (vs.drop i) ++ (vcs vs ++ ys).drop ((i + 1) * 4 + (vcs (vs.drop i)).length)) 0 := by
    rw [hW1]
    exact Own.puts (Own.drew hoy) ((i + 1) * 4) (vcs (vs.drop i)) (by rw [hdl]; omega)
  have hx1 : Blk W1 xb 35 x.cells.toArray := by
    rw [hW1]
    exact (World.heap_setCells_other w.drew g _ _ hx.lt (fun e => hne e)).trans hx
  have ho2 := ho1.puts (i * 4) (vcs [x]) (by rw [vcs_len]; show i * 4 + 1 * 4 ≤ _; omega)
  have hfin : ∀ zs, ((vcs vs ++ ys).take ((i + 1) * 4) ++ vcs (vs.drop i) ++ (vcs vs ++ ys).drop ((i + 1) * 4 + (vcs (vs.drop i)).length)) = zs → zs.take (i * 4) ++ vcs [x] ++ zs.drop (i * 4 + (vcs [x]).length) = vcs (vs.take i ++ x :: vs.drop i) := by
    rintro zs rfl
    have hdrop0 : (vcs vs ++ ys).drop ((i + 1) * 4 + (vcs (vs.drop i)).length) = [] := List.drop_eq_nil_of_le (by rw [List.length_append, hyl, hvl, hdl]; omega)
    rw [hdrop0, List.append_nil]
    have htl : ((vcs vs ++ ys).take ((i + 1) * 4)).length = (i + 1) * 4 := by rw [List.length_take, List.length_append, hyl, hvl]; omega
    rw [show vcs [x] = x.cells by simp [vcs], vcs_app (vs.take i), vcs_cons x (vs.drop i), show x.cells.length = 4 from rfl, show i * 4 + 4 = (i + 1) * 4 by omega]
    have e1 : ((vcs vs ++ ys).take ((i + 1) * 4) ++ vcs (vs.drop i)).take (i * 4) = vcs (vs.take i) := by
      rw [List.take_append_of_le_length (by omega), List.take_take, Nat.min_eq_left (by omega), List.take_append_of_le_length (by omega), vcs_take]
    have e2 : ((vcs vs ++ ys).take ((i + 1) * 4) ++ vcs (vs.drop i)).drop ((i + 1) * 4) = vcs (vs.drop i) := List.drop_left' htl
    rw [e1, e2, List.append_assoc]
  rw [hfin _ rfl] at ho2
  have hcp2 : ∀ (W : World), (∀ x, W.cell? x = W1.cell? x) → (∀ x, W.frozen? x = W1.frozen? x) → ∀ ty dc, (Builtin.copy_ #[25, 25] ty #[.slice (some ⟨g, off + i * 4, none⟩) (vs.length + 1 - i) dc, .slice (some ⟨xb, 0, none⟩) 1 1]).run Tryd.prog W = .ok (goInt (Nat.min 1 (vs.length + 1 - i))) (W.setCells g (off + i * 4) (vcs [x])) := fun W hWc hWf ty dc =>
    run_copy_K W 25 25 ty 35 4 g (off + i * 4) (vs.length + 1 - i) dc ⟨xb, 0, none⟩ 1 1 (vcs [x]) Tryd.underlying25 (by kernel_rfl) (by rw [vcs_len]; congr 1; simp only [Nat.min_def]; split <;> first | rfl | (exfalso; omega))
      (fun j v hj => by
        rw [Addr.add_lit, hWc, Nat.zero_add, Blk.cell hx1]
        simpa [vcs] using hj)
      (fun j hj => by
        rw [vcs_len] at hj
        have hj : j < 4 := hj
        rw [hWc, Nat.add_assoc, (ho1.cellAt (i * 4 + j) (by omega)).1]
        exact (ho1.cellAt (i * 4 + j) (by omega)).2)
      (fun j hj => by rw [hWf, Nat.add_assoc]; exact ho1.frozen0 _) (vcs_one [x])
  rw [← hW1] at hcp1
  have hW1c : Chg (fun b => (Value.slice (some ⟨g, off, none⟩) vs.length cap).ownBlock = some b) w W1 := by rw [hW1]; exact Chg.puts (Chg.drew (Chg.refl _ w)) (.inl (by simp [Value.ownBlock])) _ _
  have HC2 := hide hcp2
  have HO2 := hide ho2
  have HW1 := hide hW1c
  have hw1 : IntKind.i64.wrap ((i : Int) + 1) = (i : Int) + 1 := by rw [IntKind.wrap_i64]; omega
  have hb1 : (0 : Int) ≤ (i : Int) + 1 := by omega
  have hin : i ≤ vs.length := by omega
  have htn : ((i : Int) + 1).toNat = i + 1 := by omega
  have hb2 : ¬ (cap = i + 1) := by omega
  have hb3 : (i : Int) ≤ (vs.length : Int) + 1 := by omega
  have hb4 : ¬ (cap = i) := by omega
  have hz2 : ¬ ((i : Int) = (vs.length : Int)) := by omega
  have hz3 : ((i : Int) == (vs.length : Int)) = false := by rw [beq_eq_false_iff_ne]; omega
  have hq4 : decide ((cap : Int) < (vs.length : Int) + 1) = false := decide_eq_false (by omega)
  have mixed : Tryd.prog.follows .mixedOrders = true := by kernel_rfl
  clear ho2 hcp2 hW1c hfin ho1 hx1 hoy hdl hvl hyl ho hx hW1
  go_enter Tryd.func50, Tryd.ntmps50
  go_wp2_with (simp only [hov])
  go_region_law_o (refine step_copy_runI rfl _ _ 25 25 rfl _ _ (by simp [Act.eval, Act.put]) (by simp [Act.eval, Act.put]) (hcp1 _ _ _) ?_)
  have hcp3 := HC2.out W1 (fun _ => rfl) (fun _ => rfl)
  go_wp2_with fail
  go_ret
  refine ⟨_, rfl, ?_, fun b hb => .inl hb, ?_⟩
  · have := HO2.out
    rwa [show (vs.take i ++ x :: vs.drop i).length = vs.length + 1 by rw [List.length_append, List.length_take, List.length_cons, List.length_drop]; omega]
  · exact Chg.puts HW1.out (.inl (by simp [Value.ownBlock])) _ _

set_option maxHeartbeats 4000000 in
theorem insert_grow (vs : List V) (x : V) (g off cap : Nat) (i xb : Nat) (w : World) (hl : vs.length ≤ 1000) (hi : i < vs.length) (hr : cap < vs.length + 1) (ho : Own w 35 4 (.slice (some ⟨g, off, none⟩) vs.length cap) vs.length (vcs vs) 0) (hx : Blk w xb 35 x.cells.toArray) :
    Calls Tryd.prog 50 #[.slice (some ⟨g, off, none⟩) vs.length cap, .int .i64 i, .slice (some ⟨xb, 0, none⟩) 1 1] w (InPost w (.slice (some ⟨g, off, none⟩) vs.length cap) (vs.take i ++ x :: vs.drop i)) := by
  have hcl : vs.length ≤ cap := by
    obtain ⟨a', c', hv, h1, _⟩ := ho.form
    injection hv with _ _ hc
    omega
  have hgl : g < w.heap.size := ho.lt rfl
  have hvl := vcs_len vs
  have htl : (vcs (vs.take i)).length = i * 4 := by rw [vcs_len, List.length_take]; congr 1; omega
  have hdl : (vcs (vs.drop i)).length = (vs.length - i) * 4 := by rw [vcs_len, List.length_drop]
  obtain ⟨i0, hi0, hz0, hzs, hzb⟩ := info_parts info35
  have hold : (Builtin.firstCells i0.size i (.slice (some ⟨g, off, none⟩) i cap)).run Tryd.prog w.drew = .ok (vcs (vs.take i)).toArray w.drew :=
    run_firstCells_some w.drew i0.size i ⟨g, off, none⟩ i cap (vcs (vs.take i)) (by rw [htl, hzs]) (fun j u hj => by
      have hj2 : j < i * 4 := by rw [← htl]; exact (List.getElem?_eq_some_iff.1 hj).1
      rw [Addr.add_lit]
      refine (ho.cellAt j (by omega)).1.trans ?_
      rw [← vcs_take, List.getElem?_take, if_pos hj2] at hj
      exact hj)
  have hrun := fun ty => run_append_zeros_grow (P := Tryd.prog) w 25 3 ty 35 i0 _ .i64 .i64 Tryd.underlying25 Tryd.underlying3 hi0 hz0 ⟨g, off, none⟩ i cap _ hold (vs.length + 1 - i) (by omega) (by rw [hzs]; omega) (by omega) (by omega) (by rw [hzb]; omega)
  rw [show i + (vs.length + 1 - i) = vs.length + 1 by omega, show ((vs.length + 1 - i : Nat) : Int) = (vs.length : Int) + 1 - (i : Int) by omega] at hrun
  obtain ⟨C, hC⟩ : ∃ C, grownCap w (vs.length + 1) cap 35 = C := ⟨_, rfl⟩
  have hCge := grownCap_ge w (vs.length + 1) cap 35
  have hCle := grownCap_le_maxLen w (vs.length + 1) cap 35 (by unfold maxLen; omega)
  rw [hC] at hrun hCge hCle
  obtain ⟨Z, hZ⟩ : ∃ Z, Builtin.zeroCells (Value.agg #[.string ⟨#[]⟩, .string ⟨#[]⟩, .bool false, .bool false]).cells (vs.length + 1 - i) = Z := ⟨_, rfl⟩
  obtain ⟨Y, hY⟩ : ∃ Y, Builtin.zeroCells (Value.agg #[.string ⟨#[]⟩, .string ⟨#[]⟩, .bool false, .bool false]).cells (C - (vs.length + 1)) = Y := ⟨_, rfl⟩
  have hZs : Z.size = (vs.length + 1 - i) * 4 := by rw [← hZ, size_zeroCells]; rfl
  have hYs : Y.size = (C - (vs.length + 1)) * 4 := by rw [← hY, size_zeroCells]; rfl
  rw [hZ, hY] at hrun
  obtain ⟨W1, hW1⟩ : ∃ W1, W1 = w.drew.alloc (.cells ((vcs (vs.take i)).toArray ++ Z ++ Y) 35) := ⟨_, rfl⟩
  have ho1 : Own W1 35 4 (.slice (some ⟨w.heap.size, 0, none⟩) (vs.length + 1) C) (vs.length + 1) (vcs (vs.take i) ++ Z.toList) 0 := by
    refine ⟨by rw [List.length_append, htl, Array.length_toList, hZs]; omega, .inr ⟨w.heap.size, 0, C, (vcs (vs.take i)).toArray ++ Z ++ Y, (0, 0), rfl, by rw [hW1]; exact heap_alloc_new w.drew _, Nat.zero_le _, hCge, hCle, ?_, fun j hj => ?_⟩⟩
    · rw [Array.size_append, Array.size_append, List.size_toArray, htl, hZs, hYs]; omega
    · rw [Nat.zero_add, Array.getElem?_append_left (by rw [Array.size_append, List.size_toArray, htl, hZs]; omega)]
      rw [← Array.getElem?_toList, Array.toList_append]
  have hx1 : Blk W1 xb 35 x.cells.toArray := by rw [hW1]; exact Blk.alloc (Blk.drew hx) _
  have hg1 : Own W1 35 4 (.slice (some ⟨g, off, none⟩) vs.length cap) vs.length (vcs vs) 0 := by rw [hW1]; exact Own.alloc (Own.drew ho) _
  have hW1c : w.grownBy W1 none := by rw [hW1]; exact only_alloc (only_drew (only_refl w none)) _
  have ho2 := ho1.puts (i * 4) (vcs [x]) (by rw [vcs_len]; show i * 4 + 1 * 4 ≤ _; omega)
  obtain ⟨W2, hW2⟩ : ∃ W2, W2 = W1.setCells w.heap.size (i * 4) (vcs [x]) := ⟨_, rfl⟩
  rw [Nat.zero_add, ← hW2] at ho2
  have hcp1 : ∀ ty dc, (Builtin.copy_ #[25, 25] ty #[.slice (some ⟨w.heap.size, i * 4, none⟩) (vs.length + 1 - i) dc, .slice (some ⟨xb, 0, none⟩) 1 1]).run Tryd.prog W1 = .ok (goInt (Nat.min 1 (vs.length + 1 - i))) W2 := fun ty dc => by
    rw [hW2]
    exact run_copy_K W1 25 25 ty 35 4 w.heap.size (i * 4) (vs.length + 1 - i) dc ⟨xb, 0, none⟩ 1 1 (vcs [x]) Tryd.underlying25 (by kernel_rfl) (by rw [vcs_len]; congr 1; simp only [Nat.min_def]; split <;> first | rfl | (exfalso; omega))
      (fun j v hj => by
        rw [Addr.add_lit, Nat.zero_add, Blk.cell hx1]
        simpa [vcs] using hj)
      (fun j hj => by
        rw [vcs_len] at hj
        have hj : j < 4 := hj
        have := ho1.cellAt (i * 4 + j) (by omega)
        rw [Nat.zero_add] at this
        rw [this.1]; exact this.2)
      (fun j hj => by have := ho1.frozen0 (i * 4 + j); rwa [Nat.zero_add] at this) (vcs_one [x])
  have hg2 : Own W2 35 4 (.slice (some ⟨g, off, none⟩) vs.length cap) vs.length (vcs vs) 0 := by
    rw [hW2]
    exact hg1.keep (fun b hb => World.heap_setCells_other W1 w.heap.size _ _ (hg1.lt hb) (fun e => by simp [Value.ownBlock] at hb; omega))
  have ho3 := (Own.drew ho2).puts ((i + 1) * 4) (vcs (vs.drop i)) (by rw [hdl]; omega)
  rw [Nat.zero_add] at ho3
  obtain ⟨W3, hW3⟩ : ∃ W3, W3 = W2.drew.setCells w.heap.size ((i + 1) * 4) (vcs (vs.drop i)) := ⟨_, rfl⟩
  rw [← hW3] at ho3
  have hcp2 : ∀ ty dc sc, (Builtin.copy_ #[25, 25] ty #[.slice (some ⟨w.heap.size, (i + 1) * 4, none⟩) (vs.length - i) dc, .slice (some ⟨g, off + i * 4, none⟩) (vs.length - i) sc]).run Tryd.prog W2.drew = .ok (goInt (Nat.min (vs.length - i) (vs.length - i))) W3 := fun ty dc sc => by
    rw [hW3]
    exact run_copy_K W2.drew 25 25 ty 35 4 w.heap.size ((i + 1) * 4) (vs.length - i) dc ⟨g, off + i * 4, none⟩ (vs.length - i) sc (vcs (vs.drop i)) Tryd.underlying25 (by kernel_rfl)
      (by rw [hdl]; congr 1; simp only [Nat.min_def]; split <;> omega)
      (fun j v hj => by
        have hj2 : j < (vs.length - i) * 4 := by rw [← hdl]; exact (List.getElem?_eq_some_iff.1 hj).1
        rw [Addr.add_lit, Nat.add_assoc]
        refine (hg2.cellAt (i * 4 + j) (by omega)).1.trans ?_
        rw [← vcs_drop, List.getElem?_drop] at hj
        exact hj)
      (fun j hj => by
        rw [hdl] at hj
        have := (Own.drew ho2).cellAt ((i + 1) * 4 + j) (by omega)
        rw [Nat.zero_add] at this
        rw [this.1]; exact this.2)
      (fun j hj => by have := (Own.drew ho2).frozen0 ((i + 1) * 4 + j); rwa [Nat.zero_add] at this)
      (vcs_one _)
  have hfin : ∀ zs, ((vcs (vs.take i) ++ Z.toList).take (i * 4) ++ vcs [x] ++ (vcs (vs.take i) ++ Z.toList).drop (i * 4 + (vcs [x]).length)) = zs → zs.take ((i + 1) * 4) ++ vcs (vs.drop i) ++ zs.drop ((i + 1) * 4 + (vcs (vs.drop i)).length) = vcs (vs.take i ++ x :: vs.drop i) := by
    rintro zs hzs2
    rw [List.take_append_of_le_length (by omega), List.take_of_length_le (by omega)] at hzs2
    have hx4 : vcs [x] = x.cells := by simp [vcs]
    have hzl : zs.length = (vs.length + 1) * 4 := by
      have zl : Z.toList.length = (vs.length + 1 - i) * 4 := by rw [Array.length_toList, hZs]
      rw [← hzs2, hx4, List.length_append, List.length_append, List.length_drop, List.length_append, htl, zl, show x.cells.length = 4 from rfl]; omega
    have h1 : zs.take ((i + 1) * 4) = vcs (vs.take i) ++ x.cells := by
      rw [← hzs2, hx4]
      exact List.take_left' (by rw [List.length_append, htl, show x.cells.length = 4 from rfl]; omega)
    have h2 : zs.drop ((i + 1) * 4 + (vcs (vs.drop i)).length) = [] := List.drop_eq_nil_of_le (by rw [hzl, hdl]; omega)
    rw [h1, h2, List.append_nil, vcs_app, vcs_cons, List.append_assoc]
  rw [hfin _ rfl] at ho3
  have hW3c : Chg nobody w W3 := by
    rw [hW3]
    refine Chg.puts (Chg.drew ?_) (.inr (Nat.le_refl _)) _ _
    rw [hW2]
    exact Chg.puts (Chg.of_grown hW1c (fun k hk => by cases hk)) (.inr (Nat.le_refl _)) _ _
  have HO3 := hide ho3
  have HW3 := hide hW3c
  have hw1 : IntKind.i64.wrap ((i : Int) + 1) = (i : Int) + 1 := by rw [IntKind.wrap_i64]; omega
  have hb1 : (0 : Int) ≤ (i : Int) + 1 := by omega
  have hin : i ≤ vs.length := by omega
  have htn : ((i : Int) + 1).toNat = i + 1 := by omega
  have hb2 : ¬ (C = i + 1) := by omega
  have hb3 : (i : Int) ≤ (vs.length : Int) + 1 := by omega
  have hb4 : ¬ (cap = i) := by omega
  have hb5 : ¬ (C = i) := by omega
  have hz3 : ((i : Int) == (vs.length : Int)) = false := by rw [beq_eq_false_iff_ne]; omega
  have hz4 : ¬ ((i : Int) = (vs.length : Int)) := by omega
  have hq4 : decide ((cap : Int) < (vs.length : Int) + 1) = true := decide_eq_true (by omega)
  have mixed : Tryd.prog.follows .mixedOrders = true := by kernel_rfl
  rw [← hW1] at hrun
  have Hrun := hide hrun
  clear hrun ho3 hW3c hfin hW3 ho2 ho1 hx1 hg1 hg2 hW1c hdl htl hvl ho hx hW1 hW2 hZ hY hZs hYs hC hold hzs hzb hi0 hz0
  go_enter Tryd.func50, Tryd.ntmps50
  go_wp2_with (at_builtin; refine Lib.wpList_append_run _ rfl _ _ _ _ rfl _ _ rfl rfl _ _ (Hrun.out _) ?_)
  go_region_law_o (refine step_copy_runI rfl _ _ 25 25 rfl _ _ (by simp [Act.eval, Act.put]) (by simp [Act.eval, Act.put]) (hcp2 _ _ _) ?_)
  go_wp2_with fail
  go_ret
  refine ⟨_, rfl, ?_, fun b hb => .inr ?_, ?_⟩
  · have := HO3.out
    rwa [show (vs.take i ++ x :: vs.drop i).length = vs.length + 1 by rw [List.length_append, List.length_take, List.length_cons, List.length_drop]; omega]
  · simp [Value.ownBlock] at hb; omega
  · exact HW3.out.mono (fun _ _ h => h.elim)
theorem insert_any (vs : List V) (x : V) (v : Value) (i xb : Nat) (w : World) (hl : vs.length ≤ 1000) (hi : i ≤ vs.length) (ho : Own w 35 4 v vs.length (vcs vs) 0) (hx : Blk w xb 35 x.cells.toArray) (hne : v.ownBlock ≠ some xb) :
    Calls Tryd.prog 50 #[v, .int .i64 i, .slice (some ⟨xb, 0, none⟩) 1 1] w (InPost w v (vs.take i ++ x :: vs.drop i)) := by
  rcases Nat.eq_or_lt_of_le hi with rfl | hi
  · rw [List.take_length, List.drop_length]
    exact insert_end vs x v xb w hl ho hx
  · obtain ⟨g, off, cap, rfl, h1, h2, _, _⟩ := ho.some_ (by omega)
    by_cases hr : vs.length + 1 ≤ cap
    · exact insert_room vs x g off cap i xb w hl hi hr h2 ho hx (fun e => hne (by rw [e]; rfl))
    · exact insert_grow vs x g off cap i xb w hl hi (by omega) ho hx

end Go.Proofs.YtdcfpklohleoiaaDoor
