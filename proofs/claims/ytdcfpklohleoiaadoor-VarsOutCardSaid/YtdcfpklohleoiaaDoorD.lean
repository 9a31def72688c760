/- copy and append(s[:i], make(..)...) at elements of several cells; slices.Clone. -/
import Derived.Test.YtdcfpklohleoiaaDoorC
import Derived.Laws.IdiomCopy
import Derived.Lib.AppendZeros
import Derived.Lib.Overlaps
import Derived.Shelf.Spec.SlicesInsert
namespace Go.Proofs.YtdcfpklohleoiaaDoor
open Go.RowKit Go.Lib
set_option maxRecDepth 100000

theorem setCells_heap2 {g : Nat} {e : TypeId} {fz : Nat × Nat} : ∀ (vs : List Value) (o : Nat) (cur : Array Value) (w : World), w.heap[g]? = some (.cells cur e fz) → o + vs.length ≤ cur.size →
    ∃ cur', (w.setCells g o vs).heap[g]? = some (.cells cur' e fz) ∧ cur'.size = cur.size ∧ (∀ j, j < vs.length → cur'[o + j]? = vs[j]?) ∧ (∀ i, i < o → cur'[i]? = cur[i]?) ∧ ∀ i, o + vs.length ≤ i → cur'[i]? = cur[i]?
  | [], o, cur, w, h, _ => ⟨cur, h, rfl, fun j hj => absurd hj (Nat.not_lt_zero _), fun _ _ => rfl, fun _ _ => rfl⟩
  | v :: r, o, cur, w, h, hl => by
    have h1 : (w.setCell ⟨g, o, none⟩ v).heap[g]? = some (.cells (cur.setIfInBounds o v) e fz) := by simp [World.setCell, Array.getElem?_modify, h]
    simp only [List.length_cons] at hl
    obtain ⟨cur', a1, a2, a3, a4, a5⟩ := setCells_heap2 (g := g) r (o + 1) _ _ h1 (by simp only [Array.size_setIfInBounds]; omega)
    refine ⟨cur', a1, by rw [a2, Array.size_setIfInBounds], fun j hj => ?_, fun i hi => ?_, fun i hi => ?_⟩
    · cases j with
      | zero => rw [Nat.add_zero, a4 o (by omega), Array.getElem?_setIfInBounds_self_of_lt (by omega)]; rfl
      | succ j =>
        have := a3 j (by simp only [List.length_cons] at hj; omega)
        rw [show o + (j + 1) = o + 1 + j by omega, this]; rfl
    · rw [a4 i (by omega), Array.getElem?_setIfInBounds_ne (by omega)]
    · rw [List.length_cons] at hi
      rw [a5 i (by omega), Array.getElem?_setIfInBounds_ne (by omega)]
/-- Several cells of an owned slice are set. -/
theorem Own.puts {w : World} {e : TypeId} {size n k g off cap : Nat} {xs : List Value} (h : Own w e size (.slice (some ⟨g, off, none⟩) n cap) n xs k) (j : Nat) (news : List Value) (hj : j + news.length ≤ n * size) :
    Own (w.setCells g (off + j) news) e size (.slice (some ⟨g, off, none⟩) n cap) n (xs.take j ++ news ++ xs.drop (j + news.length)) k := by
  have hl := h.1
  rcases h.2 with ⟨hv, _⟩ | ⟨g', off', cap', cur, fz, hv, hg, hfz, hnc, hcm, hcs, hcells⟩
  · injection hv with hv _ _
    cases hv
  injection hv with hv _ hcap
  injection hv with hv
  injection hv with e1 e2 _
  subst e1; subst e2; subst hcap
  have hfit : n * size ≤ cap * size := Nat.mul_le_mul_right _ hnc
  obtain ⟨cur', a1, a2, a3, a4, a5⟩ := setCells_heap2 news (off + j) cur w hg (by omega)
  refine ⟨?_, .inr ⟨g, off, cap, cur', fz, rfl, a1, hfz, hnc, hcm, by omega, fun q hq => ?_⟩⟩
  · rw [List.length_append, List.length_append, List.length_take, List.length_drop, hl]; omega
  · have htl : (xs.take j).length = j := by rw [List.length_take, hl]; omega
    rcases Nat.lt_or_ge q j with c | c
    · rw [a4 _ (by omega), hcells q hq, List.append_assoc, List.getElem?_append_left (by omega), List.getElem?_take, if_pos c]
    · rcases Nat.lt_or_ge q (j + news.length) with c2 | c2
      · have := a3 (q - j) (by omega)
        rw [show off + j + (q - j) = off + q by omega] at this
        rw [this, List.append_assoc, List.getElem?_append_right (by omega), htl, List.getElem?_append_left (by omega)]
      · rw [a5 _ (by omega), hcells q hq, List.getElem?_append_right (by rw [List.length_append, htl]; omega), List.length_append, htl, List.getElem?_drop]
        congr 1
        omega
theorem Own.cellAt {w : World} {e : TypeId} {size n k g off cap : Nat} {xs : List Value} (h : Own w e size (.slice (some ⟨g, off, none⟩) n cap) n xs k) (j : Nat) (hj : j < n * size) : w.cell? ⟨g, off + j, none⟩ = xs[j]? ∧ (xs[j]?).isSome = true := by
  refine ⟨?_, by rw [List.getElem?_eq_getElem (by rw [h.len]; exact hj)]; rfl⟩
  rcases h.2 with ⟨hv, _⟩ | ⟨g', off', cap', cur, fz, hv, hg, hfz, hnc, hcm, hcs, hcells⟩
  · injection hv with hv _ _
    cases hv
  injection hv with hv _ hcap
  injection hv with hv
  injection hv with e1 e2 _
  subst e1; subst e2
  exact (cell_of_row w g (off + j) cur e fz hg).trans (hcells j hj)
/-- One element more, if there is room: whatever stands there. -/
theorem Own.more {w : World} {e : TypeId} {size n k g off cap : Nat} {xs : List Value} (h : Own w e size (.slice (some ⟨g, off, none⟩) n cap) n xs k) (hr : n + 1 ≤ cap) : ∃ ys, ys.length = size ∧ Own w e size (.slice (some ⟨g, off, none⟩) (n + 1) cap) (n + 1) (xs ++ ys) k := by
  have hl := h.1
  rcases h.2 with ⟨hv, _⟩ | ⟨g', off', cap', cur, fz, hv, hg, hfz, hnc, hcm, hcs, hcells⟩
  · injection hv with hv _ _
    cases hv
  injection hv with hv _ hcap
  injection hv with hv
  injection hv with e1 e2 _
  subst e1; subst e2; subst hcap
  have hfit : (n + 1) * size ≤ cap * size := Nat.mul_le_mul_right _ hr
  rw [Nat.add_mul, Nat.one_mul] at hfit
  refine ⟨(cur.toList.drop (off + n * size)).take size, ?_, ?_⟩
  · rw [List.length_take, List.length_drop, Array.length_toList]; omega
  · refine ⟨?_, .inr ⟨g, off, cap, cur, fz, rfl, hg, hfz, hr, hcm, hcs, fun q hq => ?_⟩⟩
    · rw [List.length_append, hl, List.length_take, List.length_drop, Array.length_toList, Nat.add_mul, Nat.one_mul]; omega
    · rw [Nat.add_mul, Nat.one_mul] at hq
      rcases Nat.lt_or_ge q (n * size) with c | c
      · rw [List.getElem?_append_left (by omega)]; exact hcells q c
      · rw [List.getElem?_append_right (by omega), hl, List.getElem?_take, if_pos (by omega), List.getElem?_drop, Array.getElem?_toList]
        congr 1
        omega
section
variable {P : Program}
/-- copy, of elements of several cells. -/
theorem run_copy_K (w : World) (dT sT ty elem : TypeId) (size b o dLen dCap : Nat) (a : Addr) (sLen sCap : Nat) (cs : List Value)
    (hu : P.underlying dT = some (.slice elem)) (hs : (P.info? elem).map (·.size) = some size) (hn : cs.length = Nat.min sLen dLen * size)
    (hsrc : ∀ j v, cs[j]? = some v → w.cell? (a.add j) = some v) (hc : ∀ j, j < cs.length → (w.cell? ⟨b, o + j, none⟩).isSome = true) (hf : ∀ j, j < cs.length → w.frozen? ⟨b, o + j, none⟩ = false) (h1 : ∀ v ∈ cs, v.oneCell' = true) :
    (Builtin.copy_ #[dT, sT] ty #[.slice (some ⟨b, o, none⟩) dLen dCap, .slice (some a) sLen sCap]).run P w = .ok (goInt (Nat.min sLen dLen)) (w.setCells b o cs) := by
  have hl := run_loadCells_list (P := P) w a cs hsrc
  have hst := run_storeCells_cells (P := P) b o cs 0 w (by simpa using hc) (by simpa using hf) h1
  cases hq : P.info? elem with
  | none => simp [hq] at hs
  | some i =>
    have hi : i.size = size := by simpa [hq] using hs
    simp [Builtin.copy_, run_underlying hu, Builtin.lenOf, Builtin.firstCells, sizeOf, typeInfo, hq, hi, ← hn, hl, hst]
/-- append(s, make([]T, m)...), where there is no room. -/
theorem run_append_zeros_grow (w : World) (t tn ty e : TypeId) (i : TypeInfo) (z : Value) (k kn : IntKind) (ht : P.underlying t = some (.slice e)) (htn : P.underlying tn = some (.int kn)) (hi : P.info? e = some i) (hz : i.zero = some z)
    (a : Addr) (sLen cap : Nat) (olds : List Value) (hold : (Builtin.firstCells i.size sLen (.slice (some a) sLen cap)).run P w.drew = .ok olds.toArray w.drew)
    (m : Nat) (h0 : 0 < m) (hs : 0 < i.size) (hg : cap < sLen + m) (h63 : ((sLen + m : Nat) : Int) ≤ 9223372036854775807) (hby : (sLen + m) * i.bytes ≤ 140737488355328) :
    (Builtin.append_ #[t, tn] ty #[.slice (some a) sLen cap, .int k m]).run P w =
      .ok (.slice (some ⟨w.heap.size, 0, none⟩) (sLen + m) (grownCap w (sLen + m) cap e)) (w.drew.alloc (.cells (olds.toArray ++ Builtin.zeroCells z.cells m ++ Builtin.zeroCells z.cells (grownCap w (sLen + m) cap e - (sLen + m))) e)) := by
  have hn : m ≠ 0 := by omega
  have hw : IntKind.i64.wrap (m : Int) = m := by rw [IntKind.wrap_i64]; omega
  have h63' : ¬ (9223372036854775807 < ((sLen : Int) + (m : Int))) := by omega
  have h48' : ¬ (281474976710656 < Builtin.nextslicecap (sLen + m) cap * i.bytes) := by have := growslice_fits (need := sLen + m) (old := cap) (bytes := i.bytes) hg hby; omega
  have hmb : m * i.bytes ≤ (sLen + m) * i.bytes := Nat.mul_le_mul_right _ (by omega)
  have h48i : ¬ (281474976710656 < (m : Int) * (i.bytes : Int)) := by
    rw [← Int.natCast_mul]
    omega
  have hneg : ¬ ((m : Int) < 0) := by omega
  have hns : ¬ (m * i.size = 0) := Nat.mul_ne_zero hn (by omega)
  have hroom : ¬ (sLen + m ≤ cap) := by omega
  simp [Builtin.append_, run_underlying ht, run_underlying htn, sizeOf, typeInfo, zeroValue, hi, hz, asInt, asIntOf, hw, hn, hneg, hns, hroom, h63', h48', h48i, Question.forced, hold, newRow, grownCap]
end

theorem info35 : (Tryd.prog.info? 35).map (fun i => (i.zero, i.size, i.bytes)) = some (some (.agg #[.string ⟨#[]⟩, .string ⟨#[]⟩, .bool false, .bool false]), 4, 40) := by kernel_rfl

/-- A slice of the call's own, of these. -/
def SlPost (w : World) (vs : List V) (e : Ending) (w' : World) : Prop := ∃ v', e = .returned v' ∧ Own w' 35 4 v' vs.length (vcs vs) 0 ∧ (∀ b, v'.ownBlock = some b → w.heap.size ≤ b) ∧ w.grownBy w' none
set_option maxHeartbeats 1000000 in
theorem clone_any (vs : List V) (v : Value) (w : World) (hl : vs.length ≤ 1000) (ho : Own w 35 4 v vs.length (vcs vs) 0) :
    Calls Tryd.prog 35 #[v] w (SlPost w vs) := by
  have q22 : ∀ (w : World) (a : Option Addr) (n c n' c' : Nat), (binOp .eql 25 (.slice a n c) (.slice none n' c')).run Tryd.prog w = .ok (.bool a.isNone) w := fun w a n c n' c' => Lib.run_eql_slice_nil w _ _ a n c n' c' Tryd.underlying25
  obtain ⟨a, cap, rfl, hn, hcm⟩ := ho.form
  cases a with
  | none =>
    obtain rfl : vs = [] := by
      rcases ho.2 with ⟨_, h⟩ | ⟨g, off, cap', cur, fz, h, _⟩
      · exact List.eq_nil_of_length_eq_zero h
      · injection h with h; cases h
    obtain rfl : cap = 0 := by
      rcases ho.2 with ⟨h, _⟩ | ⟨g, off, cap', cur, fz, h, _⟩
      · injection h
      · injection h with h; cases h
    clear ho
    go_enter Tryd.func35, Tryd.ntmps35
    go_wp2_with fail
    go_ret
    exact ⟨_, rfl, Own.nil _ _ _ _, fun b hb => by simp [Value.ownBlock] at hb, only_refl w none⟩
  | some a =>
    obtain ⟨g, off, rfl⟩ : ∃ g off, a = ⟨g, off, none⟩ := by
      rcases ho.2 with ⟨h, _⟩ | ⟨g, off, cap', cur, fz, h, _⟩
      · injection h with h; cases h
      · injection h with h; injection h with h; exact ⟨g, off, h⟩
    have hsrc := Own.src (P := Tryd.prog) (tx := 25) (e' := 35) (ho.alloc (.cells #[] 35)) (by kernel_rfl) (vcs_one vs)
    have hmd := Own.made w #[] 35 4 0 0 rfl (by unfold maxLen; omega)
    have Hsrc := hide hsrc
    have Hmd := hide hmd
    clear hsrc hmd ho
    go_enter Tryd.func35, Tryd.ntmps35
    go_wp2_with (at_builtin; refine wpList_appAt 35 (.agg #[.string ⟨#[]⟩, .string ⟨#[]⟩, .bool false, .bool false]) 4 40 Tryd.underlying25 info35 rfl (.slice (some ⟨w.heap.size, 0, none⟩) 0 0) 0 [] 0 _ vs.length (vcs vs) rfl rfl Hmd.out (by omega) Hsrc.out (by unfold maxLen; omega) (by omega) ?_; intro v' w' ho hc hn _; (have HO := hide ho); (have HC := hide hc); (have HN := hide hn); clear ho hc hn)
    go_ret
    refine ⟨v', rfl, by have := HO.out; rwa [Nat.zero_add, List.nil_append] at this, fun b hb => ?_, ?_⟩
    · rcases HN.out b hb with h | h
      · simp [Value.ownBlock] at h; omega
      · rw [World.size_alloc] at h; omega
    · exact (((Chg.refl nobody w).alloc _).trans HC.out (fun i hi hb => by simp [Value.ownBlock] at hb; omega)).grown (fun _ _ h => h)

end Go.Proofs.YtdcfpklohleoiaaDoor
