/- slices.DeleteFunc of a name's var; Get. -/
import Derived.Test.YtdcfpklohleoiaaDoorH
namespace Go.Proofs.YtdcfpklohleoiaaDoor
open Go.RowKit
set_option maxRecDepth 100000

/-- The closure that knows a name. -/
theorem cl36 (x : V) (m : List UInt8) (nb : Nat) (w : World) (h : Blk w nb 9 #[.string ⟨m.toArray⟩]) : Calls Tryd.prog 36 #[.agg #[.string ⟨x.n.toArray⟩, .string ⟨x.v.toArray⟩, .bool x.x, .bool x.r], .pointer (some ⟨nb, 0, none⟩)] w fun e w' => e = .returned (.bool (x.n == m)) ∧ w.grownBy w' none := by
  have c0 := Blk.cell h 0
  have lb := Blk.lt h
  go_enter Tryd.func36, Tryd.ntmps36
  go_wp2_with fail
  go_ret
  exact ⟨by simp, only_alloc (only_refl w none) _⟩

def ixD (m : List UInt8) (vs : List V) : Nat := vs.findIdx fun a => a.n == m
def ixR (m : List UInt8) (vs : List V) : Int := if ixD m vs < vs.length then ixD m vs else -1

set_option maxHeartbeats 2000000 in
theorem index_any (vs : List V) (m : List UInt8) (nb : Nat) (v : Value) (w : World) (hl : vs.length ≤ 1000) (ho : Own w 35 4 v vs.length (vcs vs) 0) (hb : Blk w nb 9 #[.string ⟨m.toArray⟩]) :
    Calls Tryd.prog 51 #[v, .func (.func 36) #[] #[.pointer (some ⟨nb, 0, none⟩)]] w fun e w' => e = .returned (.int .i64 (ixR m vs)) ∧ w.grownBy w' none := by
  have Hcl := hide (fun x w' (hb : Blk w' nb 9 #[.string ⟨m.toArray⟩]) => cl36 x m nb w' hb)
  have HB := hide hb
  have hle : ixD m vs ≤ vs.length := List.findIdx_le_length
  by_cases hp : 0 < vs.length
  · obtain ⟨g, off, cap, rfl, _, hg, hcs⟩ := v_cells ho hp
    have HC := hide hcs
    clear ho hcs hb
    go_enter Tryd.func51, Tryd.ntmps51
    go_wp2_with fail
    go_loopw [8] (fun v8 wr => ∃ k : Nat, v8 = .int .i64 k ∧ k ≤ ixD m vs ∧ w.grownBy wr none) (fun v8 _ => vs.length - (intOf v8).toNat)
    case atStart => exact ⟨0, rfl, Nat.zero_le _, only_refl w none⟩
    case round =>
      obtain ⟨k, rfl, hk, hgr⟩ := hrel
      have HG := hide hgr
      by_cases hlt : k < vs.length
      · have q0 : decide ((k : Int) < (vs.length : Int)) = true := decide_eq_true (by omega)
        have hib : (0 : Int) ≤ k ∧ (k : Int) < (vs.length : Int) := by omega
        obtain ⟨c0, c1, c2, c3⟩ := HC.out k hlt
        have c0 := old_cell hgr hg c0
        have c1 := old_cell hgr hg c1
        have c2 := old_cell hgr hg c2
        have c3 := old_cell hgr hg c3
        have hgs : g < wr.heap.size := Nat.lt_of_lt_of_le hg hgr.size
        have hfa : (vs[k].n == m) = true → ixD m vs = k := fun he => by
          have h1 : ¬ k < ixD m vs := fun h => by
            have := List.not_of_lt_findIdx h
            rw [he] at this
            cases this
          omega
        have hfb : (vs[k].n == m) = false → k + 1 ≤ ixD m vs := fun he => by
          rcases Nat.eq_or_lt_of_le hk with e | e
          · exfalso
            have h2 : ixD m vs < vs.length := by omega
            have h3 : (vs[ixD m vs].n == m) = true := List.findIdx_getElem (w := h2)
            simp only [← e, he] at h3
            cases h3
          · exact e
        obtain ⟨x, hx⟩ : ∃ x, vs[k] = x := ⟨_, rfl⟩
        rw [hx] at c0 c1 c2 c3 hfa hfb
        have hcl := Hcl.out x
        cases he : x.n == m with
        | true =>
          rw [he] at hcl
          have HCL := hide hcl
          have HF := hide (hfa he)
          clear hcl he hfa hfb hx hgr
          go_wp2_with fail
          refine (HCL.out _ (Blk.grown HB.out HG.out (by simp))).mono ?_
          rintro e w3 ⟨rfl, g3⟩
          go_wp2_with fail
          go_ret
          exact ⟨by unfold ixR; rw [HF.out, if_pos hlt]; rfl, none_trans HG.out g3⟩
        | false =>
          rw [he] at hcl
          have HCL := hide hcl
          have HF := hide (hfb he)
          clear hcl he hfa hfb hx hgr
          go_wp2_with fail
          refine (HCL.out _ (Blk.grown HB.out HG.out (by simp))).mono ?_
          rintro e w3 ⟨rfl, g3⟩
          go_wp2_with fail
          go_roundw
          case rel => exact ⟨k + 1, by go_num, HF.out, none_trans HG.out g3⟩
          case measure => simp [intOf]; omega
      · have q0 : decide ((k : Int) < (vs.length : Int)) = false := decide_eq_false (by omega)
        have hr : ixR m vs = -1 := by unfold ixR; rw [if_neg (by omega)]
        have HR := hide hr
        clear hr hgr
        go_wp2_with fail
        go_ret
        exact ⟨by rw [HR.out]; rfl, HG.out⟩
  · obtain rfl : vs = [] := List.eq_nil_of_length_eq_zero (by omega)
    obtain ⟨a, cap, rfl, _, _⟩ := ho.form
    clear ho hb hle
    rw [List.length_nil]
    go_enter Tryd.func51, Tryd.ntmps51
    go_wp2_with fail
    go_loopw [8] (fun v8 wr => v8 = .int .i64 0 ∧ wr = w) (fun _ _ => 0)
    case atStart => exact ⟨rfl, rfl⟩
    case round =>
      obtain ⟨rfl, rfl⟩ := hrel
      go_wp2_with fail
      go_ret
      exact ⟨rfl, only_refl _ none⟩

theorem own_setV {w : World} {g off cap : Nat} {zs : List V} (h : Own w 35 4 (.slice (some ⟨g, off, none⟩) zs.length cap) zs.length (vcs zs) 0) (i : Nat) (hi : i < zs.length) (x : V) :
    Own ((((w.setCell ⟨g, off + i * 4, none⟩ (.string ⟨x.n.toArray⟩)).setCell ⟨g, off + i * 4 + 1, none⟩ (.string ⟨x.v.toArray⟩)).setCell ⟨g, off + i * 4 + 2, none⟩ (.bool x.x)).setCell ⟨g, off + i * 4 + 3, none⟩ (.bool x.r)) 35 4 (.slice (some ⟨g, off, none⟩) zs.length cap) zs.length (vcs (zs.set i x)) 0 := by
  have h1 := h.puts (i * 4) x.cells (by show i * 4 + 4 ≤ _; omega)
  have e : (vcs zs).take (i * 4) ++ x.cells ++ (vcs zs).drop (i * 4 + x.cells.length) = vcs (zs.set i x) := by
    rw [vcs_take, show i * 4 + x.cells.length = (i + 1) * 4 by show i * 4 + 4 = _; omega, vcs_drop, List.set_eq_take_append_cons_drop, if_pos hi, vcs_app, vcs_cons, List.append_assoc]
  rw [e] at h1
  exact h1
theorem run_clear_K {P : Program} (w : World) (t e ty : TypeId) (z : Value) (ht : P.underlying t = some (.slice e)) (hv : ∀ w, (zeroValue e).run P w = .ok z w) (b o n c : Nat) (hn : 0 < n)
    (hc : ∀ j, j < (Builtin.zeroCells z.cells n).toList.length → (w.cell? ⟨b, o + j, none⟩).isSome = true) (hf : ∀ j, j < (Builtin.zeroCells z.cells n).toList.length → w.frozen? ⟨b, o + j, none⟩ = false) (h1 : ∀ u ∈ (Builtin.zeroCells z.cells n).toList, u.oneCell' = true) :
    (Builtin.clear_ #[t] ty #[.slice (some ⟨b, o, none⟩) n c]).run P w = .ok (.tuple #[]) (w.setCells b o (Builtin.zeroCells z.cells n).toList) := by
  have hst := run_storeCells_cells (P := P) b o (Builtin.zeroCells z.cells n).toList 0 w (by simpa using hc) (by simpa using hf) h1
  simp only [Nat.add_zero] at hst
  obtain ⟨m, rfl⟩ : ∃ m, n = m + 1 := ⟨n - 1, by omega⟩
  simp [Builtin.clear_, run_underlying ht, hv, hst]
theorem zero35 (n : Nat) : ∀ u ∈ (Builtin.zeroCells (Value.agg #[.string ⟨#[]⟩, .string ⟨#[]⟩, .bool false, .bool false]).cells n).toList, u.oneCell' = true := by
  intro u hu
  have hu : u ∈ Builtin.zeroCells (Value.agg #[.string ⟨#[]⟩, .string ⟨#[]⟩, .bool false, .bool false]).cells n := by simpa using hu
  unfold Builtin.zeroCells at hu
  rw [Array.mem_map] at hu
  obtain ⟨i, _, rfl⟩ := hu
  have h4 : i % 4 = 0 ∨ i % 4 = 1 ∨ i % 4 = 2 ∨ i % 4 = 3 := by omega
  show ((#[.string ⟨#[]⟩, .string ⟨#[]⟩, .bool false, .bool false] : Array Value)[i % 4]!).oneCell' = true
  rcases h4 with h | h | h | h <;> (rw [h]; rfl)
theorem del_snoc (l : List V) (x : V) (m : List UInt8) : delF (l ++ [x]) m = delF l m ++ if (x.n == m) = true then [] else [x] := by
  unfold delF
  rw [List.filter_append]
  congr 1
  cases h : x.n == m <;> simp [h]
theorem zero_run35 (w : World) : (zeroValue 35).run Tryd.prog w = .ok (Value.agg #[.string ⟨#[]⟩, .string ⟨#[]⟩, .bool false, .bool false]) w := by
  obtain ⟨i0, hi0, hz0, hzs, hzb⟩ := info_parts info35
  simp [zeroValue, typeInfo, hi0, hz0]

set_option maxHeartbeats 4000000 in
theorem delete_any (vs : List V) (m : List UInt8) (nb : Nat) (v : Value) (w : World) (hl : vs.length ≤ 1000) (ho : Own w 35 4 v vs.length (vcs vs) 0) (hb : Blk w nb 9 #[.string ⟨m.toArray⟩]) (hne : v.ownBlock ≠ some nb) :
    Calls Tryd.prog 34 #[v, .func (.func 36) #[] #[.pointer (some ⟨nb, 0, none⟩)]] w (InPost w v (delF vs m)) := by
  have hX := hide (index_any vs m nb v w hl ho hb)
  have Hcl := hide (fun x w' (hb : Blk w' nb 9 #[.string ⟨m.toArray⟩]) => cl36 x m nb w' hb)
  by_cases hix : ixD m vs < vs.length
  · have hr : ixR m vs = (ixD m vs : Int) := by unfold ixR; rw [if_pos hix]
    have HX := hide (show Calls Tryd.prog 51 #[v, .func (.func 36) #[] #[.pointer (some ⟨nb, 0, none⟩)]] w fun e w' => e = .returned (.int .i64 (ixD m vs : Int)) ∧ w.grownBy w' none from by have := hX.out; rw [hr] at this; exact this)
    have hi0 : (vs[ixD m vs].n == m) = true := List.findIdx_getElem (w := hix)
    have hst : delF (vs.take (ixD m vs + 1)) m = vs.take (ixD m vs) := by
      rw [List.take_succ_eq_append_getElem hix, del_snoc, if_pos hi0, List.append_nil]
      unfold delF
      rw [List.filter_eq_self]
      intro a ha
      obtain ⟨k, hk, hka⟩ := List.getElem_of_mem ha
      have hk2 : k < ixD m vs := by rw [List.length_take] at hk; omega
      have := List.not_of_lt_findIdx (p := fun a : V => a.n == m) (xs := vs) hk2
      rw [List.getElem_take] at hka
      rw [hka] at this
      rw [this]; rfl
    obtain ⟨i0, hi0e⟩ : ∃ i0, ixD m vs = i0 := ⟨_, rfl⟩
    rw [hi0e] at HX hix hst
    have HST := hide hst
    obtain ⟨g, off, cap, rfl, hnc, hcm, hg, _⟩ := ho.some_ (by omega)
    have HO := hide ho
    have HB := hide hb
    have hgn : g ≠ nb := fun e => hne (by rw [← e]; rfl)
    have hi1 : ((i0 : Int) == -1) = false := by rw [beq_eq_false_iff_ne]; omega
    have hi2 : ¬ ((i0 : Int) = -1) := by omega
    clear hX hr hi0 hst hi0e ho hb hne
    go_enter Tryd.func34, Tryd.ntmps34
    go_wp2_with fail
    refine HX.out.mono ?_
    rintro e w1 ⟨rfl, g1⟩
    have HO1 := hide (HO.out.none_ g1)
    have HB1 := hide (Blk.grown HB.out g1 (by simp))
    have HG1 := hide (Chg.of_grown g1 (fun k hk => by cases hk) : Chg (fun b => (Value.slice (some ⟨g, off, none⟩) vs.length cap).ownBlock = some b) w w1)
    clear g1
    go_wp2_with fail
    go_loopw [5, 6] (fun v5 v6 wr => ∃ (i j : Nat) (zs : List V), v5 = .int .i64 i ∧ v6 = .int .i64 j ∧ i < j ∧ j ≤ vs.length ∧ zs.length = vs.length ∧ zs.take i = delF (vs.take j) m ∧ zs.drop j = vs.drop j ∧ Own wr 35 4 (.slice (some ⟨g, off, none⟩) vs.length cap) vs.length (vcs zs) 0 ∧ Blk wr nb 9 #[.string ⟨m.toArray⟩] ∧ Chg (fun b => (Value.slice (some ⟨g, off, none⟩) vs.length cap).ownBlock = some b) w wr) (fun _ v6 _ => vs.length - (intOf v6).toNat)
    case atStart => exact ⟨i0, i0 + 1, vs, rfl, by go_num, by omega, by omega, rfl, HST.out.symm, rfl, HO1.out, HB1.out, HG1.out⟩
    case round =>
      obtain ⟨i, j, zs, rfl, rfl, hij, hj, hzl, ht, hd, ho, hb, hc⟩ := hrel
      have HT := hide ht
      have HD := hide hd
      have HC := hide hc
      have HBr := hide hb
      have HOr := hide ho
      have hgs : g < wr.heap.size := ho.lt (b := g) rfl
      by_cases hlt : j < vs.length
      · have q0 : decide ((j : Int) < (vs.length : Int)) = true := decide_eq_true (by omega)
        have hib : (0 : Int) ≤ j ∧ (j : Int) < (vs.length : Int) := by omega
        have hib2 : (0 : Int) ≤ i ∧ (i : Int) < (vs.length : Int) := by omega
        have hx0 : zs[j]'(by omega) = vs[j] := by
          have h1 := drop_at (l := zs) (i := j) (by omega)
          rw [hd, drop_at hlt] at h1
          injection h1 with h1 _
          exact h1.symm
        have ho' : Own wr 35 4 (.slice (some ⟨g, off, none⟩) vs.length cap) zs.length (vcs zs) 0 := by rw [hzl]; exact ho
        obtain ⟨g', off', cap', hv, _, _, hcs⟩ := v_cells ho' (by omega)
        injection hv with hv hq1 hq2
        clear hq1
        injection hv with hv
        injection hv with e1 e2 e3
        clear e3
        subst e1; subst e2; subst hq2
        have HZL := hide hzl
        obtain ⟨c0, c1, c2, c3⟩ := hcs j (by omega)
        rw [hx0] at c0 c1 c2 c3
        have hsn := del_snoc (vs.take j) vs[j] m
        rw [← List.take_succ_eq_append_getElem hlt, ← ht] at hsn
        have hd2 : zs.drop (j + 1) = vs.drop (j + 1) := by rw [← List.drop_drop, ← List.drop_drop, hd]
        obtain ⟨x, hx⟩ : ∃ x, vs[j] = x := ⟨_, rfl⟩
        rw [hx] at c0 c1 c2 c3 hsn
        have HD2 := hide hd2
        have hcl := Hcl.out x
        cases he : x.n == m with
        | true =>
          rw [he] at hcl
          rw [he, if_pos rfl, List.append_nil] at hsn
          have HSN := hide hsn
          have HCL := hide hcl
          clear hcl he hsn hx hx0 hcs ho' ho hb hc hd ht hd2 hzl
          go_wp2_with fail
          refine (HCL.out _ (Blk.alloc HBr.out _)).mono ?_
          rintro e w3 ⟨rfl, g3⟩
          have hzl := HZL.out
          have hC3 := (HC.out.alloc (.cells #[.string ⟨x.n.toArray⟩, .string ⟨x.v.toArray⟩, .bool x.x, .bool x.r] 35)).trans (Chg.of_grown g3 (fun k hk => by cases hk) : Chg nobody _ w3) (fun i hi hb => hb.elim)
          have HC3 := hide hC3
          have HO3 := hide ((HOr.out.alloc (.cells #[.string ⟨x.n.toArray⟩, .string ⟨x.v.toArray⟩, .bool x.x, .bool x.r] 35)).none_ g3)
          have HB3 := hide (Blk.grown (HBr.out.alloc (.cells #[.string ⟨x.n.toArray⟩, .string ⟨x.v.toArray⟩, .bool x.x, .bool x.r] 35)) g3 (by simp))
          clear hC3 g3 hzl
          go_wp2_with fail
          go_roundw
          case rel => exact ⟨i, j + 1, zs, rfl, by go_num, by omega, by omega, HZL.out, HSN.out.symm, HD2.out, HO3.out, HB3.out, HC3.out⟩
          case measure => simp [intOf]; omega
        | false =>
          rw [he] at hcl
          rw [he, if_neg Bool.false_ne_true] at hsn
          have HSN := hide hsn
          have HCL := hide hcl
          clear hcl he hsn hx hx0 hcs ho' ho hb hc hd ht hd2 hzl
          go_wp2_with fail
          refine (HCL.out _ (Blk.alloc HBr.out _)).mono ?_
          rintro e w3 ⟨rfl, g3⟩
          have hzl := HZL.out
          have hC3 := (HC.out.alloc (.cells #[.string ⟨x.n.toArray⟩, .string ⟨x.v.toArray⟩, .bool x.x, .bool x.r] 35)).trans (Chg.of_grown g3 (fun k hk => by cases hk) : Chg nobody _ w3) (fun i hi hb => hb.elim)
          have HC3 := hide hC3
          have ho3 := (HOr.out.alloc (.cells #[.string ⟨x.n.toArray⟩, .string ⟨x.v.toArray⟩, .bool x.x, .bool x.r] 35)).none_ g3
          have HB3 := hide (Blk.grown (HBr.out.alloc (.cells #[.string ⟨x.n.toArray⟩, .string ⟨x.v.toArray⟩, .bool x.x, .bool x.r] 35)) g3 (by simp))
          have hb7 := Blk.grown (Blk.new wr 35 #[.string ⟨x.n.toArray⟩, .string ⟨x.v.toArray⟩, .bool x.x, .bool x.r]) g3 (by simp)
          have k0 := Blk.cell hb7 0
          have k1 := Blk.cell hb7 1
          have k2 := Blk.cell hb7 2
          have k3 := Blk.cell hb7 3
          obtain ⟨a0, s0⟩ := ho3.cellAt (i * 4) (by omega)
          obtain ⟨a1, s1⟩ := ho3.cellAt (i * 4 + 1) (by omega)
          obtain ⟨a2, s2⟩ := ho3.cellAt (i * 4 + 2) (by omega)
          obtain ⟨a3, s3⟩ := ho3.cellAt (i * 4 + 3) (by omega)
          obtain ⟨y0, hy0⟩ := Option.isSome_iff_exists.1 s0
          obtain ⟨y1, hy1⟩ := Option.isSome_iff_exists.1 s1
          obtain ⟨y2, hy2⟩ := Option.isSome_iff_exists.1 s2
          obtain ⟨y3, hy3⟩ := Option.isSome_iff_exists.1 s3
          rw [hy0] at a0
          rw [hy1, ← Nat.add_assoc] at a1
          rw [hy2, ← Nat.add_assoc] at a2
          rw [hy3, ← Nat.add_assoc] at a3
          have f0 := ho3.frozen0 (i * 4)
          have f1 := ho3.frozen0 (i * 4 + 1)
          have f2 := ho3.frozen0 (i * 4 + 2)
          have f3 := ho3.frozen0 (i * 4 + 3)
          rw [← Nat.add_assoc] at f1 f2 f3
          have hg3 : g < w3.heap.size := ho3.lt (b := g) rfl
          have hsv := own_setV (g := g) (off := off) (cap := cap) (zs := zs) (by rw [hzl]; exact ho3) i (by omega) x
          rw [hzl] at hsv
          have HSV := hide hsv
          have HO3 := hide ho3
          have hset : (zs.set i x).take (i + 1) = delF (vs.take (j + 1)) m := by
            rw [HSN.out, List.take_succ_eq_append_getElem (by rw [List.length_set]; omega), List.getElem_set_self, List.take_set_of_le (by omega)]
          have HSET := hide hset
          have hset2 : (zs.set i x).drop (j + 1) = vs.drop (j + 1) := by rw [List.drop_set_of_lt (by omega)]; exact HD2.out
          have HSET2 := hide hset2
          clear ho3 hsv s0 s1 s2 s3 hy0 hy1 hy2 hy3 hC3 g3 hb7 hset hset2 c0 c1 c2 c3 hzl
          go_wp2_with fail
          go_roundw
          case rel =>
            refine ⟨i + 1, j + 1, zs.set i x, by go_num, by go_num, by omega, by omega, by rw [List.length_set]; exact HZL.out, HSET.out, HSET2.out, HSV.out, ?_, ?_⟩
            · exact (((HB3.out.far (p := ⟨g, off + i * 4, none⟩) (fun e => hgn e.symm) _).far (p := ⟨g, off + i * 4 + 1, none⟩) (fun e => hgn e.symm) _).far (p := ⟨g, off + i * 4 + 2, none⟩) (fun e => hgn e.symm) _).far (p := ⟨g, off + i * 4 + 3, none⟩) (fun e => hgn e.symm) _
            · exact (((HC3.out.setCell (p := ⟨g, off + i * 4, none⟩) (.inl rfl) _).setCell (p := ⟨g, off + i * 4 + 1, none⟩) (.inl rfl) _).setCell (p := ⟨g, off + i * 4 + 2, none⟩) (.inl rfl) _).setCell (p := ⟨g, off + i * 4 + 3, none⟩) (.inl rfl) _
          case measure => simp [intOf]; omega
      · obtain rfl : j = vs.length := by omega
        have q0 : decide ((vs.length : Int) < (vs.length : Int)) = false := decide_eq_false (by omega)
        have hib2 : (0 : Int) ≤ i ∧ (i : Int) ≤ (vs.length : Int) := by omega
        have hzc : (Builtin.zeroCells (Value.agg #[.string ⟨#[]⟩, .string ⟨#[]⟩, .bool false, .bool false]).cells (vs.length - i)).toList.length = (vs.length - i) * 4 := by rw [Array.length_toList, size_zeroCells]; rfl
        have hp := ho.puts (i * 4) (Builtin.zeroCells (Value.agg #[.string ⟨#[]⟩, .string ⟨#[]⟩, .bool false, .bool false]).cells (vs.length - i)).toList (by rw [hzc]; omega)
        have hcl : ∀ ty, (Builtin.clear_ #[25] ty #[.slice (some ⟨g, off + i * 4, none⟩) (vs.length - i) (cap - i)]).run Tryd.prog wr = .ok (.tuple #[]) (wr.setCells g (off + i * 4) (Builtin.zeroCells (Value.agg #[.string ⟨#[]⟩, .string ⟨#[]⟩, .bool false, .bool false]).cells (vs.length - i)).toList) := fun ty =>
          run_clear_K wr 25 35 ty _ Tryd.underlying25 zero_run35 g (off + i * 4) (vs.length - i) (cap - i) (by omega)
            (fun q hq => by rw [hzc] at hq; rw [Nat.add_assoc, (ho.cellAt (i * 4 + q) (by omega)).1]; exact (ho.cellAt (i * 4 + q) (by omega)).2)
            (fun q hq => by rw [Nat.add_assoc]; exact ho.frozen0 _) (zero35 _)
        have hto := Own.to_ hp i (by omega)
        have hcc := Chg.puts hc (b := g) (.inl rfl) (Builtin.zeroCells (Value.agg #[.string ⟨#[]⟩, .string ⟨#[]⟩, .bool false, .bool false]).cells (vs.length - i)).toList (off + i * 4)
        have hvl : (vcs zs).length = vs.length * 4 := by rw [vcs_len, hzl]
        rw [List.append_assoc, List.take_append_of_le_length (by rw [List.length_take, hvl]; omega), List.take_take, Nat.min_self, vcs_take, ht, List.take_length] at hto
        have hlen : (delF vs m).length = i := by
          rw [List.take_length] at ht
          rw [← ht, List.length_take]; omega
        have hb4 : ¬ (cap = i) := by omega
        generalize wr.setCells g (off + i * 4) (Builtin.zeroCells (Value.agg #[.string ⟨#[]⟩, .string ⟨#[]⟩, .bool false, .bool false]).cells (vs.length - i)).toList = W at hcl hto hcc
        have HTO := hide hto
        have HCC := hide hcc
        have HLEN := hide hlen
        clear hp hto hcc hzc hvl ht hd ho hb hc hlen hzl
        go_wp2_with fail
        go_ret
        exact ⟨_, rfl, by rw [HLEN.out]; exact HTO.out, fun b hb => .inl hb, HCC.out⟩
  · have hr : ixR m vs = -1 := by unfold ixR; rw [if_neg hix]
    have HX := hide (show Calls Tryd.prog 51 #[v, .func (.func 36) #[] #[.pointer (some ⟨nb, 0, none⟩)]] w fun e w' => e = .returned (.int .i64 (-1)) ∧ w.grownBy w' none from by have := hX.out; rw [hr] at this; exact this)
    have hdel : delF vs m = vs := by
      unfold delF
      rw [List.filter_eq_self]
      intro a ha
      obtain ⟨k, hk, hka⟩ := List.getElem_of_mem ha
      have hle : ixD m vs ≤ vs.length := List.findIdx_le_length
      have := List.not_of_lt_findIdx (p := fun a : V => a.n == m) (xs := vs) (i := k) (by show k < ixD m vs; omega)
      rw [hka] at this
      rw [this]; rfl
    have HO := hide ho
    have HD := hide hdel
    obtain ⟨a, cap, rfl, _, _⟩ := ho.form
    clear hX hr hix ho hb hne hdel
    go_enter Tryd.func34, Tryd.ntmps34
    go_wp2_with fail
    refine HX.out.mono ?_
    rintro e w1 ⟨rfl, g1⟩
    go_wp2_with fail
    go_ret
    exact ⟨_, rfl, by rw [HD.out]; exact HO.out.none_ g1, fun b hb => .inl hb, Chg.of_grown g1 (fun k hk => by cases hk)⟩

end Go.Proofs.YtdcfpklohleoiaaDoor
