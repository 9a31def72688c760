/- Strings as lists of bytes; an env's vars in memory; find. -/
import Derived.Test.YtdcfpklohleoiaaDoorKit
import Derived.Test.YtdcfpklohleoiaaDoorOwn
import Derived.Test.YtdcfpklohleoiaaDoorStep
import Derived.Test.YtdcfpklohleoiaaDoorPerm
import Derived.Test.YtdcfpklohleoiaaDoorB
import Derived.Lib.Walk
import Derived.IntWalk
namespace Go.Proofs.YtdcfpklohleoiaaDoor
open Go.RowKit
set_option maxRecDepth 100000

/-- A string's bytes as a list. -/
def sv (l : List UInt8) : Value := .string ⟨l.toArray⟩
theorem sz (l : List UInt8) : (ByteArray.mk l.toArray).size = l.length := by
  show l.toArray.size = _
  simp
theorem ext_drop (l : List UInt8) (n m : Nat) (h : l.length = m) : (ByteArray.mk l.toArray).extract n m = ⟨(l.drop n).toArray⟩ := by
  apply ByteArray.ext
  rw [ByteArray.data_extract]
  apply Array.ext'
  rw [Array.toList_extract, List.extract_eq_take_drop]
  simp only [List.toList_toArray]
  exact List.take_of_length_le (by rw [List.length_drop]; omega)
theorem ext_take (l : List UInt8) (n : Nat) : (ByteArray.mk l.toArray).extract 0 n = ⟨(l.take n).toArray⟩ := by
  apply ByteArray.ext
  rw [ByteArray.data_extract]
  apply Array.ext'
  rw [Array.toList_extract, List.extract_eq_take_drop]
  simp
theorem str_at' (l : List UInt8) (i : Nat) (h : i < l.length) : (ByteArray.mk l.toArray)[i]'(by rw [sz]; exact h) = l[i] := by
  show l.toArray[i] = l[i]
  simp
theorem byte_ne {c d : UInt8} (h : c ≠ d) : ((c.toNat : Int) == (d.toNat : Int)) = false := by
  rw [beq_eq_false_iff_ne]
  intro e
  exact h (UInt8.toNat_inj.1 (by omega))
theorem drop_at {α : Type} {l : List α} {i : Nat} (h : i < l.length) : l.drop i = l[i] :: l.drop (i + 1) := List.drop_eq_getElem_cons h
theorem cat_ba (l m : List UInt8) : (ByteArray.mk l.toArray) ++ ByteArray.mk m.toArray = ⟨(l ++ m).toArray⟩ := by
  apply ByteArray.ext
  simp [ByteArray.data_append]
theorem old_cell {w wr : World} {b o : Nat} {v : Value} (hg : w.grownBy wr none) (hb : b < w.heap.size) (hc : w.cell? ⟨b, o, none⟩ = some v) : wr.cell? ⟨b, o, none⟩ = some v :=
  (World.cell?_of_block (a := ⟨b, o, none⟩) (hg.block b hb (by simp))).trans hc
theorem Own.none_ {w w' : World} {e : TypeId} {size n k : Nat} {v : Value} {xs : List Value} (h : Own w e size v n xs k) (hg : w.grownBy w' none) : Own w' e size v n xs k :=
  h.chg (Chg.of_grown hg (fun k hk => by cases hk) : Chg nobody w w') (fun _ _ e => e)

def V.cells (x : V) : List Value := [sv x.n, sv x.v, .bool x.x, .bool x.r]
def vcs (l : List V) : List Value := l.flatMap V.cells
theorem vcs_app (l m : List V) : vcs (l ++ m) = vcs l ++ vcs m := by simp [vcs]
theorem vcs_cons (x : V) (l : List V) : vcs (x :: l) = x.cells ++ vcs l := by simp [vcs]
theorem vcs_len (l : List V) : (vcs l).length = l.length * 4 := by
  induction l with
  | nil => rfl
  | cons x l ih => rw [vcs_cons, List.length_append, ih, List.length_cons]; show 4 + _ = _; omega
theorem vcs_get (l : List V) : ∀ (n j : Nat) (hn : n < l.length) (_ : j < 4), (vcs l)[n * 4 + j]? = (l[n]).cells[j]? := by
  induction l with
  | nil => intro n j hn; simp at hn
  | cons x r ih =>
    intro n j hn hj
    have hl : x.cells.length = 4 := rfl
    cases n with
    | zero => rw [vcs_cons, Nat.zero_mul, Nat.zero_add, List.getElem?_append_left (by omega)]; rfl
    | succ n =>
      rw [vcs_cons, List.getElem?_append_right (by omega), hl, show (n + 1) * 4 + j - 4 = n * 4 + j by omega]
      exact ih n j (by simpa using hn) hj
theorem vcs_drop (l : List V) (i : Nat) : (vcs l).drop (i * 4) = vcs (l.drop i) := by
  induction l generalizing i with
  | nil => simp [vcs]
  | cons x r ih =>
    cases i with
    | zero => simp
    | succ i => rw [vcs_cons, List.drop_succ_cons, ← ih i, List.drop_append, List.drop_eq_nil_of_le (by show 4 ≤ _; omega), List.nil_append]; congr 1; show (i + 1) * 4 - 4 = _; omega
theorem vcs_take (l : List V) (i : Nat) : (vcs l).take (i * 4) = vcs (l.take i) := by
  induction l generalizing i with
  | nil => simp [vcs]
  | cons x r ih =>
    cases i with
    | zero => simp [vcs]
    | succ i => rw [vcs_cons, List.take_succ_cons, vcs_cons, ← ih i, List.take_append, List.take_of_length_le (by show 4 ≤ _; omega)]; congr 2; show (i + 1) * 4 - 4 = _; omega
theorem vcs_one (l : List V) : ∀ u ∈ vcs l, u.oneCell' = true := by
  intro u hu
  unfold vcs at hu
  obtain ⟨x, _, hx⟩ := List.mem_flatMap.1 hu
  unfold V.cells sv at hx
  simp only [List.mem_cons, List.not_mem_nil, or_false] at hx
  rcases hx with rfl | rfl | rfl | rfl <;> rfl
theorem v_cells {w : World} {v : Value} {vs : List V} (h : Own w 35 4 v vs.length (vcs vs) 0) (hp : 0 < vs.length) : ∃ g off cap, v = .slice (some ⟨g, off, none⟩) vs.length cap ∧ vs.length ≤ cap ∧ g < w.heap.size ∧ ∀ i (hi : i < vs.length), w.cell? ⟨g, off + i * 4, none⟩ = some (.string ⟨(vs[i]).n.toArray⟩) ∧ w.cell? ⟨g, off + i * 4 + 1, none⟩ = some (.string ⟨(vs[i]).v.toArray⟩) ∧ w.cell? ⟨g, off + i * 4 + 2, none⟩ = some (.bool (vs[i]).x) ∧ w.cell? ⟨g, off + i * 4 + 3, none⟩ = some (.bool (vs[i]).r) := by
  obtain ⟨g, off, cap, hv, hn, _, hg, hc⟩ := h.some_ hp
  refine ⟨g, off, cap, hv, hn, hg, fun i hi => ⟨?_, ?_, ?_, ?_⟩⟩
  · have := hc (i * 4) (by omega)
    rw [this, show i * 4 = i * 4 + 0 from rfl, vcs_get vs i 0 hi (by omega)]; rfl
  · have := hc (i * 4 + 1) (by omega)
    rw [Nat.add_assoc, this, vcs_get vs i 1 hi (by omega)]; rfl
  · have := hc (i * 4 + 2) (by omega)
    rw [Nat.add_assoc, this, vcs_get vs i 2 hi (by omega)]; rfl
  · have := hc (i * 4 + 3) (by omega)
    rw [Nat.add_assoc, this, vcs_get vs i 3 hi (by omega)]; rfl

set_option maxHeartbeats 1000000 in
theorem cmp58 (a b : ByteArray) (w : World) :
    Calls Tryd.prog 58 #[.string a, .string b] w fun e w' => e = .returned (.int .i64 (Lib.compareBytes a.data.toList b.data.toList)) ∧ w' = w := by
  go_enter Tryd.func58, Tryd.ntmps58
  go_wp2
  rw [run_callFunc_extern Tryd.func73 (by kernel_rfl) (by kernel_rfl) (by kernel_rfl) (e := Extern.BytealgCompare.compare) (by kernel_rfl), Lib.run_compareString]
  simp only [Result.andThen]
  rw [Oper.upon_value]
  go_wp2
  go_ret
  exact ⟨rfl, rfl⟩
theorem cmp49 (a b : List UInt8) (w : World) :
    Calls Tryd.prog 49 #[.string ⟨a.toArray⟩, .string ⟨b.toArray⟩] w fun e w' => e = .returned (.int .i64 (Lib.compareBytes a b)) ∧ w' = w := by
  have H := hide (cmp58 ⟨a.toArray⟩ ⟨b.toArray⟩)
  simp only [] at H
  go_enter Tryd.func49, Tryd.ntmps49
  go_wp2_with fail
  refine (H.out _).mono ?_
  rintro e w1 ⟨rfl, rfl⟩
  go_wp2
  go_ret
  exact ⟨rfl, rfl⟩

set_option maxHeartbeats 1000000 in
/-- The closure that compares. -/
theorem cl48 (x : V) (m : List UInt8) (w : World) : Calls Tryd.prog 48 #[.agg #[.string ⟨x.n.toArray⟩, .string ⟨x.v.toArray⟩, .bool x.x, .bool x.r], .string ⟨m.toArray⟩] w fun e w' => e = .returned (.int .i64 (Lib.compareBytes x.n m)) ∧ w.grownBy w' none := by
  have H := hide (cmp49 x.n m)
  go_enter Tryd.func48, Tryd.ntmps48
  go_wp2_with fail
  refine (H.out _).mono ?_
  rintro e w1 ⟨rfl, rfl⟩
  go_wp2_with fail
  go_ret
  exact ⟨rfl, only_alloc (only_refl w none) _⟩

/-- Where it stands, and whether. -/
theorem found_at {vs : List V} (hs : Srt vs) (m : List UInt8) : (∀ h : idxF m vs < vs.length, (Lib.compareBytes vs[idxF m vs].n m == 0) = foundB vs m) ∧ (¬ idxF m vs < vs.length → foundB vs m = false) := by
  refine ⟨fun h => ?_, fun h => ?_⟩
  · unfold foundB
    by_cases he : vs[idxF m vs].n = m
    · rw [(look_idx hs m).1 h he, he]
      rcases cmp_cases m m with ⟨_, _, _, hh⟩ | ⟨h0, _, _⟩ | ⟨_, _, _, hh⟩
      · exact absurd rfl hh
      · rw [h0]; rfl
      · exact absurd rfl hh
    · rw [(look_idx hs m).2 (fun _ => he)]
      rcases cmp_cases vs[idxF m vs].n m with ⟨h0, _⟩ | ⟨_, _, hh⟩ | ⟨h0, _⟩
      · rw [h0]; rfl
      · exact absurd hh he
      · rw [h0]; rfl
  · unfold foundB
    rw [(look_idx hs m).2 (fun hh => absurd hh h)]
    rfl

set_option maxHeartbeats 2000000 in
theorem search_any (vs : List V) (m : List UInt8) (v : Value) (w : World) (hs : Srt vs) (hl : vs.length ≤ 1000) (ho : Own w 35 4 v vs.length (vcs vs) 0) :
    Calls Tryd.prog 47 #[v, sv m, .func (.func 48) #[] #[]] w fun e w' => e = .returned (.tuple #[.int .i64 (idxF m vs), .bool (foundB vs m)]) ∧ w.grownBy w' none := by
  have Hcl := hide (fun x w' => cl48 x m w')
  have HS := hide hs
  unfold sv
  by_cases hp : 0 < vs.length
  · obtain ⟨g, off, cap, rfl, _, hg, hcs⟩ := v_cells ho hp
    have HC := hide hcs
    clear ho hcs hs
    go_enter Tryd.func47, Tryd.ntmps47
    go_wp2_with fail
    go_loopw [9, 10] (fun v9 v10 wr => ∃ i j : Nat, v9 = .int .i64 i ∧ v10 = .int .i64 j ∧ i ≤ j ∧ j ≤ vs.length ∧ w.grownBy wr none ∧ (∀ k (h : k < vs.length), k < i → lts vs[k].n m = true) ∧ (∀ k (h : k < vs.length), j ≤ k → lts vs[k].n m = false)) (fun v9 v10 _ => (intOf v10).toNat - (intOf v9).toNat)
    case atStart => exact ⟨0, vs.length, rfl, rfl, Nat.zero_le _, Nat.le_refl _, only_refl w none, fun k _ h => absurd h (Nat.not_lt_zero _), fun k h h2 => absurd h (by omega)⟩
    case round =>
      obtain ⟨i, j, rfl, rfl, hij, hj, hgr, hlo, hhi⟩ := hrel
      have HLO := hide hlo
      have HHI := hide hhi
      have HG := hide hgr
      have hgs : g < wr.heap.size := Nat.lt_of_lt_of_le hg hgr.size
      clear hlo hhi
      by_cases hlt : i < j
      · have q0 : decide ((i : Int) < (j : Int)) = true := decide_eq_true (by omega)
        obtain ⟨h, hh⟩ : ∃ h : Nat, (i + j) / 2 = h := ⟨_, rfl⟩
        have e1 : ((i : Int) + (j : Int)) / 2 = (h : Int) := by omega
        have hhl : h < vs.length := by omega
        have hib : (0 : Int) ≤ h ∧ (h : Int) < (vs.length : Int) := by omega
        obtain ⟨c0, c1, c2, c3⟩ := HC.out h hhl
        have c0 := old_cell hgr hg c0
        have c1 := old_cell hgr hg c1
        have c2 := old_cell hgr hg c2
        have c3 := old_cell hgr hg c3
        obtain ⟨x, hx⟩ : ∃ x, vs[h] = x := ⟨_, rfl⟩
        rw [hx] at c0 c1 c2 c3
        have hb1 : i ≤ h ∧ h < j := by omega
        have HX := hide hx
        clear hh hgr hx
        have hbd := cmp_cases x.n m
        obtain ⟨cv, hcv⟩ : ∃ cv, Lib.compareBytes x.n m = cv := ⟨_, rfl⟩
        have hcl := Hcl.out x
        rw [hcv] at hcl hbd
        have HCL := hide hcl
        clear hcl hcv
        rcases hbd with ⟨rfl, hb, hn⟩ | ⟨rfl, hb, hn⟩ | ⟨rfl, hb, hn⟩
        · have HB := hide hb
          clear hb hn
          go_wp2_with fail
          refine (HCL.out _).mono ?_
          rintro e w3 ⟨rfl, g3⟩
          have HG3 := hide (none_trans HG.out g3)
          clear g3
          go_wp2_with fail
          go_roundw
          case rel =>
            refine ⟨h + 1, j, by go_num, by go_num, by omega, hj, HG3.out, fun k hk hki => ?_, HHI.out⟩
            rcases Nat.lt_or_ge k h with hkh | hkh
            · exact lts_trans _ _ _ (srt_lt HS.out hk hhl hkh) (by rw [HX.out]; exact HB.out)
            · obtain rfl : k = h := by omega
              rw [HX.out]; exact HB.out
          case measure => simp [intOf]; omega
        · have HB := hide hb
          clear hb hn
          go_wp2_with fail
          refine (HCL.out _).mono ?_
          rintro e w3 ⟨rfl, g3⟩
          have HG3 := hide (none_trans HG.out g3)
          clear g3
          go_wp2_with fail
          go_roundw
          case rel =>
            refine ⟨i, h, by go_num, by go_num, by omega, by omega, HG3.out, HLO.out, fun k hk hki => ?_⟩
            rcases Nat.lt_or_ge h k with hkh | hkh
            · cases hh : lts vs[k].n m with
              | false => rfl
              | true =>
                have := lts_trans _ _ _ (srt_lt HS.out hhl hk hkh) hh
                rw [HX.out, HB.out] at this
                cases this
            · obtain rfl : k = h := by omega
              rw [HX.out]; exact HB.out
          case measure => simp [intOf]; omega
        · have HB := hide hb
          clear hb hn
          go_wp2_with fail
          refine (HCL.out _).mono ?_
          rintro e w3 ⟨rfl, g3⟩
          have HG3 := hide (none_trans HG.out g3)
          clear g3
          go_wp2_with fail
          go_roundw
          case rel =>
            refine ⟨i, h, by go_num, by go_num, by omega, by omega, HG3.out, HLO.out, fun k hk hki => ?_⟩
            rcases Nat.lt_or_ge h k with hkh | hkh
            · cases hh : lts vs[k].n m with
              | false => rfl
              | true =>
                have := lts_trans _ _ _ (srt_lt HS.out hhl hk hkh) hh
                rw [HX.out, HB.out] at this
                cases this
            · obtain rfl : k = h := by omega
              rw [HX.out]; exact HB.out
          case measure => simp [intOf]; omega
      · obtain rfl : i = j := by omega
        have hidx := idx_uniq m vs i hj HLO.out (fun h => HHI.out i h (Nat.le_refl _))
        have hfa := found_at HS.out m
        rw [← hidx] at hfa
        have HIX := hide hidx
        clear hidx
        by_cases hil : i < vs.length
        · have q1 : decide ((i : Int) < (vs.length : Int)) = true := decide_eq_true (by omega)
          have hib : (0 : Int) ≤ i ∧ (i : Int) < (vs.length : Int) := by omega
          obtain ⟨c0, c1, c2, c3⟩ := HC.out i hil
          have c0 := old_cell hgr hg c0
          have c1 := old_cell hgr hg c1
          have c2 := old_cell hgr hg c2
          have c3 := old_cell hgr hg c3
          have hf := hfa.1 hil
          obtain ⟨x, hx⟩ : ∃ x, vs[i] = x := ⟨_, rfl⟩
          rw [hx] at c0 c1 c2 c3 hf
          have hcl := Hcl.out x
          obtain ⟨cv, hcv⟩ : ∃ cv, Lib.compareBytes x.n m = cv := ⟨_, rfl⟩
          rw [hcv] at hcl hf
          have HCL := hide hcl
          have HF := hide hf
          clear hcl hcv hf hfa hx hgr
          go_wp2_with fail
          refine (HCL.out _).mono ?_
          rintro e w3 ⟨rfl, g3⟩
          go_wp2_with fail
          go_ret2
          exact ⟨by rw [← HIX.out, ← HF.out]; rfl, none_trans HG.out g3⟩
        · have q1 : decide ((i : Int) < (vs.length : Int)) = false := decide_eq_false (by omega)
          have HF := hide (hfa.2 hil)
          clear hfa
          go_wp2_with fail
          go_ret2
          exact ⟨by rw [← HIX.out, HF.out]; rfl, hgr⟩
  · obtain rfl : vs = [] := List.eq_nil_of_length_eq_zero (by omega)
    obtain ⟨a, cap, rfl, _, _⟩ := ho.form
    clear ho hs HS
    rw [List.length_nil]
    go_enter Tryd.func47, Tryd.ntmps47
    go_wp2_with fail
    go_loopw [9, 10] (fun v9 v10 wr => v9 = .int .i64 0 ∧ v10 = .int .i64 0 ∧ wr = w) (fun _ _ _ => 0)
    case atStart => exact ⟨rfl, rfl, rfl⟩
    case round =>
      obtain ⟨rfl, rfl, rfl⟩ := hrel
      go_wp2_with fail
      go_ret2
      exact ⟨rfl, only_refl _ none⟩

def envV (s : Value) : Value := .agg #[s, .slice none 0 0, .string ⟨#[]⟩]
set_option maxHeartbeats 1000000 in
theorem find_any (vs : List V) (m : List UInt8) (v : Value) (w : World) (hs : Srt vs) (hl : vs.length ≤ 1000) (ho : Own w 35 4 v vs.length (vcs vs) 0) :
    Calls Tryd.prog 31 #[envV v, sv m] w fun e w' => e = .returned (.tuple #[.int .i64 (idxF m vs), .bool (foundB vs m)]) ∧ w.grownBy w' none := by
  have H := hide (fun W (hW : Own W 35 4 v vs.length (vcs vs) 0) => search_any vs m v W hs hl hW)
  have HO := hide ho
  unfold sv at H
  clear ho hs
  unfold sv envV
  go_enter Tryd.func31, Tryd.ntmps31
  go_wp2_with fail
  refine (H.out _ (HO.out.alloc _)).mono ?_
  rintro e w1 ⟨rfl, g1⟩
  go_wp2_with fail
  go_ret2
  exact ⟨rfl, none_trans (only_alloc (only_refl w none) _) g1⟩

end Go.Proofs.YtdcfpklohleoiaaDoor
