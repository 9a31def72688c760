/- Quote: strings.ReplaceAll of one byte. Cut at one byte. -/
import Derived.Test.YtdcfpklohleoiaaDoorL
import Derived.Lib.IndexLaws
namespace Go.Proofs.YtdcfpklohleoiaaDoor
open Go.RowKit
set_option maxRecDepth 100000

def qc (c : UInt8) : List UInt8 := if c = 39 then [39, 92, 39, 39] else [c]
def qR (s : List UInt8) : List UInt8 := s.flatMap qc
def quoteF (s : List UInt8) : List UInt8 := 39 :: (qR s ++ [39])
theorem qR_app (a b : List UInt8) : qR (a ++ b) = qR a ++ qR b := by simp [qR]
theorem qR_none : ∀ (s : List UInt8), s.count 39 = 0 → qR s = s
  | [], _ => rfl
  | c :: s, h => by
    have hc : c ≠ 39 := fun e => by rw [e, List.count_cons_self] at h; omega
    rw [List.count_cons_of_ne hc] at h
    show qc c ++ qR s = _
    rw [qR_none s h]
    unfold qc
    rw [if_neg hc]
    rfl
theorem qR_len : ∀ (s : List UInt8), (qR s).length ≤ 4 * s.length
  | [] => Nat.le_refl _
  | c :: s => by
    show (qc c ++ qR s).length ≤ _
    have := qR_len s
    have h : (qc c).length ≤ 4 := by unfold qc; split <;> simp
    rw [List.length_append, List.length_cons]; omega
theorem idx_cut (c : UInt8) (t : List UInt8) : (t.count c = 0 ∧ Lib.indexByte t c = -1) ∨ ∃ j : Nat, Lib.indexByte t c = j ∧ j < t.length ∧ t.drop j = c :: t.drop (j + 1) ∧ (t.take j).count c = 0 := by
  have hge := Lib.indexByte_ge t c
  by_cases h : Lib.indexByte t c = -1
  · refine .inl ⟨?_, h⟩
    rw [List.count_eq_zero]
    intro hm
    obtain ⟨k, hk, he⟩ := List.getElem_of_mem hm
    exact Lib.indexByte_none h k (by rw [List.getElem?_eq_getElem hk, he])
  · obtain ⟨j, hj⟩ : ∃ j : Nat, Lib.indexByte t c = j := ⟨(Lib.indexByte t c).toNat, by omega⟩
    obtain ⟨h1, h2⟩ := Lib.indexByte_some hj
    obtain ⟨hl, he⟩ := List.getElem?_eq_some_iff.1 h1
    refine .inr ⟨j, hj, hl, by rw [List.drop_eq_getElem_cons hl, he], ?_⟩
    rw [List.count_eq_zero]
    intro hm
    obtain ⟨k, hk, he2⟩ := List.getElem_of_mem hm
    rw [List.length_take] at hk
    refine h2 k (by omega) ?_
    rw [List.getElem_take] at he2
    rw [List.getElem?_eq_getElem (by omega), he2]

theorem cnt61 (s : List UInt8) (c : UInt8) (w : World) : Calls Tryd.prog 61 #[.string ⟨s.toArray⟩, .string ⟨#[c]⟩] w fun e w' => e = .returned (.int .i64 (s.count c : Nat)) ∧ w' = w := by
  go_enter Tryd.func61, Tryd.ntmps61
  go_wp2
  rw [run_callFunc_extern Tryd.func76 (by kernel_rfl) (by kernel_rfl) (by kernel_rfl) (e := Extern.BytealgCount.count) (by kernel_rfl), Lib.run_countString]
  simp only [Result.andThen]
  rw [Oper.upon_value]
  go_wp2
  go_ret
  exact ⟨rfl, rfl⟩
theorem idx68 (s : ByteArray) (c : Int) (w : World) : Calls Tryd.prog 68 #[.string s, .int .u8 c] w fun e w' => e = .returned (.int .i64 (Lib.indexByte s.data.toList c.toNat.toUInt8)) ∧ w' = w := by
  go_enter Tryd.func68, Tryd.ntmps68
  go_wp2
  rw [run_callFunc_extern Tryd.func81 (by kernel_rfl) (by kernel_rfl) (by kernel_rfl) (e := Extern.BytealgIndexByte.indexByte) (by kernel_rfl), Lib.run_indexByteString]
  simp only [Result.andThen]
  rw [Oper.upon_value]
  go_wp2
  go_ret
  exact ⟨rfl, rfl⟩
set_option maxHeartbeats 2000000 in
theorem idx57 (s : ByteArray) (c : UInt8) (w : World) : Calls Tryd.prog 57 #[.string s, .string ⟨#[c]⟩] w fun e w' => e = .returned (.int .i64 (Lib.indexByte s.data.toList c)) ∧ w' = w := by
  have H := hide (fun w => idx68 s (c.toNat : Int) w)
  go_enter Tryd.func57, Tryd.ntmps57
  go_wp2_with (go_at_call 68; refine (H.out _).mono ?_; rintro e w' ⟨rfl, rfl⟩)
  · have h : ([c] == s.toList) = true := by assumption
    go_ret
    refine ⟨?_, rfl⟩
    have e : s.data.toList = [c] := by rw [← Lib.toList_data]; exact (beq_iff_eq.1 h).symm
    rw [e]
    simp [Lib.indexByte]
  · go_ret
    exact ⟨by simp, rfl⟩
theorem idx63 (s : List UInt8) (c : UInt8) (w : World) : Calls Tryd.prog 63 #[.string ⟨s.toArray⟩, .string ⟨#[c]⟩] w fun e w' => e = .returned (.int .i64 (Lib.indexByte s c)) ∧ w' = w := by
  have H := hide (idx57 ⟨s.toArray⟩ c)
  simp only [] at H
  go_enter Tryd.func63, Tryd.ntmps63
  go_wp2_with fail
  refine (H.out _).mono ?_
  rintro e w1 ⟨rfl, rfl⟩
  go_wp2
  go_ret
  exact ⟨rfl, rfl⟩

theorem ext_mid (l : List UInt8) (i j : Nat) (hij : i ≤ j) (h : j ≤ l.length) : (ByteArray.mk l.toArray).extract i j = ⟨((l.drop i).take (j - i)).toArray⟩ := by
  apply ByteArray.ext
  rw [ByteArray.data_extract]
  apply Array.ext'
  rw [Array.toList_extract, List.extract_eq_take_drop]

set_option maxHeartbeats 4000000 in
theorem replace_any (s : List UInt8) (w : World) (hs : s.length ≤ 100000) : Calls Tryd.prog 52 #[.string ⟨s.toArray⟩, .string ⟨#[39]⟩, .string ⟨#[39, 92, 39, 39]⟩, .int .i64 (-1)] w fun e w' => e = .returned (sv (qR s)) ∧ w.grownBy w' none := by
  have hC := cnt61 s 39
  have h1 := sz s
  obtain ⟨n, hn⟩ : ∃ n, s.count 39 = n := ⟨_, rfl⟩
  have hnl : n ≤ s.length := by rw [← hn]; exact List.count_le_length
  rw [hn] at hC
  have HC := hide hC
  have HN := hide hn
  unfold sv
  by_cases h0 : n = 0
  · subst h0
    have HQ := hide (qR_none s hn)
    clear hC hn
    go_enter Tryd.func52, Tryd.ntmps52
    go_wp2_with fail
    refine (HC.out _).mono ?_
    rintro e w1 ⟨rfl, rfl⟩
    go_wp2_with fail
    go_ret
    exact ⟨by rw [HQ.out]; rfl, only_refl _ none⟩
  · have q0 : ((n : Int) == 0) = false := by rw [beq_eq_false_iff_ne]; omega
    have HX := hide (fun t w' => idx63 t 39 w')
    have hext : ∀ n, (ByteArray.mk s.toArray).extract n s.length = ⟨(s.drop n).toArray⟩ := fun n => ext_drop s n _ rfl
    clear hC hn
    go_enter Tryd.func52, Tryd.ntmps52
    go_wp2_with fail
    refine (HC.out _).mono ?_
    rintro e w1 ⟨rfl, rfl⟩
    go_wp2_with fail
    rw [show ((s.length : Int) + (n : Int) * 3) = ((s.length + n * 3 : Nat) : Int) by omega]
    refine (b_grow w1.heap.size w1.heap.size (s.length + n * 3) _ (Nat.le_refl _) (heap_alloc_new w1 _) (by simp) (by omega)).mono ?_
    rintro e w2 ⟨rfl, hb0, hb1⟩
    have HB0 := hide (Or.inr hb0 : Lib.IsBuilder 94 5 w1.heap.size w1.heap.size (Lib.byteCells []) w2)
    have HG0 := hide (((Below.refl w1.heap.size w1).alloc (Nat.le_refl _) (.cells #[.pointer none, .slice none 0 0] 94)).trans hb1)
    clear hb0 hb1
    go_wp2_with fail
    go_loopw [11, 53] (fun v11 v53 wr => ∃ start k : Nat, v11 = .int .i64 start ∧ v53 = .int .i64 k ∧ k ≤ n ∧ start ≤ s.length ∧ (s.drop start).count 39 = n - k ∧ Lib.IsBuilder 94 5 w1.heap.size w1.heap.size (Lib.byteCells (qR (s.take start))) wr ∧ Below w1.heap.size w1 wr) (fun _ v53 _ => n - (intOf v53).toNat)
    case atStart => exact ⟨0, 0, rfl, rfl, Nat.zero_le _, Nat.zero_le _, by rw [List.drop_zero]; exact HN.out, HB0.out, HG0.out⟩
    case round =>
      obtain ⟨start, k, rfl, rfl, hk, hst, hcn, hB, hG⟩ := hrel
      have HB := hide hB
      have HG := hide hG
      have hBw : w1.heap.size ≤ wr.heap.size := hG.size
      have hib : (0 : Int) ≤ start ∧ (start : Int) ≤ (s.length : Int) := by omega
      have hql := qR_len (s.take start)
      have htl : (s.take start).length ≤ s.length := by rw [List.length_take]; omega
      by_cases hlt : k < n
      · have q1 : decide ((k : Int) < (n : Int)) = true := decide_eq_true (by omega)
        rcases idx_cut 39 (s.drop start) with ⟨hz, _⟩ | ⟨j, hj, hjl, hjd, hjt⟩
        · exfalso; omega
        · rw [List.length_drop] at hjl
          have hX := fun w' => HX.out (s.drop start) w'
          rw [hj] at hX
          have HXj := hide hX
          have hmid := ext_mid s start (start + j) (by omega) (by omega)
          rw [show start + j - start = j by omega] at hmid
          have hmid2 : (ByteArray.mk s.toArray).extract start ((start : Int) + (j : Int)).toNat = ⟨((s.drop start).take j).toArray⟩ := by rw [show ((start : Int) + (j : Int)).toNat = start + j from by omega, hmid]
          have hib2 : (0 : Int) ≤ (start : Int) + j ∧ (start : Int) ≤ (start : Int) + j ∧ (start : Int) + j ≤ (s.length : Int) := by omega
          obtain ⟨P, hP⟩ : ∃ P, (s.drop start).take j = P := ⟨_, rfl⟩
          have hPl : P.length ≤ s.length := by rw [← hP, List.length_take, List.length_drop]; omega
          rw [hP] at hmid hmid2 hjt
          have hqP := qR_none P hjt
          have hnext : qR (s.take start) ++ P ++ [39, 92, 39, 39] = qR (s.take (start + j + 1)) := by
            have e1 : s.take (start + j + 1) = s.take start ++ P ++ [39] := by
              have hlt2 : start + j < s.length := by omega
              rw [List.take_succ_eq_append_getElem hlt2, List.take_add, hP]
              congr 2
              have h3 := drop_at (l := s.drop start) (i := j) (by rw [List.length_drop]; omega)
              rw [hjd] at h3
              injection h3 with h3 _
              rw [List.getElem_drop] at h3
              exact h3.symm
            rw [e1, qR_app, qR_app, hqP]
            rfl
          have hcn2 : (s.drop (start + j + 1)).count 39 = n - (k + 1) := by
            have h3 : s.drop start = P ++ 39 :: s.drop (start + j + 1) := by
              rw [← List.take_append_drop j (s.drop start), hP, hjd, List.drop_drop]
              rfl
            rw [h3, List.count_append, hjt, List.count_cons_self] at hcn
            omega
          have HNX := hide hnext
          have HCN := hide hcn2
          have zP := sz P
          clear hX hj hjd hjt hcn hP hqP hnext hcn2 hB hG hmid
          go_wp2_with fail
          refine (HXj.out _).mono ?_
          rintro e w3 ⟨rfl, rfl⟩
          go_wp2_with fail
          refine (b_write w1.heap.size w1.heap.size _ ⟨P.toArray⟩ _ HB.out (by rw [Lib.byteCells_length, sz]; omega) hBw).mono ?_
          rintro e w4 ⟨rfl, hb4, hg4⟩
          rw [Lib.strCells_eq, ← Lib.byteCells_append] at hb4
          have HB4 := hide (Or.inr hb4 : Lib.IsBuilder 94 5 w1.heap.size w1.heap.size (Lib.byteCells (qR (s.take start) ++ P)) w4)
          have HG4 := hide (HG.out.trans hg4)
          have hBw4 : w1.heap.size ≤ w4.heap.size := HG4.out.size
          clear hb4 hg4
          go_wp2_with fail
          refine (b_write w1.heap.size w1.heap.size _ ⟨#[39, 92, 39, 39]⟩ _ HB4.out (by rw [Lib.byteCells_length, List.length_append]; show _ + 4 ≤ _; omega) hBw4).mono ?_
          rintro e w5 ⟨rfl, hb5, hg5⟩
          rw [Lib.strCells_eq, ← Lib.byteCells_append] at hb5
          have HB5 := hide (show Lib.IsBuilder 94 5 w1.heap.size w1.heap.size (Lib.byteCells (qR (s.take (start + j + 1)))) w5 from by rw [← HNX.out]; exact Or.inr hb5)
          have HG5 := hide (HG4.out.trans hg5)
          clear hb5 hg5
          go_wp2_with fail
          go_roundw
          case rel => exact ⟨start + j + 1, k + 1, by go_num, by go_num, by omega, by omega, HCN.out, HB5.out, HG5.out⟩
          case measure => simp [intOf]; omega
      · obtain rfl : k = n := by omega
        have q1 : decide ((k : Int) < (k : Int)) = false := decide_eq_false (by omega)
        have hz : (s.drop start).count 39 = 0 := by rw [hcn]; omega
        have hfin : qR (s.take start) ++ s.drop start = qR s := by
          have h3 := qR_app (s.take start) (s.drop start)
          rw [List.take_append_drop, qR_none _ hz] at h3
          exact h3.symm
        have HF := hide hfin
        have hdl : (s.drop start).length ≤ s.length := by rw [List.length_drop]; omega
        have zD := sz (s.drop start)
        clear hz hfin hcn hB hG
        go_wp2_with fail
        refine (b_write w1.heap.size w1.heap.size _ ⟨(s.drop start).toArray⟩ _ HB.out (by rw [Lib.byteCells_length, sz]; omega) hBw).mono ?_
        rintro e w4 ⟨rfl, hb4, hg4⟩
        rw [Lib.strCells_eq, ← Lib.byteCells_append] at hb4
        have HB4 := hide (show Lib.IsBuilder 94 5 w1.heap.size w1.heap.size (Lib.byteCells (qR s)) w4 from by rw [← HF.out]; exact Or.inr hb4)
        have HG4 := hide (HG.out.trans hg4)
        have hBw4 : w1.heap.size ≤ w4.heap.size := HG4.out.size
        clear hb4 hg4
        go_wp2_with fail
        refine (b_string w1.heap.size w1.heap.size _ _ HB4.out hBw4).mono ?_
        rintro e w5 ⟨rfl, hg5⟩
        go_wp2_with fail
        go_ret
        exact ⟨rfl, none_of_below (HG4.out.trans hg5)⟩

set_option maxHeartbeats 1000000 in
theorem replaceAll_any (s : List UInt8) (w : World) (hs : s.length ≤ 100000) : Calls Tryd.prog 39 #[.string ⟨s.toArray⟩, .string ⟨#[39]⟩, .string ⟨#[39, 92, 39, 39]⟩] w fun e w' => e = .returned (sv (qR s)) ∧ w.grownBy w' none := by
  have HR := hide (fun w' => replace_any s w' hs)
  unfold sv at HR ⊢
  go_enter Tryd.func39, Tryd.ntmps39
  go_wp2_with fail
  refine (HR.out _).mono ?_
  rintro e w1 ⟨rfl, g1⟩
  go_wp2_with fail
  go_ret
  exact ⟨rfl, g1⟩
set_option maxHeartbeats 1000000 in
theorem quote_any (s : List UInt8) (w : World) (hs : s.length ≤ 100000) : Calls Tryd.prog 24 #[sv s] w fun e w' => e = .returned (sv (quoteF s)) ∧ w.grownBy w' none := by
  have HR := hide (fun w' => replaceAll_any s w' hs)
  have hql := qR_len s
  obtain ⟨Q, hQ⟩ : ∃ Q, qR s = Q := ⟨_, rfl⟩
  have hf : quoteF s = [39] ++ Q ++ [39] := by rw [← hQ]; rfl
  rw [hf]
  rw [hQ] at HR hql
  have k1 := cat_ba [39] Q
  have k2 := cat_ba ([39] ++ Q) [39]
  have z1 := sz Q
  have y1 : ¬ 9223372036854775807 < 1 + Q.length := by omega
  have y2 : ¬ 9223372036854775807 < Q.length + 1 := by omega
  have y3 : ¬ 9223372036854775807 < Q.length + 1 + 1 := by omega
  have y4 : ¬ 9223372036854775807 < 1 + Q.length + 1 := by omega
  clear hQ hf
  unfold sv at HR ⊢
  go_enter Tryd.func24, Tryd.ntmps24
  go_wp2_with fail
  refine (HR.out _).mono ?_
  rintro e w1 ⟨rfl, g1⟩
  go_wp2_with fail
  go_ret
  exact ⟨by simp [cat_ba], g1⟩

/-- What stands ahead of the first '=', and behind it. -/
def cutF (s : List UInt8) : List UInt8 × List UInt8 × Bool := match Lib.indexByte s 61 with
  | .ofNat j => (s.take j, s.drop (j + 1), true)
  | .negSucc _ => (s, [], false)
set_option maxHeartbeats 1000000 in
theorem cut44 (s : List UInt8) (w : World) (hs : s.length ≤ 9223372036854775807) : Calls Tryd.prog 44 #[.string ⟨s.toArray⟩, .string ⟨#[61]⟩] w fun e w' => e = .returned (.tuple #[sv (cutF s).1, sv (cutF s).2.1, .bool (cutF s).2.2]) ∧ w.grownBy w' none := by
  have h1 := sz s
  have hX := fun w => idx57 ⟨s.toArray⟩ 61 w
  simp only [] at hX
  have hc := idx_cut 61 s
  unfold sv cutF
  obtain ⟨ix, hix⟩ : ∃ ix, Lib.indexByte s 61 = ix := ⟨_, rfl⟩
  rw [hix] at hX hc ⊢
  have HX := hide hX
  clear hX hix
  rcases hc with ⟨_, rfl⟩ | ⟨j, rfl, hj, _, _⟩
  · go_enter Tryd.func44, Tryd.ntmps44
    go_wp2_with fail
    refine (HX.out _).mono ?_
    rintro e w1 ⟨rfl, rfl⟩
    go_wp2_with fail
    go_ret3
    exact ⟨rfl, only_refl _ none⟩
  · have e1 := ext_take s j
    have e2 := ext_drop s (j + 1) s.length rfl
    have e2' : (ByteArray.mk s.toArray).extract ((j : Int) + 1).toNat s.length = ⟨(s.drop (j + 1)).toArray⟩ := by rw [show ((j : Int) + 1).toNat = j + 1 from by omega]; exact e2
    have hib : (0 : Int) ≤ j ∧ (j : Int) ≤ (s.length : Int) := by omega
    have hib2 : (0 : Int) ≤ (j : Int) + 1 ∧ (j : Int) + 1 ≤ (s.length : Int) := by omega
    have q0 : decide ((0 : Int) ≤ (j : Int)) = true := decide_eq_true (by omega)
    have hw1 : IntKind.i64.wrap ((j : Int) + 1) = (j : Int) + 1 := IntWalk.i64_in _ (by omega)
    go_enter Tryd.func44, Tryd.ntmps44
    go_wp2_with fail
    refine (HX.out _).mono ?_
    rintro e w1 ⟨rfl, rfl⟩
    go_wp2_with fail
    go_quiet (fail)
    go_wp2_with fail
    go_ret3
    exact ⟨rfl, only_drewN (only_refl _ none) _⟩
set_option maxHeartbeats 1000000 in
theorem cut26 (s : List UInt8) (w : World) (hs : s.length ≤ 9223372036854775807) : Calls Tryd.prog 26 #[.string ⟨s.toArray⟩, .string ⟨#[61]⟩] w fun e w' => e = .returned (.tuple #[sv (cutF s).1, sv (cutF s).2.1, .bool (cutF s).2.2]) ∧ w.grownBy w' none := by
  have H := hide (fun w => cut44 s w hs)
  go_enter Tryd.func26, Tryd.ntmps26
  go_wp2_with fail
  refine (H.out _).mono ?_
  rintro e w1 ⟨rfl, g1⟩
  go_wp2_with fail
  go_ret3
  exact ⟨rfl, g1⟩
theorem cut_len (s : List UInt8) : (cutF s).1.length ≤ s.length ∧ (cutF s).2.1.length ≤ s.length := by
  unfold cutF
  split
  · rw [List.length_take, List.length_drop]; omega
  · exact ⟨Nat.le_refl _, Nat.zero_le _⟩

end Go.Proofs.YtdcfpklohleoiaaDoor
