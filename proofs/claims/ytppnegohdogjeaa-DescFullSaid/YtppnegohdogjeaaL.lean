/- DescFull: plain facts on the tables that come, and the walk. -/
import Derived.Test.YtppnegohdogjeaaI
namespace Go.Proofs.Ytppnegohdogjeaa
open Go.RowKit

def s1 (j n : Nat) : Sl := ⟨1, j, 0, false, 0, n⟩
def TF (i : Nat) : List Sl := (List.range i).map (fun j => s1 j 1) ++ List.replicate (60 - i) sl0
theorem TF_len {i : Nat} (hi : i ≤ 60) : (TF i).length = 60 := by simp [TF]; omega
theorem TF_lo {i j : Nat} (hj : j < i) : (TF i)[j]? = some (s1 j 1) := by
  unfold TF
  rw [List.getElem?_append_left (by simpa using hj)]
  simp [hj]
theorem TF_hi {i j : Nat} (hi : i ≤ j) (hj : j < 60) : (TF i)[j]? = some sl0 := by
  unfold TF
  rw [List.getElem?_append_right (by simpa using hi)]
  simp only [List.length_map, List.length_range, List.getElem?_replicate]
  rw [if_pos (by omega)]
theorem TF_set {i : Nat} (hi : i < 60) : (TF i).set i (s1 i 1) = TF (i + 1) := by
  apply List.ext_getElem?
  intro j
  by_cases hj : j = i
  · subst hj
    rw [List.getElem?_set_self (by rw [TF_len (by omega)]; exact hi), TF_lo (by omega)]
  · rw [List.getElem?_set_ne (by omega)]
    by_cases h1 : j < i
    · rw [TF_lo h1, TF_lo (by omega)]
    · by_cases h2 : j < 60
      · rw [TF_hi (by omega) h2, TF_hi (by omega) h2]
      · rw [List.getElem?_eq_none (by rw [TF_len (by omega)]; omega), List.getElem?_eq_none (by rw [TF_len (by omega)]; omega)]
theorem fs_some {T : List Sl} {k : Nat} (hk : k < T.length) (hx : T[k].h = 0) (h : ∀ j (hj : j < T.length), j < k → T[j].h ≠ 0) : ∀ (m i : Nat), k - i = m → i ≤ k → fs T i = some k := by
  intro m
  induction m with
  | zero =>
    intro i hm hi
    have : i = k := by omega
    subst this
    exact fs_here hk hx
  | succ m ih =>
    intro i hm hi
    rw [fs_next (by omega) (h i (by omega) (by omega))]
    exact ih (i + 1) (by omega) (by omega)
theorem fs_none {T : List Sl} (h : ∀ j (hj : j < T.length), T[j].h ≠ 0) : ∀ (m i : Nat), T.length - i = m → fs T i = none := by
  intro m
  induction m with
  | zero => intro i hm; exact fs_end (by omega)
  | succ m ih =>
    intro i hm
    rw [fs_next (by omega) (h i (by omega))]
    exact ih (i + 1) (by omega)
theorem get_of {T : List Sl} {j : Nat} {s : Sl} (h : T[j]? = some s) (hj : j < T.length) : T[j] = s := by
  rw [List.getElem?_eq_getElem hj] at h
  injection h

theorem open_TF {i : Nat} (hi : i < 60) (n : Nat) : openRes (TF i) (s1 i n) = (TF (i + 1), (i : Int), 0) := by
  have hf : fs (TF i) 0 = some i := by
    have hl := TF_len (i := i) (by omega)
    refine fs_some (by omega) ?_ ?_ _ 0 rfl (by omega)
    · rw [get_of (TF_hi (Nat.le_refl i) hi) (by omega)]; rfl
    · intro j hj hji
      rw [get_of (TF_lo hji) hj]
      exact Nat.one_ne_zero
  unfold openRes
  rw [if_neg (by simp [s1]), hf]
  simp only [putH]
  rw [← TF_set hi]
  rfl
theorem open_full (d : Sl) (hd : d.o = 1) : openRes (TF 60) d = (TF 60, 0, 12) := by
  have hf : fs (TF 60) 0 = none := by
    have hl := TF_len (i := 60) (by omega)
    refine fs_none ?_ _ 0 rfl
    intro j hj
    rw [get_of (TF_lo (by omega)) hj]
    exact Nat.one_ne_zero
  unfold openRes
  rw [if_neg (by rw [hd]; decide), hf]

def TK (k n : Nat) : List Sl := (TF 60).set k (s1 k n)
theorem TK_len (k n : Nat) : (TK k n).length = 60 := by unfold TK; rw [List.length_set]; exact TF_len (by omega)
theorem TK_one {k : Nat} (hk : k < 60) : TK k 1 = TF 60 := by
  unfold TK
  have hl := TF_len (i := 60) (by omega)
  have : s1 k 1 = (TF 60)[k]'(by omega) := (get_of (TF_lo hk) _).symm
  rw [this]
  exact List.set_getElem_self _
theorem TK_get {k : Nat} (hk : k < 60) (n : Nat) : (TK k n).getD k sl0 = s1 k n := getD_set _ k (by rw [TF_len (by omega)]; exact hk) _
theorem TK_set (k n m : Nat) : (TK k n).set k (s1 k m) = TK k m := by unfold TK; rw [List.set_set]
theorem TK_live {k n : Nat} (hk : k < 60) (hn : 0 < n) : liveN (TK k n) (k : Int) = some k := by
  unfold liveN
  rw [if_pos (by rw [Int.toNat_natCast, TK_get hk]; exact ⟨by omega, by omega, by simp [s1]; omega⟩)]
  rfl
theorem TK_dead {k : Nat} (hk : k < 60) : liveN (TK k 0) (k : Int) = none := by
  unfold liveN
  rw [if_neg (by rw [Int.toNat_natCast, TK_get hk]; simp [s1])]
theorem hold_TK {k n : Nat} (hk : k < 60) (hn : 0 < n) : holdRes (TK k n) (k : Int) = (TK k (n + 1), true) := by
  unfold holdRes
  rw [TK_live hk hn]
  simp only [TK_get hk]
  rw [show putH (s1 k n) ((s1 k n).h + 1) = s1 k (n + 1) from rfl, TK_set]
theorem held_TK {k n : Nat} (hk : k < 60) (hn : 0 < n) : heldRes (TK k n) (k : Int) = n := by
  unfold heldRes
  rw [TK_live hk hn]
  simp only [TK_get hk]
  rfl
theorem drop_TK {k n : Nat} (hk : k < 60) (hn : 0 < n) : dropRes (TK k (n + 1)) (k : Int) = (TK k n, noDesc, false) := by
  unfold dropRes
  rw [TK_live hk (by omega)]
  simp only [TK_get hk]
  rw [if_pos (by simp [s1]; omega), show putH (s1 k (n + 1)) ((s1 k (n + 1)).h - 1) = s1 k n from rfl, TK_set]
theorem drop_last {k : Nat} (hk : k < 60) : dropRes (TK k 1) (k : Int) = (TK k 0, (s1 k 1).desc, true) := by
  unfold dropRes
  rw [TK_live hk (by omega)]
  simp only [TK_get hk]
  rw [if_neg (by simp [s1]), show putH (s1 k 1) ((s1 k 1).h - 1) = s1 k 0 from rfl, TK_set]
theorem get_dead {k : Nat} (hk : k < 60) : getRes (TK k 0) (k : Int) = (noDesc, false) := by
  unfold getRes
  rw [TK_dead hk]
theorem open_dead {k : Nat} (hk : k < 60) (d : Sl) (hd : d.o = 3) : (openRes (TK k 0) d).2 = ((k : Int), 0) := by
  have hf : fs (TK k 0) 0 = some k := by
    have hl := TK_len k 0
    refine fs_some (by omega) ?_ ?_ _ 0 rfl (by omega)
    · have := TK_get hk 0
      rw [List.getD_eq_getElem?_getD, List.getElem?_eq_getElem (by omega)] at this
      have h2 : (TK k 0)[k]'(by omega) = s1 k 0 := this
      rw [h2]
      rfl
    · intro j hj hjk
      have : (TK k 0)[j]? = some (s1 j 1) := by unfold TK; rw [List.getElem?_set_ne (by omega)]; exact TF_lo (by omega)
      rw [get_of this hj]
      exact Nat.one_ne_zero
  unfold openRes
  rw [if_neg (by rw [hd]; decide), hf]

theorem ofInt15 : (BitVec.ofInt 64 15).toNat = 15 := by decide
theorem and15 (z : Int) : ∃ k : Nat, k < 16 ∧ bits .and .i64 z 15 = (k : Int) := by
  refine ⟨(BitVec.ofInt 64 z &&& BitVec.ofInt 64 15).toNat, ?_, ?_⟩
  · rw [BitVec.toNat_and, ofInt15]
    exact Nat.lt_of_le_of_lt Nat.and_le_right (by decide)
  · show IntKind.i64.wrap ((BitVec.ofInt 64 z &&& BitVec.ofInt 64 15).toNat : Int) = _
    have h : (BitVec.ofInt 64 z &&& BitVec.ofInt 64 15).toNat ≤ 15 := by rw [BitVec.toNat_and, ofInt15]; exact Nat.and_le_right
    rw [IntKind.wrap_i64]
    omega

/-- The law's table, made behind w0. -/
structure Tab (w0 : World) (wr : World) (b : Nat) (T : List Sl) : Prop where
  t : TabIs wr b 66 T
  g : w0.grownBy wr none
  n : w0.heap.size ≤ b
section
variable {w0 wr w' : World} {b : Nat} {T T' : List Sl}
theorem Tab.turn (h : Tab w0 wr b T) (ht : TabIs w' b 66 T') (hg : wr.grownBy w' (some b)) : Tab w0 w' b T' := ⟨ht, only_new h.g h.n hg, h.n⟩
theorem Tab.gr (h : Tab w0 wr b T) (hg : wr.grownBy w' none) : Tab w0 w' b T := ⟨h.t.gr hg (by simp), only_trans h.g hg, h.n⟩
theorem Tab.alloc (h : Tab w0 wr b T) (o : Obj) : Tab w0 (wr.alloc o) b T := h.gr (only_alloc (only_refl _ _) o)
end

set_option maxRecDepth 100000 in
set_option maxHeartbeats 4000000 in
theorem full_any (wh hs : Int) (hw : -9223372036854775808 ≤ wh ∧ wh ≤ 9223372036854775807) (w : World) :
    Calls Try.prog 5 #[.int .i64 wh, .int .i64 hs] w fun e w' => e = .returned (.bool true) ∧ Below w.heap.size w w' := by
  obtain ⟨m, hm, hbits⟩ := and15 hs
  obtain ⟨hw1, hw2⟩ := hw
  have Hbits := hide hbits
  clear hbits
  go_enter Try.func5, Try.ntmps5
  go_wp2_with fail
  go_at_call 8
  refine (shown_any w).mono ?_
  rintro e w1 ⟨rfl, hg⟩
  have G1 := hide hg
  clear hg
  go_wp2_with fail
  go_at_call 20
  refine (new_any w1).mono ?_
  rintro e w2 ⟨rfl, h, hg, -⟩
  have R0 := hide (show Tab w w2 w1.heap.size (TF 0) from ⟨h, only_trans G1.out hg, G1.out.size⟩)
  clear h hg G1
  generalize w1.heap.size = b at R0 ⊢
  go_wp2_with fail
  go_loopw [7] (fun u wr => ∃ i : Nat, u = .int .i64 i ∧ i ≤ 60 ∧ Tab w wr b (TF i)) (fun u _ => 60 - (intOf u).toNat)
  case atStart => exact ⟨0, rfl, by omega, R0.out⟩
  case round =>
    obtain ⟨i, rfl, hi, hT⟩ := hrel
    clear R0
    have HT := hide hT
    clear hT
    by_cases hlt : i < 60
    · go_wp2_with fail
      go_at_call 21
      refine (open_any b (TF i) (s1 i 0) wr HT.out.t).mono ?_
      rw [open_TF hlt]
      rintro e w3 ⟨rfl, h, hg⟩
      have HT2 := hide (HT.out.turn h hg)
      clear h hg HT
      go_wp2
      go_roundw
      case rel => exact ⟨i + 1, by go_num, by omega, HT2.out⟩
      case measure => simp [intOf]; omega
    · have : i = 60 := by omega
      subst this
      go_wp2_with fail
      go_at_call 21
      refine (open_any b (TF 60) (s1 0 0) wr HT.out.t).mono ?_
      rw [open_full _ rfl]
      rintro e w3 ⟨rfl, h, hg⟩
      have HT2 := HT.out.turn h hg
      clear h hg HT
      obtain ⟨k, hk, hcase⟩ : ∃ k : Nat, k < 60 ∧ ((wh < 0 ∧ (-(wh + 1)) % 60 = (k : Int)) ∨ (0 ≤ wh ∧ wh % 60 = (k : Int))) := by
        by_cases h : wh < 0
        · exact ⟨((-(wh + 1)) % 60).toNat, by omega, .inl ⟨h, by omega⟩⟩
        · exact ⟨(wh % 60).toNat, by omega, .inr ⟨by omega, by omega⟩⟩
      rw [← TK_one hk] at HT2
      have HT3 := hide HT2
      clear HT2
      have hcase2 : (decide (wh < 0) = true ∧ wh < 0 ∧ -(wh + 1).tmod 60 = (k : Int)) ∨ (decide (wh < 0) = false ∧ 0 ≤ wh ∧ wh % 60 = (k : Int)) := by
        rcases hcase with ⟨h1, h2⟩ | ⟨h1, h2⟩
        · left
          refine ⟨by simpa using h1, h1, ?_⟩
          rw [← Int.neg_tmod, Int.tmod_eq_emod_of_nonneg (by omega)]
          exact h2
        · right
          exact ⟨by simp; omega, h1, h2⟩
      clear hcase
      rcases hcase2 with ⟨q, hneg, hmod⟩ | ⟨q, hneg, hmod⟩
      all_goals
        have Hmod := hide hmod
        clear hmod
        go_wp2_with fail
        rw [Hmod.out, Hbits.out]
        clear Hmod
        go_loopw [13] (fun u wr => ∃ i : Nat, u = .int .i64 i ∧ i ≤ m ∧ Tab w wr b (TK k (i + 1))) (fun u _ => m - (intOf u).toNat)
        case atStart => exact ⟨0, rfl, by omega, HT3.out⟩
        case round =>
          obtain ⟨i, rfl, hi, hT⟩ := hrel
          clear HT3
          have HT := hide hT
          clear hT
          by_cases hlt : i < m
          · go_wp2_with fail
            go_at_call 22
            refine (hold_any b (TK k (i + 1)) (k : Int) _ HT.out.t (by rw [held_TK hk (by omega)]; omega)).mono ?_
            rw [hold_TK hk (by omega)]
            rintro e w4 ⟨rfl, h, hg⟩
            have HT2 := hide (HT.out.turn h hg)
            clear h hg HT
            go_wp2
            go_roundw
            case rel => exact ⟨i + 1, by go_num, by omega, HT2.out⟩
            case measure => simp [intOf]; omega
          · have : i = m := by omega
            subst this
            go_wp2_with fail
            go_loopw [14] (fun u wr => ∃ j n : Nat, u = .int .i64 j ∧ i ≤ j + n ∧ j + n ≤ i ∧ Tab w wr b (TK k (n + 1))) (fun u _ => i - (intOf u).toNat)
            case atStart => exact ⟨0, i, rfl, by omega, by omega, HT.out⟩
            case round =>
              obtain ⟨j, n, rfl, hjn, hjn2, hT⟩ := hrel
              clear HT
              have HT := hide hT
              clear hT
              by_cases hlt2 : 0 < n
              · have q2 : ((n : Int) != (i : Int) - (j : Int)) = false := by simp; omega
                go_wp2_with fail
                go_at_call 23
                refine (drop_any b (TK k (n + 1)) (k : Int) _ HT.out.t (by rw [held_TK hk (by omega)]; omega)).mono ?_
                rw [drop_TK hk hlt2]
                rintro e w5 ⟨rfl, h, hg⟩
                have HT2 := hide ((HT.out.turn h hg).alloc (.cells #[.int .i64 0, .int .i64 0, .int .i64 0, .bool false, .int .i64 0] 41))
                clear h hg HT
                unfold noDesc
                go_wp2_with fail
                go_at_call 24
                refine (held_any b (TK k n) (k : Int) _ HT2.out.t).mono ?_
                rw [held_TK hk hlt2]
                rintro e w6 ⟨rfl, rfl⟩
                go_wp2
                go_roundw
                case rel => exact ⟨j + 1, n - 1, by go_num, by omega, by omega, by rw [show n - 1 + 1 = n from by omega]; exact HT2.out⟩
                case measure => simp [intOf]; omega
              · have : n = 0 := by omega
                subst this
                go_wp2_with fail
                go_at_call 23
                refine (drop_any b (TK k 1) (k : Int) _ HT.out.t (by rw [held_TK hk (by omega)]; omega)).mono ?_
                rw [drop_last hk]
                rintro e w5 ⟨rfl, h, hg⟩
                have HT2 := hide ((HT.out.turn h hg).alloc (.cells #[.int .i64 1, .int .i64 k, .int .i64 0, .bool false, .int .i64 0] 41))
                have hlt5 := (HT.out.turn h hg).t.lt
                clear h hg HT
                rw [show (s1 k 1).desc = .agg #[.int .i64 1, .int .i64 k, .int .i64 0, .bool false, .int .i64 0] from rfl]
                go_wp2_with fail
                go_at_call 25
                refine (get_any b (TK k 0) (k : Int) _ HT2.out.t).mono ?_
                unfold GetPost
                rw [get_dead hk]
                rintro e w6 ⟨rfl, hg⟩
                have HT3 := hide ((HT2.out.gr hg).alloc (.cells #[.int .i64 0, .int .i64 0, .int .i64 0, .bool false, .int .i64 0] 41))
                have d1 : w6.cell? ⟨w5.heap.size, 1, none⟩ = some (.int .i64 k) := none_cell hg (by simp) (World.cell?_alloc_new w5 _ _ 1)
                have hd5 : w5.heap.size < w6.heap.size := by have := hg.size; rw [World.size_alloc] at this; omega
                clear hg HT2
                unfold noDesc
                have ho := open_dead hk ⟨3, 0, 0, false, 0, 0⟩ rfl
                go_wp2_with fail
                go_at_call 21
                refine (open_any b (TK k 0) ⟨3, 0, 0, false, 0, 0⟩ _ HT3.out.t).mono ?_
                rw [ho]
                clear ho
                rintro e w7 ⟨rfl, h, hg⟩
                have HT4 := hide (HT3.out.turn h hg)
                have hne : w5.heap.size ≠ b := by omega
                have d2 : w7.cell? ⟨w5.heap.size, 1, none⟩ = some (.int .i64 k) := (World.cell?_of_block (hg.block _ (by simp; omega) (by simp; omega))).trans ((World.cell?_alloc_lt _ _ _ (by show _ < _; omega)).trans d1)
                clear h hg HT3
                go_wp2
                go_ret
                exact ⟨rfl, below_of_none HT4.out.g⟩

end Go.Proofs.Ytppnegohdogjeaa
