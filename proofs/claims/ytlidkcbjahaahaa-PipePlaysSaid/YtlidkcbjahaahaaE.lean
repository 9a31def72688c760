/- The contracts of the document's pipe. -/
import Derived.Test.YtlidkcbjahaahaaD
namespace Go.Proofs.Ytlidkcbjahaahaa
open Go.RowKit

/-! the reference -/
def RefIs (w : World) (b : Nat) (s : ByteArray) (r x : Int) : Prop := Blk w b 44 #[.int .i64 r, .int .i64 x, .string s]

set_option maxHeartbeats 400000 in
theorem ref_new (w : World) :
    Calls Try.prog 13 #[] w fun e w' => e = .returned (.pointer (some ⟨w.heap.size, 0, none⟩)) ∧ RefIs w' w.heap.size ByteArray.empty 1 1 ∧ w.grownBy w' none ∧ w'.heap.size = w.heap.size + 1 := by
  go_enter Try.func13, Try.ntmps13
  go_wp2
  go_ret
  exact ⟨rfl, Blk.new _ _ _, only_alloc (only_refl _ _) _, by simp⟩

set_option maxHeartbeats 400000 in
theorem ref_join (b : Nat) (c : Bool) (s : ByteArray) (r x : Int) (w : World) (hp : RefIs w b s r x) (hr : -4611686018427387904 ≤ r ∧ r ≤ 4611686018427387904) (hx : -4611686018427387904 ≤ x ∧ x ≤ 4611686018427387904) :
    Calls Try.prog 14 #[.pointer (some ⟨b, 0, none⟩), .bool c] w fun e w' => e = .returned (.tuple #[]) ∧ RefIs w' b s (addIf (!c) r 1) (addIf c x 1) ∧ w.grownBy w' (some b) := by
  unfold RefIs at *
  have g0 : w.cell? ⟨b, 0, none⟩ = some (.int .i64 r) := hp.cell 0
  have g1 : w.cell? ⟨b, 1, none⟩ = some (.int .i64 x) := hp.cell 1
  have z0 : w.frozen? ⟨b, 0, none⟩ = false := hp.frozen 0
  have z1 : w.frozen? ⟨b, 1, none⟩ = false := hp.frozen 1
  have Hb := hide hp
  clear hp
  cases c
  all_goals
    go_enter Try.func14, Try.ntmps14
    go_wp2
    go_returns
  · exact ⟨rfl, Hb.out.set_ 0 _, only_setCell (only_refl _ _) (.inl rfl) _⟩
  · exact ⟨rfl, Hb.out.set_ 1 _, only_setCell (only_refl _ _) (.inl rfl) _⟩

set_option maxHeartbeats 400000 in
theorem ref_leave_yes (b : Nat) (c : Bool) (s : ByteArray) (r x : Int) (w : World) (hp : RefIs w b s r x) (hr : -4611686018427387904 ≤ r ∧ r ≤ 4611686018427387904) (hx : -4611686018427387904 ≤ x ∧ x ≤ 4611686018427387904)
    (hn : ((if c then x else r) == 0) = false) :
    Calls Try.prog 15 #[.pointer (some ⟨b, 0, none⟩), .bool c] w fun e w' => e = .returned (.bool true) ∧ RefIs w' b s (addIf (!c) r (-1)) (addIf c x (-1)) ∧ w.grownBy w' (some b) := by
  unfold RefIs at *
  have g0 : w.cell? ⟨b, 0, none⟩ = some (.int .i64 r) := hp.cell 0
  have g1 : w.cell? ⟨b, 1, none⟩ = some (.int .i64 x) := hp.cell 1
  have z0 : w.frozen? ⟨b, 0, none⟩ = false := hp.frozen 0
  have z1 : w.frozen? ⟨b, 1, none⟩ = false := hp.frozen 1
  have Hb := hide hp
  clear hp
  cases c
  all_goals
    simp only [if_true, if_false, Bool.false_eq_true] at hn
    go_enter Try.func15, Try.ntmps15
    go_wp2
    go_returns
  · exact ⟨rfl, Hb.out.set_ 0 _, only_setCell (only_refl _ _) (.inl rfl) _⟩
  · exact ⟨rfl, Hb.out.set_ 1 _, only_setCell (only_refl _ _) (.inl rfl) _⟩

set_option maxHeartbeats 400000 in
theorem ref_leave_no (b : Nat) (c : Bool) (s : ByteArray) (r x : Int) (w : World) (hp : RefIs w b s r x) (hn : ((if c then x else r) == 0) = true) :
    Calls Try.prog 15 #[.pointer (some ⟨b, 0, none⟩), .bool c] w fun e w' => e = .returned (.bool false) ∧ RefIs w' b s r x ∧ w.grownBy w' (some b) := by
  unfold RefIs at *
  have g0 : w.cell? ⟨b, 0, none⟩ = some (.int .i64 r) := hp.cell 0
  have g1 : w.cell? ⟨b, 1, none⟩ = some (.int .i64 x) := hp.cell 1
  have Hb := hide hp
  clear hp
  cases c
  all_goals
    simp only [if_true, if_false, Bool.false_eq_true] at hn
    go_enter Try.func15, Try.ntmps15
    go_wp2
    go_returns
    exact ⟨rfl, Hb.out, only_refl _ _⟩

set_option maxHeartbeats 400000 in
theorem ref_broken (b : Nat) (s t : ByteArray) (x : Int) (w : World) (hp : RefIs w b t 0 x) :
    Calls Try.prog 16 #[.pointer (some ⟨b, 0, none⟩), .string s] w fun e w' => e = .returned (.tuple #[.int .i64 0, .int .i64 14]) ∧ w' = w := by
  unfold RefIs at *
  have g0 : w.cell? ⟨b, 0, none⟩ = some (.int .i64 0) := hp.cell 0
  clear hp
  go_enter Try.func16, Try.ntmps16
  go_wp2
  go_ret2
  exact ⟨rfl, rfl⟩

set_option maxHeartbeats 400000 in
theorem ref_write (b : Nat) (s t : ByteArray) (ht : t.size ≤ 128) (r x : Int) (w : World) (hp : RefIs w b t r x) (hr : (r == 0) = false) :
    Calls Try.prog 16 #[.pointer (some ⟨b, 0, none⟩), .string s] w fun e w' => e = .returned (.tuple #[.int .i64 (min s.size (128 - t.size) : Nat), .int .i64 0]) ∧
      RefIs w' b ⟨(t.data.toList ++ s.data.toList.take (128 - t.size)).toArray⟩ r x ∧ w.grownBy w' (some b) := by
  unfold RefIs at *
  have g0 : w.cell? ⟨b, 0, none⟩ = some (.int .i64 r) := hp.cell 0
  have g2 : w.cell? ⟨b, 2, none⟩ = some (.string t) := hp.cell 2
  have z2 : w.frozen? ⟨b, 2, none⟩ = false := hp.frozen 2
  have Hb := hide hp
  clear hp
  obtain ⟨n, hn⟩ : ∃ n : Nat, n = min s.size (128 - t.size) := ⟨_, rfl⟩
  have hn1 : n ≤ s.size := by omega
  have hs2 : t.size + (s.extract 0 n).size ≤ 9223372036854775807 := by
    rw [ByteArray.size_extract]; have h := Nat.min_le_left n s.size; omega
  have Hn := hide hn
  clear hn
  go_enter Try.func16, Try.ntmps16
  go_wp2_with ((with_reducible refine wpList_min n ?m1 ?n1 ?hx ?hy ?hk ?_); (case hx => exact rfl); (case hy => exact rfl); (case hk => have := Hn.out; omega))
  refine wp_region_qtail 11 (by kernel_rfl) (by kernel_rfl) ?_
  simp only [List.take_succ_cons, List.take_zero, List.drop_succ_cons, List.drop_zero]
  repeat (first | ((with_reducible refine wpQuiet_concat t (s.extract 0 n) ?hx ?hy ?hs ?_); (case hx => exact rfl); (case hy => exact rfl); (case hs => exact hs2); simp only [Act.put, List.setIfInBounds_toArray, List.set_cons_zero, List.set_cons_succ]) | go_big_quiet_step (fail))
  refine wpQuiet_nil ?_
  rintro _ ⟨nq, rfl⟩
  go_wp2
  go_ret2
  have e : t ++ s.extract 0 n = ⟨(t.data.toList ++ s.data.toList.take (128 - t.size)).toArray⟩ := by
    apply ByteArray.ext
    rw [ByteArray.data_append, ByteArray.data_extract]
    apply Array.ext'
    have := Hn.out
    have hsz : s.data.toList.length = s.size := rfl
    simp only [Array.toList_append, Array.toList_extract, List.extract_eq_take_drop, List.drop_zero, Nat.sub_zero]
    congr 1
    by_cases h : s.size ≤ 128 - t.size
    · rw [List.take_of_length_le (by omega), List.take_of_length_le (by omega)]
    · rw [show n = 128 - t.size by omega]
  refine ⟨by rw [← Hn.out]; rfl, ?_, only_drewN (only_setCell (only_refl _ _) (.inl rfl) _) _⟩
  rw [← e]
  exact (Hb.out.set_ 2 _).drewN _

set_option maxHeartbeats 400000 in
theorem ref_read (b : Nat) (n : Int) (row : List UInt8) (hrow : row.length ≤ 128) (r x : Int) (w : World) (hp : RefIs w b ⟨row.toArray⟩ r x) :
    Calls Try.prog 17 #[.pointer (some ⟨b, 0, none⟩), .int .i64 n] w fun e w' => e = .returned (.tuple #[.string ⟨(row.take (rdN n row.length)).toArray⟩, .bool (isEnd (row.drop (rdN n row.length)) x)]) ∧
      RefIs w' b ⟨(row.drop (rdN n row.length)).toArray⟩ r x ∧ w.grownBy w' (some b) := by
  unfold RefIs at *
  have g1 : w.cell? ⟨b, 1, none⟩ = some (.int .i64 x) := hp.cell 1
  have g2 : w.cell? ⟨b, 2, none⟩ = some (.string ⟨row.toArray⟩) := hp.cell 2
  have z2 : w.frozen? ⟨b, 2, none⟩ = false := hp.frozen 2
  have Hb := hide hp
  clear hp
  obtain ⟨m, hm⟩ : ∃ m, m = rdN n row.length := ⟨_, rfl⟩
  have hm1 : m ≤ row.length := by rw [hm]; unfold rdN; omega
  rw [← hm]
  have Hn := hide hm
  clear hm
  go_enter Try.func17, Try.ntmps17
  go_upto_region 4 with (first
    | ((with_reducible refine wpList_min (min n row.length) ?m1 ?n1 ?hx1 ?hy1 ?hk1 ?_); (case hx1 => exact rfl); (case hy1 => exact rfl); (case hk1 => exact rfl))
    | ((with_reducible refine wpList_max m ?m2 ?n2 ?hx2 ?hy2 ?hk2 ?_); (case hx2 => exact rfl); (case hy2 => exact rfl); (case hk2 => have := Hn.out; unfold rdN at this; omega)))
  have e1 : (⟨row.toArray⟩ : ByteArray).extract 0 m = ⟨(row.take m).toArray⟩ := by rw [ByteArray.extract_mk]; simp
  have e2 : (⟨row.toArray⟩ : ByteArray).extract m row.length = ⟨(row.drop m).toArray⟩ := by
    rw [ByteArray.extract_mk, List.take_of_length_le (by simp)]
  rw [e1, e2]
  clear e1 e2
  have Hst := hide ((Hb.out.set_ 2 (.string ⟨(row.drop m).toArray⟩)))
  have Hg := hide (only_setCell (only_refl w (some b)) (p := ⟨b, 2, none⟩) (.inl rfl) (.string ⟨(row.drop m).toArray⟩))
  by_cases hend : row.drop m = []
  · have hd : (row.length : Int) - m = 0 := by have := congrArg List.length hend; rw [List.length_drop] at this; simp at this; omega
    rw [hend] at Hst Hg ⊢
    have Hend := hide hend
    clear hend
    by_cases hx : x = 0
    · subst hx
      go_quiet (fail)
      go_wp2
      go_ret2
      exact ⟨by rw [isEnd_true Hend.out rfl]; rfl, by rw [Hend.out]; exact Hst.out.drewN _, only_drewN Hg.out _⟩
    · have e2 : (x == 0) = false := by simp [hx]
      have Hx := hide hx
      clear hx
      go_quiet (fail)
      go_wp2
      go_ret2
      exact ⟨by rw [isEnd_x Hx.out]; rfl, by rw [Hend.out]; exact Hst.out.drewN _, only_drewN Hg.out _⟩
  · have hl : ¬ ((row.drop m).length = 0) := fun h => hend (List.eq_nil_of_length_eq_zero h)
    obtain ⟨l, hl'⟩ : ∃ l, l = row.drop m := ⟨_, rfl⟩
    rw [← hl'] at Hst Hg hl hend ⊢
    have Hd := hide hend
    have Hl := hide hl'
    clear hend hl'
    have e1 : ((l.length : Int) == 0) = false := by simpa using hl
    go_quiet (fail)
    go_wp2
    go_ret2
    exact ⟨by rw [isEnd_r (fun h => Hd.out (Hl.out.trans h))]; rfl, by rw [← Hl.out]; exact Hst.out.drewN _, only_drewN Hg.out _⟩

end Go.Proofs.Ytlidkcbjahaahaa
