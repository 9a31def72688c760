/- The contracts of the pipe in terms of its bytes and its users. -/
import Derived.Test.YtlidkcbjahaahaaC
namespace Go.Proofs.Ytlidkcbjahaahaa
open Go.RowKit

def PipeIs (w : World) (b : Nat) (row : List UInt8) (r x : Int) : Prop := ∃ cs f, Blk w b 49 cs ∧ PipeCs cs f row r x

theorem PipeCs.setR {cs f row r x} (h : PipeCs cs f row r x) (r' : Int) : PipeCs (cs.setIfInBounds 130 (.int .i64 r')) f row r' x := by
  have hf := h.hf
  refine ⟨by simp [h.size], h.hf, h.hl, ?_, ?_, ?_, ?_, ?_, ?_⟩
  · rw [Array.getElem?_setIfInBounds_ne (by omega)]; exact h.c0
  · rw [Array.getElem?_setIfInBounds_ne (by omega)]; exact h.c1
  · rw [Array.getElem?_setIfInBounds_self_of_lt (by simp [h.size])]
  · rw [Array.getElem?_setIfInBounds_ne (by omega)]; exact h.c3
  · intro i hi; rw [Array.getElem?_setIfInBounds_ne (by omega)]; exact h.bytes i hi
  · intro i hi
    have : (f + i) % 128 < 128 := Nat.mod_lt _ (by omega)
    rw [Array.getElem?_setIfInBounds_ne (by omega)]; exact h.ring i hi
theorem PipeCs.setX {cs f row r x} (h : PipeCs cs f row r x) (x' : Int) : PipeCs (cs.setIfInBounds 131 (.int .i64 x')) f row r x' := by
  have hf := h.hf
  refine ⟨by simp [h.size], h.hf, h.hl, ?_, ?_, ?_, ?_, ?_, ?_⟩
  · rw [Array.getElem?_setIfInBounds_ne (by omega)]; exact h.c0
  · rw [Array.getElem?_setIfInBounds_ne (by omega)]; exact h.c1
  · rw [Array.getElem?_setIfInBounds_ne (by omega)]; exact h.c2
  · rw [Array.getElem?_setIfInBounds_self_of_lt (by simp [h.size])]
  · intro i hi; rw [Array.getElem?_setIfInBounds_ne (by omega)]; exact h.bytes i hi
  · intro i hi
    have : (f + i) % 128 < 128 := Nat.mod_lt _ (by omega)
    rw [Array.getElem?_setIfInBounds_ne (by omega)]; exact h.ring i hi

theorem PipeIs.new (w : World) : PipeIs (w.alloc (.cells pipe0 49)) w.heap.size [] 1 1 := by
  refine ⟨pipe0, 0, Blk.new _ _ _, by simp [pipe0], by omega, by simp, by simp [pipe0], by simp [pipe0], by simp [pipe0], by simp [pipe0], ?_, ?_⟩
  · intro i hi
    exact ⟨0, by simp [pipe0, Array.getElem?_append, hi]⟩
  · intro i h; simp at h

set_option maxHeartbeats 400000 in
theorem write_pipe (b : Nat) (s : ByteArray) (hs : s.size ≤ maxLen) (row : List UInt8) (r x : Int) (w : World) (hp : PipeIs w b row r x) (hr : (r == 0) = false) :
    Calls Try.prog 8 #[.pointer (some ⟨b, 0, none⟩), .string s] w fun e w' => e = .returned (.tuple #[.int .i64 (min s.size (128 - row.length) : Nat), .int .i64 0]) ∧
      PipeIs w' b (row ++ s.data.toList.take (128 - row.length)) r x ∧ w.grownBy w' (some b) := by
  obtain ⟨cs, f, hb, hc⟩ := hp
  refine (write_any b s hs row f r x cs w hb hc hr).mono ?_
  rintro e w' ⟨rfl, cs', h1, h2, h3⟩
  exact ⟨rfl, ⟨cs', f, h1, h2⟩, h3⟩

set_option maxHeartbeats 400000 in
theorem write_broken (b : Nat) (s : ByteArray) (row : List UInt8) (x : Int) (w : World) (hp : PipeIs w b row 0 x) :
    Calls Try.prog 8 #[.pointer (some ⟨b, 0, none⟩), .string s] w fun e w' => e = .returned (.tuple #[.int .i64 0, .int .i64 14]) ∧ w' = w := by
  obtain ⟨cs, f, hb, hc⟩ := hp
  have g2 : w.cell? ⟨b, 130, none⟩ = _ := (hb.cell 130).trans hc.c2
  clear hb hc
  go_enter Try.func8, Try.ntmps8
  go_wp2
  go_ret2
  exact ⟨rfl, rfl⟩

theorem read_pipe (b : Nat) (n : Int) (row : List UInt8) (r x : Int) (w : World) (hp : PipeIs w b row r x) :
    Calls Try.prog 9 #[.pointer (some ⟨b, 0, none⟩), .int .i64 n] w fun e w' => e = .returned (.tuple #[.string ⟨(row.take (rdN n row.length)).toArray⟩, .bool (isEnd (row.drop (rdN n row.length)) x)]) ∧
      PipeIs w' b (row.drop (rdN n row.length)) r x ∧ w.grownBy w' (some b) := by
  obtain ⟨cs, f, hb, hc⟩ := hp
  refine (read_any b n row f r x cs w hb hc).mono ?_
  rintro e w' ⟨rfl, cs', f', h1, h2, h3⟩
  exact ⟨rfl, ⟨cs', f', h1, h2⟩, h3⟩

set_option maxHeartbeats 400000 in
theorem state_pipe (b : Nat) (row : List UInt8) (r x : Int) (w : World) (hp : PipeIs w b row r x) :
    Calls Try.prog 10 #[.pointer (some ⟨b, 0, none⟩)] w fun e w' => e = .returned (.tuple #[.int .i64 r, .int .i64 x, .int .i64 row.length]) ∧ PipeIs w' b row r x ∧ w.grownBy w' none := by
  obtain ⟨cs, f, hb, hc⟩ := hp
  have g1 : w.cell? ⟨b, 129, none⟩ = _ := (hb.cell 129).trans hc.c1
  have g2 : w.cell? ⟨b, 130, none⟩ = _ := (hb.cell 130).trans hc.c2
  have g3 : w.cell? ⟨b, 131, none⟩ = _ := (hb.cell 131).trans hc.c3
  have Hb := hide hb
  have Hc := hide hc
  clear hb hc
  go_enter Try.func10, Try.ntmps10
  go_wp2
  go_quiet (fail)
  go_wp2
  go_ret3
  exact ⟨rfl, ⟨cs, f, Hb.out.drewN _, Hc.out⟩, only_drewN (only_refl _ _) _⟩

def addIf (c : Bool) (a d : Int) : Int := if c then a + d else a

set_option maxHeartbeats 400000 in
theorem join_pipe (b : Nat) (c : Bool) (row : List UInt8) (r x : Int) (w : World) (hp : PipeIs w b row r x) (hr : -4611686018427387904 ≤ r ∧ r ≤ 4611686018427387904) (hx : -4611686018427387904 ≤ x ∧ x ≤ 4611686018427387904) :
    Calls Try.prog 12 #[.pointer (some ⟨b, 0, none⟩), .bool c] w fun e w' => e = .returned (.tuple #[]) ∧ PipeIs w' b row (addIf (!c) r 1) (addIf c x 1) ∧ w.grownBy w' (some b) := by
  obtain ⟨cs, f, hb, hc⟩ := hp
  have g2 : w.cell? ⟨b, 130, none⟩ = _ := (hb.cell 130).trans hc.c2
  have g3 : w.cell? ⟨b, 131, none⟩ = _ := (hb.cell 131).trans hc.c3
  have z2 : w.frozen? ⟨b, 130, none⟩ = false := hb.frozen 130
  have z3 : w.frozen? ⟨b, 131, none⟩ = false := hb.frozen 131
  have Hb := hide hb
  have Hc := hide hc
  clear hb hc
  cases c
  · go_enter Try.func12, Try.ntmps12
    go_wp2
    refine wp_region_qtail 11 (by kernel_rfl) (by kernel_rfl) ?_
    simp only [List.take_succ_cons, List.take_zero, List.drop_succ_cons, List.drop_zero]
    repeat (go_big_quiet_step ((go_at_call 18; exact Calls.quiet_of_same (side_any _ _))))
    refine wpQuiet_nil ?_
    rintro _ ⟨nq, rfl⟩
    go_wp2
    go_returns
    exact ⟨rfl, ⟨_, f, (Hb.out.set_ 130 _).drewN _, Hc.out.setR _⟩, only_drewN (only_setCell (only_refl _ _) (.inl rfl) _) _⟩
  · go_enter Try.func12, Try.ntmps12
    go_wp2
    refine wp_region_qtail 11 (by kernel_rfl) (by kernel_rfl) ?_
    simp only [List.take_succ_cons, List.take_zero, List.drop_succ_cons, List.drop_zero]
    repeat (go_big_quiet_step ((go_at_call 18; exact Calls.quiet_of_same (side_any _ _))))
    refine wpQuiet_nil ?_
    rintro _ ⟨nq, rfl⟩
    go_wp2
    go_returns
    exact ⟨rfl, ⟨_, f, (Hb.out.set_ 131 _).drewN _, Hc.out.setX _⟩, only_drewN (only_setCell (only_refl _ _) (.inl rfl) _) _⟩

set_option maxHeartbeats 400000 in
theorem leave_yes (b : Nat) (c : Bool) (row : List UInt8) (r x : Int) (w : World) (hp : PipeIs w b row r x) (hr : -4611686018427387904 ≤ r ∧ r ≤ 4611686018427387904) (hx : -4611686018427387904 ≤ x ∧ x ≤ 4611686018427387904) (hn : ((if c then x else r) == 0) = false) :
    Calls Try.prog 11 #[.pointer (some ⟨b, 0, none⟩), .bool c] w fun e w' => e = .returned (.bool true) ∧ PipeIs w' b row (addIf (!c) r (-1)) (addIf c x (-1)) ∧ w.grownBy w' (some b) := by
  obtain ⟨cs, f, hb, hc⟩ := hp
  have g2 : w.cell? ⟨b, 130, none⟩ = _ := (hb.cell 130).trans hc.c2
  have g3 : w.cell? ⟨b, 131, none⟩ = _ := (hb.cell 131).trans hc.c3
  have z2 : w.frozen? ⟨b, 130, none⟩ = false := hb.frozen 130
  have z3 : w.frozen? ⟨b, 131, none⟩ = false := hb.frozen 131
  have Hb := hide hb
  have Hc := hide hc
  clear hb hc
  cases c
  all_goals
    simp only [if_true, if_false, Bool.false_eq_true] at hn
    go_enter Try.func11, Try.ntmps11
    go_wp2
    go_quiet ((go_at_call 18; exact Calls.quiet_of_same (side_any _ _)))
    go_wp2
    go_returns
  · exact ⟨rfl, ⟨_, f, (Hb.out.set_ 130 _).drewN _, Hc.out.setR _⟩, only_drewN (only_setCell (only_refl _ _) (.inl rfl) _) _⟩
  · exact ⟨rfl, ⟨_, f, (Hb.out.set_ 131 _).drewN _, Hc.out.setX _⟩, only_drewN (only_setCell (only_refl _ _) (.inl rfl) _) _⟩

set_option maxHeartbeats 400000 in
theorem leave_no (b : Nat) (c : Bool) (row : List UInt8) (r x : Int) (w : World) (hp : PipeIs w b row r x) (hn : ((if c then x else r) == 0) = true) :
    Calls Try.prog 11 #[.pointer (some ⟨b, 0, none⟩), .bool c] w fun e w' => e = .returned (.bool false) ∧ PipeIs w' b row r x ∧ w.grownBy w' (some b) := by
  obtain ⟨cs, f, hb, hc⟩ := hp
  have g2 : w.cell? ⟨b, 130, none⟩ = _ := (hb.cell 130).trans hc.c2
  have g3 : w.cell? ⟨b, 131, none⟩ = _ := (hb.cell 131).trans hc.c3
  have Hb := hide hb
  have Hc := hide hc
  clear hb hc
  cases c
  all_goals
    simp only [if_true, if_false, Bool.false_eq_true] at hn
    go_enter Try.func11, Try.ntmps11
    go_wp2
    go_quiet ((go_at_call 18; exact Calls.quiet_of_same (side_any _ _)))
    go_wp2
    go_returns
    exact ⟨rfl, ⟨_, f, Hb.out.drewN _, Hc.out⟩, only_drewN (only_refl _ _) _⟩

end Go.Proofs.Ytlidkcbjahaahaa
