/- The small case with which each law begins answers true. -/
import Derived.Test.YtlidkcbjahaahaaE
namespace Go.Proofs.Ytlidkcbjahaahaa
open Go.RowKit

theorem PipeIs.lt {w b row r x} (h : PipeIs w b row r x) : b < w.heap.size := by
  obtain ⟨cs, f, hb, _⟩ := h; exact hb.lt
theorem PipeIs.len {w b row r x} (h : PipeIs w b row r x) : row.length ≤ 128 := by
  obtain ⟨cs, f, _, hc⟩ := h; exact hc.hl
theorem PipeIs.grown {w w' b row r x o} (h : PipeIs w b row r x) (hg : w.grownBy w' o) (hne : some b ≠ o) : PipeIs w' b row r x := by
  obtain ⟨cs, f, hb, hc⟩ := h
  exact ⟨cs, f, hb.grown hg hne, hc⟩

theorem new_pipe (w : World) :
    Calls Try.prog 7 #[] w fun e w' => e = .returned (.pointer (some ⟨w.heap.size, 0, none⟩)) ∧ PipeIs w' w.heap.size [] 1 1 ∧ w.grownBy w' none ∧ w'.heap.size = w.heap.size + 1 :=
  (new_any w).mono fun e w' ⟨he, hw⟩ => by
    subst hw
    exact ⟨he, PipeIs.new w, only_alloc (only_refl _ _) _, by simp⟩

/-- The six calls of 'shown', at their very arguments. -/
theorem sh_write (b : Nat) (w : World) (hp : PipeIs w b [] 1 1) :
    Calls Try.prog 8 #[.pointer (some ⟨b, 0, none⟩), .string ⟨#[97, 98, 99]⟩] w fun e w' => e = .returned (.tuple #[.int .i64 3, .int .i64 0]) ∧ PipeIs w' b [97, 98, 99] 1 1 ∧ w.grownBy w' (some b) :=
  write_pipe b ⟨#[97, 98, 99]⟩ (by decide) [] 1 1 w hp rfl
theorem sh_read1 (b : Nat) (w : World) (hp : PipeIs w b [97, 98, 99] 1 1) :
    Calls Try.prog 9 #[.pointer (some ⟨b, 0, none⟩), .int .i64 2] w fun e w' => e = .returned (.tuple #[.string ⟨#[97, 98]⟩, .bool false]) ∧ PipeIs w' b [99] 1 1 ∧ w.grownBy w' (some b) :=
  read_pipe b 2 [97, 98, 99] 1 1 w hp
theorem sh_leave1 (b : Nat) (w : World) (hp : PipeIs w b [99] 1 1) :
    Calls Try.prog 11 #[.pointer (some ⟨b, 0, none⟩), .bool true] w fun e w' => e = .returned (.bool true) ∧ PipeIs w' b [99] 1 0 ∧ w.grownBy w' (some b) :=
  leave_yes b true [99] 1 1 w hp (by omega) (by omega) rfl
theorem sh_read2 (b : Nat) (w : World) (hp : PipeIs w b [99] 1 0) :
    Calls Try.prog 9 #[.pointer (some ⟨b, 0, none⟩), .int .i64 5] w fun e w' => e = .returned (.tuple #[.string ⟨#[99]⟩, .bool true]) ∧ PipeIs w' b [] 1 0 ∧ w.grownBy w' (some b) :=
  read_pipe b 5 [99] 1 0 w hp
theorem sh_leave2 (b : Nat) (w : World) (hp : PipeIs w b [] 1 0) :
    Calls Try.prog 11 #[.pointer (some ⟨b, 0, none⟩), .bool false] w fun e w' => e = .returned (.bool true) ∧ PipeIs w' b [] 0 0 ∧ w.grownBy w' (some b) :=
  leave_yes b false [] 1 0 w hp (by omega) (by omega) rfl

set_option maxHeartbeats 400000 in
theorem shown_any (w : World) : Calls Try.prog 6 #[] w fun e w' => e = .returned (.bool true) ∧ w.grownBy w' none := by
  go_enter Try.func6, Try.ntmps6
  go_wp2_with (first
    | (go_at_call 7; refine (new_pipe _).mono ?_; rintro e w1 ⟨rfl, hp, hg, hz⟩; (have Hp := hide hp; have Hg := hide hg; have Hz := hide hz; clear hp hg hz))
    | (go_at_call 8; (with_reducible refine (sh_write _ _ Hp.out).mono ?_); rintro e w2 ⟨rfl, hp, hg⟩; (have Hp2 := hide hp; have Hg2 := hide hg; clear hp hg Hp))
    | (go_at_call 9; (with_reducible refine (sh_read1 _ _ Hp2.out).mono ?_); rintro e w3 ⟨rfl, hp, hg⟩; (have Hp3 := hide hp; have Hg3 := hide hg; clear hp hg Hp2))
    | (go_at_call 11; (with_reducible refine (sh_leave1 _ _ Hp3.out).mono ?_); rintro e w4 ⟨rfl, hp, hg⟩; (have Hp4 := hide hp; have Hg4 := hide hg; clear hp hg Hp3))
    | (go_at_call 9; (with_reducible refine (sh_read2 _ _ Hp4.out).mono ?_); rintro e w5 ⟨rfl, hp, hg⟩; (have Hp5 := hide hp; have Hg5 := hide hg; clear hp hg Hp4))
    | (go_at_call 11; (with_reducible refine (sh_leave2 _ _ Hp5.out).mono ?_); rintro e w6 ⟨rfl, hp, hg⟩; (have Hp6 := hide hp; have Hg6 := hide hg; clear hp hg Hp5))
    | (go_at_call 8; (with_reducible refine (write_broken _ _ _ _ _ Hp6.out).mono ?_); rintro e w7 ⟨rfl, rfl⟩))
  go_ret
  refine ⟨rfl, ?_⟩
  have h1 := Hg.out
  exact only_new (only_new (only_new (only_new (only_new h1 (Nat.le_refl _) Hg2.out) (Nat.le_refl _) Hg3.out) (Nat.le_refl _) Hg4.out) (Nat.le_refl _) Hg5.out) (Nat.le_refl _) Hg6.out

end Go.Proofs.Ytlidkcbjahaahaa
