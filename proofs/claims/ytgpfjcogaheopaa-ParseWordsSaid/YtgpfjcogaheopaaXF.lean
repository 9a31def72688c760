/- What is given up with is caught: caught, and Part's closure. -/
import Derived.Test.YtgpfjcogaheopaaXE
import Derived.Recover
import Derived.Defers
import Derived.Laws.Pointers
set_option linter.all false
namespace Go.Proofs.Ytgpfjcogaheopaa.Lx
open Go.RowKit
set_option maxRecDepth 100000

theorem caught_idle (fb : Nat) (w : World) : CallsD Try.prog 35 #[.pointer (some ⟨fb, 0, none⟩)] .returning w fun e u' w' => e = .returned (.tuple #[]) ∧ u' = .returning ∧ w' = w := by
  refine callsD_of_wpS Try.func35 rfl fun c₀ cs hu => ?_
  apply wpS_seq
  apply wpS_region
  simp [wpOpsS, go_sem, recoverD, hu, Try.ntmps35, Exit.thenS]
  simp only [Array.replicate_succ, Array.replicate_zero, List.push_toArray, List.append_toArray, List.nil_append, List.cons_append, List.setIfInBounds_toArray, List.set_cons_zero, List.set_cons_succ]
  refine wpS_of_wp ?_
  go_wp2
  refine ⟨rfl, .returning, ?_, _, results_none rfl _ _ _, rfl, rfl, rfl⟩
  cases c₀
  simp_all
def caughtV (a e : Int) : PanicEntry := { v := .iface 67 (.agg #[.int .i64 a, .int .i64 e]), recovered := true }
theorem caught_panic (fb : Nat) (a e : Int) (x y : Int) (w : World) (h : Blk w fb 67 #[.int .i64 x, .int .i64 y]) : CallsD Try.prog 35 #[.pointer (some ⟨fb, 0, none⟩)] (.panicking [faultV a e]) w fun en u' w' => en = .returned (.tuple #[]) ∧ u' = .panicking [caughtV a e] ∧ Blk w' fb 67 #[.int .i64 a, .int .i64 e] ∧ w.grownBy w' (some fb) := by
  unfold faultV caughtV
  have hta : ∀ W : World, (Instr.typeAssert (.iface 67 (.agg #[.int .i64 a, .int .i64 e])) 20 67 true).run Try.prog W = .ok (.tuple #[.agg #[.int .i64 a, .int .i64 e], .bool true]) W := fun _ => by kernel_rfl
  have c0 := Blk.cell h 0
  have c1 := Blk.cell h 1
  have z0 := Blk.frozen h 0
  have z1 := Blk.frozen h 1
  have hl := Blk.lt h
  have HB := hide h
  clear h
  refine callsD_of_wpS Try.func35 rfl fun c₀ cs hu => ?_
  apply wpS_seq
  apply wpS_region
  simp [wpOpsS, go_sem, recoverD, hu, Try.ntmps35, Exit.thenS]
  simp only [Array.replicate_succ, Array.replicate_zero, List.push_toArray, List.append_toArray, List.nil_append, List.cons_append, List.setIfInBounds_toArray, List.set_cons_zero, List.set_cons_succ]
  refine wpS_of_wp ?_
  go_wp2
  refine ⟨rfl, _, rfl, _, results_none rfl _ _ _, rfl, rfl, ?_, ?_⟩
  · exact Blk.alloc ((Blk.set_ HB.out 0 (.int .i64 a)).set_ 1 (.int .i64 e)) _
  · exact only_alloc (only_setCell (only_setCell (only_refl w (some fb)) (p := ⟨fb, 0, none⟩) (.inl rfl) _) (p := ⟨fb, 1, none⟩) (.inl rfl) _) _

end Go.Proofs.Ytgpfjcogaheopaa.Lx
