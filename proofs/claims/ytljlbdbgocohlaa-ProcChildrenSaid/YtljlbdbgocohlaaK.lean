/- The walk of New. -/
import Derived.Test.YtljlbdbgocohlaaJ
namespace Go.Proofs.Ytljlbdbgocohlaa
open Go.RowKit Go.Maps

def pr1 : Pr := ⟨1, 0, 0, 1, 0, false, true⟩
def newPS : PS := ⟨[pr1], 1, [], fun _ => 0, 1⟩

/-- A table that is new. -/
structure Fresh (w w' : World) (b : Nat) (st : PS) (S : Nat → Prop) : Prop where
  tab : TabIs w' b S st
  new : ∀ k, S k → w.heap.size ≤ k
  gr : w.grownBy w' none

set_option maxHeartbeats 1000000 in
theorem new_any (w : World) :
    Calls Try.prog 8 #[] w fun e w' => ∃ b S, e = .returned (.pointer (some ⟨b, 0, none⟩)) ∧ Fresh w w' b newPS S := by
  have ho : Own (w.alloc (.cells pr1.cells.toArray 34)) 34 7 (.slice (some ⟨w.heap.size, 0, none⟩) 1 1) 1 (pcs [pr1]) 0 := by
    have := Own.made w pr1.cells.toArray 34 7 1 0 rfl (by unfold maxLen; omega)
    rw [show pr1.cells.toArray.toList = pcs [pr1] from by simp [pcs]] at this
    exact this
  have Ho := hide ho
  clear ho
  go_enter Try.func8, Try.ntmps8
  go_wp2_with fail
  have hmk : ∀ W : World, (Instr.makeMap 56 none).run Try.prog W = .ok (.map (some W.heap.size)) (W.alloc (.map #[] 0)) := fun W => by kernel_rfl
  rw [hmk]
  simp only [Result.andThen_ok]
  go_wp2
  go_ret
  refine ⟨w.heap.size + 1 + 1, tOwn (w.heap.size + 1 + 1) (.slice (some ⟨w.heap.size, 0, none⟩) 1 1) (w.heap.size + 1), rfl, ⟨⟨_, _, ?_, rfl⟩, ?_, only_alloc (only_alloc (only_alloc (only_refl _ _) _) _) _⟩⟩
  · have hc1 := (Chg.refl nobody (w.alloc (.cells pr1.cells.toArray 34))).alloc (.map #[] 0)
    have hc2 := hc1.alloc (.cells #[.slice (some ⟨w.heap.size, 0, none⟩) 1 1, .int .i64 1, .map (some (w.heap.size + 1)), .int .i64 1] 58)
    have hm := CtIs.made (w.alloc (.cells pr1.cells.toArray 34))
    rw [show (w.alloc (.cells pr1.cells.toArray 34)).heap.size = w.heap.size + 1 from World.size_alloc _ _] at hm
    have hb := Blk.new ((w.alloc (.cells pr1.cells.toArray 34)).alloc (.map #[] 0)) 58 #[.slice (some ⟨w.heap.size, 0, none⟩) 1 1, .int .i64 1, .map (some (w.heap.size + 1)), .int .i64 1]
    rw [show ((w.alloc (.cells pr1.cells.toArray 34)).alloc (.map #[] 0)).heap.size = w.heap.size + 1 + 1 from by rw [World.size_alloc, World.size_alloc]] at hb
    exact ⟨hb, Own.chg Ho.out hc2 (fun _ _ h => h), hm.chg ((Chg.refl nobody _).alloc _) (fun h => h), by simp [newPS], by simp [newPS]⟩
  · rintro k (h | h | h)
    · omega
    · simp [Value.ownBlock] at h; omega
    · omega

end Go.Proofs.Ytljlbdbgocohlaa
