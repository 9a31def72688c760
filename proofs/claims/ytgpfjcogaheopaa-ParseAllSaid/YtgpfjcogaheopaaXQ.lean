/- The law on signs. -/
import Derived.Test.YtgpfjcogaheopaaXL
import Derived.Test.YtgpfjcogaheopaaArgs
set_option linter.all false
namespace Go.Proofs.Ytgpfjcogaheopaa.Lx
open Go.RowKit
set_option maxRecDepth 100000
theorem signs_any (w : World) : Calls Try.prog 45 #[] w fun e w' => e = .returned (.slice (some ⟨w.heap.size, 0, none⟩) 16 16) ∧ w' = w.alloc (.cells (sgs.map sv).toArray 9) := by
 obtain ⟨W, hW⟩ : ∃ W, w.alloc (.cells (sgs.map sv).toArray 9) = W := ⟨_, rfl⟩
 rw [hW]
 have HW := hide hW
 clear hW
 go_enter Try.func45, Try.ntmps45
 go_wp2_with (first | (refine wpList_val (o := ⟨some 1, _, _, _, _, _⟩) (.slice (some ⟨w.heap.size, 0, none⟩) 16 16) W rfl (by rw [← HW.out]; kernel_rfl) ?_))
 go_ret
 exact ⟨rfl, rfl⟩
end Go.Proofs.Ytgpfjcogaheopaa.Lx
