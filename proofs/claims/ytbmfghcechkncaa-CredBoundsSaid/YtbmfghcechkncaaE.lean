/- The small case with which each law of cred begins answers true. -/
import Derived.Test.YtbmfghcechkncaaD
namespace Go.Proofs.Ytbmfghcechkncaa
open Go.RowKit

theorem bcell {W w1 : World} (h : W.grownBy w1 none) : (∀ b o, b < W.heap.size → w1.cell? ⟨b, o, none⟩ = W.cell? ⟨b, o, none⟩) ∧ (∀ b o, b < W.heap.size → w1.frozen? ⟨b, o, none⟩ = W.frozen? ⟨b, o, none⟩) :=
  ⟨fun b o hb => World.cell?_of_block (w := W) (h.block b hb (by simp)), fun b o hb => World.frozen?_of_block (w := W) (h.block b hb (by simp))⟩

set_option maxRecDepth 100000 in
set_option maxHeartbeats 1000000 in
theorem shown_any (w : World) : Calls Try.prog 9 #[] w fun e w' => e = .returned (.bool true) ∧ w.grownBy w' none := by
  have E1 : ofF 5 7 = (⟨5, 5, 5, 7, 7⟩, 0) := by kernel_rfl
  have E2 : execF ⟨5, 5, 5, 7, 7⟩ 2541 0 = (⟨5, 0, 0, 7, 7⟩, 0) := by kernel_rfl
  have E3 : setuidF ⟨5, 0, 0, 7, 7⟩ 5 = (⟨5, 5, 5, 7, 7⟩, 0) := by kernel_rfl
  have E4 : setuidF ⟨5, 5, 5, 7, 7⟩ 0 = (zero, 2) := by kernel_rfl
  go_enter Try.func9, Try.ntmps9
  go_wp2_with fail
  refine (of_calls _ _ _).mono ?_
  rw [E1]
  rintro e w1 ⟨rfl, hg⟩
  obtain ⟨hc1, hf1⟩ := bcell hg
  have hz1 := hg.size
  have Hg1 := hide hg
  clear hg E1
  go_wp2_with fail
  refine (exec_calls _ _ _ _ _ _ _ _).mono ?_
  rw [E2]
  rintro e w2 ⟨rfl, hg⟩
  obtain ⟨hc2, hf2⟩ := bcell hg
  have hz2 : w1.heap.size < w2.heap.size := by have := hg.size; simp at this; omega
  have hz2' : w1.heap.size < w2.heap.size + 1 := by omega
  have Hg2 := hide hg
  clear hg E2
  go_wp2_with fail
  refine (setuid_calls _ _ _ _ _ _ _).mono ?_
  rw [E3]
  rintro e w3 ⟨rfl, hg⟩
  obtain ⟨hc3, hf3⟩ := bcell hg
  have hz3 : w2.heap.size < w3.heap.size := by have := hg.size; simp at this; omega
  have hz3' : w2.heap.size < w3.heap.size + 1 := by omega
  have hy3 : w1.heap.size < w3.heap.size := by omega
  have hy3' : w1.heap.size < w3.heap.size + 1 := by omega
  have Hg3 := hide hg
  clear hg E3
  go_wp2_with fail
  refine (setuid_calls _ _ _ _ _ _ _).mono ?_
  rw [E4]
  rintro e w4 ⟨rfl, hg⟩
  obtain ⟨hc4, hf4⟩ := bcell hg
  have hz4 : w3.heap.size < w4.heap.size := by have := hg.size; simp at this; omega
  have hz4' : w2.heap.size < w4.heap.size := by omega
  have hy4 : w1.heap.size < w4.heap.size := by omega
  have Hg4 := hide hg
  clear hg E4
  go_wp2_with fail
  go_ret
  refine ⟨rfl, ?_⟩
  refine only_alloc ?_ _
  refine none_trans ?_ Hg4.out
  refine only_alloc ?_ _
  refine none_trans ?_ Hg3.out
  refine only_alloc ?_ _
  refine none_trans ?_ Hg2.out
  refine only_alloc ?_ _
  exact Hg1.out

end Go.Proofs.Ytbmfghcechkncaa
