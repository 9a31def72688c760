/- The walk of CredGroups. -/
import Derived.Test.YtbmfghcechkncaaLa
namespace Go.Proofs.Ytbmfghcechkncaa
open Go.RowKit

set_option maxRecDepth 100000 in
set_option maxHeartbeats 2000000 in
theorem groups_any (x y z v : Int) (w : World) : Calls Try.prog 7 #[.int .i64 x, .int .i64 y, .int .i64 z, .int .i64 v] w fun e w' => e = .returned (.bool true) ∧ w.grownBy w' none := by
  obtain ⟨a, ha, ea⟩ := and_bound x 32767 (by omega)
  obtain ⟨b, hb, eb⟩ := and_bound y 32767 (by omega)
  obtain ⟨c, hc, ec⟩ := and_bound z 32767 (by omega)
  obtain ⟨d, hd, ed⟩ := and_bound v 32767 (by omega)
  simp only [Int.cast_ofNat_Int] at ea eb ec ed
  have iu : idB (1 + (a : Int)) = true := idB_of (by omega)
  have ig : idB (b : Int) = true := idB_of (by omega)
  have ic : idB (c : Int) = true := idB_of (by omega)
  have id' : idB (d : Int) = true := idB_of (by omega)
  have z1 : ((1 + (a : Int)) == 0) = false := by rw [beq_eq_false_iff_ne]; omega
  have E1 : setgidF ⟨1 + a, 1 + a, 1 + a, b, c⟩ (b : Int) = (⟨1 + a, 1 + a, 1 + a, b, b⟩, 0) := by simp [setgidF, okTwo, Cr.ok, ig, ic, iu, z1]
  by_cases h : d = b
  · subst h
    have E2 : setgidF ⟨1 + a, 1 + a, 1 + a, d, c⟩ (d : Int) = (⟨1 + a, 1 + a, 1 + a, d, d⟩, 0) := E1
    clear iu ig ic id' z1
    go_enter Try.func7, Try.ntmps7
    go_wp2_with fail
    refine (shown_any _).mono ?_
    rintro e w1 ⟨rfl, hg⟩
    obtain ⟨hc1, hf1⟩ := bcell hg
    have hs1 := hg.size
    try simp at hs1
    have Hg1 := hide hg
    clear hg
    go_wp2_with fail
    refine (setgid_calls _ _ _ _ _ _ _).mono ?_
    rw [E1]
    rintro e w2 ⟨rfl, hg⟩
    obtain ⟨hc2, hf2⟩ := bcell hg
    have hs2 := hg.size
    try simp at hs2
    have ha1_2 : w1.heap.size < w2.heap.size := by omega
    have hb1_2 : w1.heap.size < w2.heap.size + 1 := by omega
    have Hg2 := hide hg
    clear hg E1
    go_wp2_with fail
    refine (setgid_calls _ _ _ _ _ _ _).mono ?_
    rw [E2]
    rintro e w3 ⟨rfl, hg⟩
    obtain ⟨hc3, hf3⟩ := bcell hg
    have hs3 := hg.size
    try simp at hs3
    have ha1_3 : w1.heap.size < w3.heap.size := by omega
    have hb1_3 : w1.heap.size < w3.heap.size + 1 := by omega
    have ha2_3 : w2.heap.size < w3.heap.size := by omega
    have hb2_3 : w2.heap.size < w3.heap.size + 1 := by omega
    have Hg3 := hide hg
    clear hg E2
    go_wp2_with fail
    go_ret
    exact ⟨rfl, (by repeat' (first | (with_reducible exact Hg1.out) | (with_reducible refine none_trans ?_ Hg1.out) | (with_reducible exact Hg2.out) | (with_reducible refine none_trans ?_ Hg2.out) | (with_reducible exact Hg3.out) | (with_reducible refine none_trans ?_ Hg3.out) | (with_reducible refine only_alloc ?_ _) | (with_reducible refine none_setCell ?_ ?_ _) | (with_reducible exact only_refl _ _) | omega | (simp; done) | (simp; omega)))⟩
  · have hdb : ((d : Int) == (b : Int)) = false := by rw [beq_eq_false_iff_ne]; omega
    have E2 : setgidF ⟨1 + a, 1 + a, 1 + a, b, c⟩ (d : Int) = (zero, 2) := by
      unfold setgidF
      rw [show okTwo ⟨1 + a, 1 + a, 1 + a, b, c⟩ (d : Int) = true by simp [okTwo, Cr.ok, ig, ic, iu, id']]
      simp [z1]; omega
    clear iu ig ic id' z1 h
    go_enter Try.func7, Try.ntmps7
    go_wp2_with fail
    refine (shown_any _).mono ?_
    rintro e w1 ⟨rfl, hg⟩
    obtain ⟨hc1, hf1⟩ := bcell hg
    have hs1 := hg.size
    try simp at hs1
    have Hg1 := hide hg
    clear hg
    go_wp2_with fail
    refine (setgid_calls _ _ _ _ _ _ _).mono ?_
    rw [E1]
    rintro e w2 ⟨rfl, hg⟩
    obtain ⟨hc2, hf2⟩ := bcell hg
    have hs2 := hg.size
    try simp at hs2
    have ha1_2 : w1.heap.size < w2.heap.size := by omega
    have hb1_2 : w1.heap.size < w2.heap.size + 1 := by omega
    have Hg2 := hide hg
    clear hg E1
    go_wp2_with fail
    refine (setgid_calls _ _ _ _ _ _ _).mono ?_
    rw [E2]
    rintro e w3 ⟨rfl, hg⟩
    obtain ⟨hc3, hf3⟩ := bcell hg
    have hs3 := hg.size
    try simp at hs3
    have ha1_3 : w1.heap.size < w3.heap.size := by omega
    have hb1_3 : w1.heap.size < w3.heap.size + 1 := by omega
    have ha2_3 : w2.heap.size < w3.heap.size := by omega
    have hb2_3 : w2.heap.size < w3.heap.size + 1 := by omega
    have Hg3 := hide hg
    clear hg E2
    go_wp2_with fail
    go_ret
    exact ⟨rfl, (by repeat' (first | (with_reducible exact Hg1.out) | (with_reducible refine none_trans ?_ Hg1.out) | (with_reducible exact Hg2.out) | (with_reducible refine none_trans ?_ Hg2.out) | (with_reducible exact Hg3.out) | (with_reducible refine none_trans ?_ Hg3.out) | (with_reducible refine only_alloc ?_ _) | (with_reducible refine none_setCell ?_ ?_ _) | (with_reducible exact only_refl _ _) | omega | (simp; done) | (simp; omega)))⟩

end Go.Proofs.Ytbmfghcechkncaa
