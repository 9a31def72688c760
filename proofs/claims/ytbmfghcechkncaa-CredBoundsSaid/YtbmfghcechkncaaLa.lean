/- The walk of CredLends. -/
import Derived.Test.YtbmfghcechkncaaE
namespace Go.Proofs.Ytbmfghcechkncaa
open Go.RowKit

theorem and_bound (x : Int) (m : Nat) (hm : m < 9223372036854775808) : ∃ a : Nat, a ≤ m ∧ bits .and .i64 x (m : Int) = (a : Int) := by
  have h : (BitVec.ofInt 64 x &&& BitVec.ofInt 64 (m : Int)).toNat ≤ m := by
    rw [BitVec.toNat_and]
    refine Nat.le_trans Nat.and_le_right ?_
    rw [BitVec.ofInt_natCast, BitVec.toNat_ofNat]
    exact Nat.mod_le _ _
  refine ⟨(BitVec.ofInt 64 x &&& BitVec.ofInt 64 (m : Int)).toNat, h, ?_⟩
  show IntKind.i64.wrap ((BitVec.ofInt 64 x &&& BitVec.ofInt 64 (m : Int)).toNat : Int) = _
  rw [IntKind.wrap_i64]
  omega

theorem idB_of {n : Int} (h : 0 ≤ n ∧ n ≤ 65535) : idB n = true := by
  simp [idB, badB]; omega

set_option maxRecDepth 100000 in
set_option maxHeartbeats 2000000 in
theorem lends_any (x y : Int) (w : World) : Calls Try.prog 3 #[.int .i64 x, .int .i64 y] w fun e w' => e = .returned (.bool true) ∧ w.grownBy w' none := by
  obtain ⟨a, ha, ea⟩ := and_bound x 32767 (by omega)
  obtain ⟨b, hb, eb⟩ := and_bound y 32767 (by omega)
  simp only [Int.cast_ofNat_Int] at ea eb
  have iu : idB (1 + (a : Int)) = true := idB_of (by omega)
  have io : idB (1 + (b : Int)) = true := idB_of (by omega)
  have i9 : idB 9 = true := idB_of (by omega)
  have z1 : ((1 + (a : Int)) == 0) = false := by rw [beq_eq_false_iff_ne]; omega
  have z2 : ((1 + (b : Int)) == 0) = false := by rw [beq_eq_false_iff_ne]; omega
  have m1 : (mb 2505 != 0) = true := by kernel_rfl
  have m2 : (mb 457 != 0) = false := by kernel_rfl
  have E1 : ofF (1 + (a : Int)) 9 = (⟨1 + a, 1 + a, 1 + a, 9, 9⟩, 0) := by simp [ofF, Cr.ok, iu, i9]
  have E2 : execF ⟨1 + a, 1 + a, 1 + a, 9, 9⟩ 2505 (1 + (b : Int)) = (⟨1 + a, 1 + b, 1 + b, 9, 9⟩, 0) := by simp [execF, okTwo, Cr.ok, iu, io, i9, m1]
  have E3 : setuidF ⟨1 + a, 1 + b, 1 + b, 9, 9⟩ (1 + (a : Int)) = (⟨1 + a, 1 + a, 1 + b, 9, 9⟩, 0) := by simp [setuidF, okTwo, Cr.ok, iu, io, i9, z2]
  have E4 : setuidF ⟨1 + a, 1 + a, 1 + b, 9, 9⟩ (1 + (b : Int)) = (⟨1 + a, 1 + b, 1 + b, 9, 9⟩, 0) := by
    simp [setuidF, okTwo, Cr.ok, iu, io, i9, z1]
  have E5 : execF ⟨1 + a, 1 + a, 1 + b, 9, 9⟩ 457 (1 + (b : Int)) = (⟨1 + a, 1 + a, 1 + a, 9, 9⟩, 0) := by simp [execF, okTwo, Cr.ok, iu, io, i9, m2]
  clear iu io i9 z1 z2 m1 m2
  go_enter Try.func3, Try.ntmps3
  go_wp2_with fail
  refine (shown_any _).mono ?_
  rintro e w1 ⟨rfl, hg⟩
  obtain ⟨hc1, hf1⟩ := bcell hg
  have hs1 := hg.size
  try simp at hs1
  have Hg1 := hide hg
  clear hg
  go_wp2_with fail
  refine (of_calls _ _ _).mono ?_
  rw [E1]
  rintro e w2 ⟨rfl, hg⟩
  obtain ⟨hc2, hf2⟩ := bcell hg
  have hs2 := hg.size
  try simp at hs2
  have Hg2 := hide hg
  clear hg E1
  go_wp2_with fail
  refine (exec_calls _ _ _ _ _ _ _ _).mono ?_
  rw [E2]
  rintro e w3 ⟨rfl, hg⟩
  obtain ⟨hc3, hf3⟩ := bcell hg
  have hs3 := hg.size
  try simp at hs3
  have ha2_3 : w2.heap.size < w3.heap.size := by omega
  have hb2_3 : w2.heap.size < w3.heap.size + 1 := by omega
  have Hg3 := hide hg
  clear hg E2
  go_wp2_with fail
  refine (setuid_calls _ _ _ _ _ _ _).mono ?_
  rw [E3]
  rintro e w4 ⟨rfl, hg⟩
  obtain ⟨hc4, hf4⟩ := bcell hg
  have hs4 := hg.size
  try simp at hs4
  have ha2_4 : w2.heap.size < w4.heap.size := by omega
  have hb2_4 : w2.heap.size < w4.heap.size + 1 := by omega
  have ha3_4 : w3.heap.size < w4.heap.size := by omega
  have hb3_4 : w3.heap.size < w4.heap.size + 1 := by omega
  have Hg4 := hide hg
  clear hg E3
  go_wp2_with fail
  refine (setuid_calls _ _ _ _ _ _ _).mono ?_
  rw [E4]
  rintro e w5 ⟨rfl, hg⟩
  obtain ⟨hc5, hf5⟩ := bcell hg
  have hs5 := hg.size
  try simp at hs5
  have ha2_5 : w2.heap.size < w5.heap.size := by omega
  have hb2_5 : w2.heap.size < w5.heap.size + 1 := by omega
  have ha3_5 : w3.heap.size < w5.heap.size := by omega
  have hb3_5 : w3.heap.size < w5.heap.size + 1 := by omega
  have ha4_5 : w4.heap.size < w5.heap.size := by omega
  have hb4_5 : w4.heap.size < w5.heap.size + 1 := by omega
  have Hg5 := hide hg
  clear hg E4
  go_wp2_with fail
  refine (exec_calls _ _ _ _ _ _ _ _).mono ?_
  rw [E5]
  rintro e w6 ⟨rfl, hg⟩
  obtain ⟨hc6, hf6⟩ := bcell hg
  have hs6 := hg.size
  try simp at hs6
  have ha2_6 : w2.heap.size < w6.heap.size := by omega
  have hb2_6 : w2.heap.size < w6.heap.size + 1 := by omega
  have ha3_6 : w3.heap.size < w6.heap.size := by omega
  have hb3_6 : w3.heap.size < w6.heap.size + 1 := by omega
  have ha4_6 : w4.heap.size < w6.heap.size := by omega
  have hb4_6 : w4.heap.size < w6.heap.size + 1 := by omega
  have ha5_6 : w5.heap.size < w6.heap.size := by omega
  have hb5_6 : w5.heap.size < w6.heap.size + 1 := by omega
  have Hg6 := hide hg
  clear hg E5
  go_wp2_with fail
  go_ret
  exact ⟨rfl, (by repeat' (first | (with_reducible exact Hg1.out) | (with_reducible refine none_trans ?_ Hg1.out) | (with_reducible exact Hg2.out) | (with_reducible refine none_trans ?_ Hg2.out) | (with_reducible exact Hg3.out) | (with_reducible refine none_trans ?_ Hg3.out) | (with_reducible exact Hg4.out) | (with_reducible refine none_trans ?_ Hg4.out) | (with_reducible exact Hg5.out) | (with_reducible refine none_trans ?_ Hg5.out) | (with_reducible exact Hg6.out) | (with_reducible refine none_trans ?_ Hg6.out) | (with_reducible refine only_alloc ?_ _) | (with_reducible refine none_setCell ?_ ?_ _) | (with_reducible exact only_refl _ _) | omega | (simp; done) | (simp; omega)))⟩

end Go.Proofs.Ytbmfghcechkncaa
