/- The walk of CredBounds. -/
import Derived.Test.YtbmfghcechkncaaLa
namespace Go.Proofs.Ytbmfghcechkncaa
open Go.RowKit

set_option maxRecDepth 100000 in
set_option maxHeartbeats 4000000 in
theorem bounds_any (n : Int) (w : World) : Calls Try.prog 8 #[.int .i64 n] w fun e w' => e = .returned (.bool true) ∧ w.grownBy w' none := by
  have i5 : idB 5 = true := idB_of (by omega)
  have i0 : idB 0 = true := idB_of (by omega)
  have E0 : ofF 0 0 = (⟨0, 0, 0, 0, 0⟩, 0) := by kernel_rfl
  by_cases h : n < 0 ∨ n > 65535
  · have ib : idB n = false := by simp [idB, badB]; omega
    have E1 : ofF n 5 = (zero, 1) := by simp [ofF, Cr.ok, ib]
    have E2 : ofF 5 n = (zero, 1) := by simp [ofF, Cr.ok, ib]
    have E3 : setuidF ⟨0, 0, 0, 0, 0⟩ n = (zero, 1) := by simp [setuidF, okTwo, ib]
    have E4 : setgidF ⟨0, 0, 0, 0, 0⟩ n = (zero, 1) := by simp [setgidF, okTwo, ib]
    have E5 : execF ⟨0, 0, 0, 0, 0⟩ 2541 n = (zero, 1) := by simp [execF, okTwo, ib]
    clear i5 i0 ib
    have hw : (n < 0) ∨ (0 ≤ n ∧ 65535 < n) := by omega
    clear h
    rcases hw with h | ⟨h0, h⟩
    all_goals
     go_enter Try.func8, Try.ntmps8
     go_wp2_with fail
     refine (shown_any _).mono ?_
     rintro e w1 ⟨rfl, hg⟩
     obtain ⟨hc1, hf1⟩ := bcell hg
     have hs1 := hg.size
     try simp at hs1
     have Hg1 := hide hg
     clear hg
     go_wp2_with fail
     refine (of_calls _ _ _).mono ?_
     rw [E0]
     rintro e w2 ⟨rfl, hg⟩
     obtain ⟨hc2, hf2⟩ := bcell hg
     have hs2 := hg.size
     try simp at hs2
     have Hg2 := hide hg
     clear hg E0
     go_wp2_with fail
     refine (of_calls _ _ _).mono ?_
     rw [E1]
     rintro e w3 ⟨rfl, hg⟩
     obtain ⟨hc3, hf3⟩ := bcell hg
     have hs3 := hg.size
     try simp at hs3
     have ha2_3 : w2.heap.size < w3.heap.size := by omega
     have hb2_3 : w2.heap.size < w3.heap.size + 1 := by omega
     have Hg3 := hide hg
     clear hg E1
     go_wp2_with fail
     refine (of_calls _ _ _).mono ?_
     rw [E2]
     rintro e w4 ⟨rfl, hg⟩
     obtain ⟨hc4, hf4⟩ := bcell hg
     have hs4 := hg.size
     try simp at hs4
     have ha2_4 : w2.heap.size < w4.heap.size := by omega
     have hb2_4 : w2.heap.size < w4.heap.size + 1 := by omega
     have ha3_4 : w3.heap.size < w4.heap.size := by omega
     have hb3_4 : w3.heap.size < w4.heap.size + 1 := by omega
     have Hg4 := hide hg
     clear hg E2
     go_wp2_with fail
     refine (setuid_calls _ _ _ _ _ _ _).mono ?_
     rw [E3]
     rintro e w5 ⟨rfl, hg⟩
     obtain ⟨hc5, hf5⟩ := bcell hg
     have hs5 := hg.size
     try simp at hs5
     have ha2_5 : w2.heap.size < w5.heap.size := by omega
     have hb2_5 : w2.heap.size < w5.heap.size + 1 := by omega
     have ha3_5 : w3.heap.size < w5.heap.size := by omega
     have hb3_5 : w3.heap.size < w5.heap.size + 1 := by omega
     have ha4_5 : w4.heap.size < w5.heap.size := by omega
     have hb4_5 : w4.heap.size < w5.heap.size + 1 := by omega
     have Hg5 := hide hg
     clear hg E3
     go_wp2_with fail
     refine (setgid_calls _ _ _ _ _ _ _).mono ?_
     rw [E4]
     rintro e w6 ⟨rfl, hg⟩
     obtain ⟨hc6, hf6⟩ := bcell hg
     have hs6 := hg.size
     try simp at hs6
     have ha2_6 : w2.heap.size < w6.heap.size := by omega
     have hb2_6 : w2.heap.size < w6.heap.size + 1 := by omega
     have ha3_6 : w3.heap.size < w6.heap.size := by omega
     have hb3_6 : w3.heap.size < w6.heap.size + 1 := by omega
     have ha4_6 : w4.heap.size < w6.heap.size := by omega
     have hb4_6 : w4.heap.size < w6.heap.size + 1 := by omega
     have ha5_6 : w5.heap.size < w6.heap.size := by omega
     have hb5_6 : w5.heap.size < w6.heap.size + 1 := by omega
     have Hg6 := hide hg
     clear hg E4
     go_wp2_with fail
     refine (exec_calls _ _ _ _ _ _ _ _).mono ?_
     rw [E5]
     rintro e w7 ⟨rfl, hg⟩
     obtain ⟨hc7, hf7⟩ := bcell hg
     have hs7 := hg.size
     try simp at hs7
     have ha2_7 : w2.heap.size < w7.heap.size := by omega
     have hb2_7 : w2.heap.size < w7.heap.size + 1 := by omega
     have ha3_7 : w3.heap.size < w7.heap.size := by omega
     have hb3_7 : w3.heap.size < w7.heap.size + 1 := by omega
     have ha4_7 : w4.heap.size < w7.heap.size := by omega
     have hb4_7 : w4.heap.size < w7.heap.size + 1 := by omega
     have ha5_7 : w5.heap.size < w7.heap.size := by omega
     have hb5_7 : w5.heap.size < w7.heap.size + 1 := by omega
     have ha6_7 : w6.heap.size < w7.heap.size := by omega
     have hb6_7 : w6.heap.size < w7.heap.size + 1 := by omega
     have Hg7 := hide hg
     clear hg E5
     go_wp2_with fail
     go_ret
     exact ⟨congrArg (fun b => Ending.returned (Value.bool b)) (by simp <;> omega), (by repeat' (first | (with_reducible exact Hg1.out) | (with_reducible refine none_trans ?_ Hg1.out) | (with_reducible exact Hg2.out) | (with_reducible refine none_trans ?_ Hg2.out) | (with_reducible exact Hg3.out) | (with_reducible refine none_trans ?_ Hg3.out) | (with_reducible exact Hg4.out) | (with_reducible refine none_trans ?_ Hg4.out) | (with_reducible exact Hg5.out) | (with_reducible refine none_trans ?_ Hg5.out) | (with_reducible exact Hg6.out) | (with_reducible refine none_trans ?_ Hg6.out) | (with_reducible exact Hg7.out) | (with_reducible refine none_trans ?_ Hg7.out) | (with_reducible refine only_alloc ?_ _) | (with_reducible refine none_setCell ?_ ?_ _) | (with_reducible exact only_refl _ _) | omega | (simp; done) | (simp; omega)))⟩
  · have ib : idB n = true := idB_of (by omega)
    have m1 : (mb 2541 != 0) = true := by kernel_rfl
    have E1 : ofF n 5 = (⟨n, n, n, 5, 5⟩, 0) := by simp [ofF, Cr.ok, ib, i5]
    have E2 : ofF 5 n = (⟨5, 5, 5, n, n⟩, 0) := by simp [ofF, Cr.ok, ib, i5]
    have E3 : setuidF ⟨0, 0, 0, 0, 0⟩ n = (⟨n, n, n, 0, 0⟩, 0) := by simp [setuidF, okTwo, Cr.ok, ib, i0]
    have E4 : setgidF ⟨0, 0, 0, 0, 0⟩ n = (⟨0, 0, 0, n, n⟩, 0) := by simp [setgidF, okTwo, Cr.ok, ib, i0]
    have E5 : execF ⟨0, 0, 0, 0, 0⟩ 2541 n = (⟨0, n, n, 0, 0⟩, 0) := by simp [execF, okTwo, Cr.ok, ib, i0, m1]
    clear i5 i0 ib m1
    have h1 : 0 ≤ n := by omega
    have h2 : n ≤ 65535 := by omega
    clear h
    go_enter Try.func8, Try.ntmps8
    go_wp2_with fail
    refine (shown_any _).mono ?_
    rintro e w1 ⟨rfl, hg⟩
    obtain ⟨hc1, hf1⟩ := bcell hg
    have hs1 := hg.size
    try simp at hs1
    have Hg1 := hide hg
    clear hg
    go_wp2_with fail
    refine (of_calls _ _ _).mono ?_
    rw [E0]
    rintro e w2 ⟨rfl, hg⟩
    obtain ⟨hc2, hf2⟩ := bcell hg
    have hs2 := hg.size
    try simp at hs2
    have Hg2 := hide hg
    clear hg E0
    go_wp2_with fail
    refine (of_calls _ _ _).mono ?_
    rw [E1]
    rintro e w3 ⟨rfl, hg⟩
    obtain ⟨hc3, hf3⟩ := bcell hg
    have hs3 := hg.size
    try simp at hs3
    have ha2_3 : w2.heap.size < w3.heap.size := by omega
    have hb2_3 : w2.heap.size < w3.heap.size + 1 := by omega
    have Hg3 := hide hg
    clear hg E1
    go_wp2_with fail
    refine (of_calls _ _ _).mono ?_
    rw [E2]
    rintro e w4 ⟨rfl, hg⟩
    obtain ⟨hc4, hf4⟩ := bcell hg
    have hs4 := hg.size
    try simp at hs4
    have ha2_4 : w2.heap.size < w4.heap.size := by omega
    have hb2_4 : w2.heap.size < w4.heap.size + 1 := by omega
    have ha3_4 : w3.heap.size < w4.heap.size := by omega
    have hb3_4 : w3.heap.size < w4.heap.size + 1 := by omega
    have Hg4 := hide hg
    clear hg E2
    go_wp2_with fail
    refine (setuid_calls _ _ _ _ _ _ _).mono ?_
    rw [E3]
    rintro e w5 ⟨rfl, hg⟩
    obtain ⟨hc5, hf5⟩ := bcell hg
    have hs5 := hg.size
    try simp at hs5
    have ha2_5 : w2.heap.size < w5.heap.size := by omega
    have hb2_5 : w2.heap.size < w5.heap.size + 1 := by omega
    have ha3_5 : w3.heap.size < w5.heap.size := by omega
    have hb3_5 : w3.heap.size < w5.heap.size + 1 := by omega
    have ha4_5 : w4.heap.size < w5.heap.size := by omega
    have hb4_5 : w4.heap.size < w5.heap.size + 1 := by omega
    have Hg5 := hide hg
    clear hg E3
    go_wp2_with fail
    refine (setgid_calls _ _ _ _ _ _ _).mono ?_
    rw [E4]
    rintro e w6 ⟨rfl, hg⟩
    obtain ⟨hc6, hf6⟩ := bcell hg
    have hs6 := hg.size
    try simp at hs6
    have ha2_6 : w2.heap.size < w6.heap.size := by omega
    have hb2_6 : w2.heap.size < w6.heap.size + 1 := by omega
    have ha3_6 : w3.heap.size < w6.heap.size := by omega
    have hb3_6 : w3.heap.size < w6.heap.size + 1 := by omega
    have ha4_6 : w4.heap.size < w6.heap.size := by omega
    have hb4_6 : w4.heap.size < w6.heap.size + 1 := by omega
    have ha5_6 : w5.heap.size < w6.heap.size := by omega
    have hb5_6 : w5.heap.size < w6.heap.size + 1 := by omega
    have Hg6 := hide hg
    clear hg E4
    go_wp2_with fail
    refine (exec_calls _ _ _ _ _ _ _ _).mono ?_
    rw [E5]
    rintro e w7 ⟨rfl, hg⟩
    obtain ⟨hc7, hf7⟩ := bcell hg
    have hs7 := hg.size
    try simp at hs7
    have ha2_7 : w2.heap.size < w7.heap.size := by omega
    have hb2_7 : w2.heap.size < w7.heap.size + 1 := by omega
    have ha3_7 : w3.heap.size < w7.heap.size := by omega
    have hb3_7 : w3.heap.size < w7.heap.size + 1 := by omega
    have ha4_7 : w4.heap.size < w7.heap.size := by omega
    have hb4_7 : w4.heap.size < w7.heap.size + 1 := by omega
    have ha5_7 : w5.heap.size < w7.heap.size := by omega
    have hb5_7 : w5.heap.size < w7.heap.size + 1 := by omega
    have ha6_7 : w6.heap.size < w7.heap.size := by omega
    have hb6_7 : w6.heap.size < w7.heap.size + 1 := by omega
    have Hg7 := hide hg
    clear hg E5
    go_wp2_with fail
    go_ret
    exact ⟨congrArg (fun b => Ending.returned (Value.bool b)) (by simp; omega), (by repeat' (first | (with_reducible exact Hg1.out) | (with_reducible refine none_trans ?_ Hg1.out) | (with_reducible exact Hg2.out) | (with_reducible refine none_trans ?_ Hg2.out) | (with_reducible exact Hg3.out) | (with_reducible refine none_trans ?_ Hg3.out) | (with_reducible exact Hg4.out) | (with_reducible refine none_trans ?_ Hg4.out) | (with_reducible exact Hg5.out) | (with_reducible refine none_trans ?_ Hg5.out) | (with_reducible exact Hg6.out) | (with_reducible refine none_trans ?_ Hg6.out) | (with_reducible exact Hg7.out) | (with_reducible refine none_trans ?_ Hg7.out) | (with_reducible refine only_alloc ?_ _) | (with_reducible refine none_setCell ?_ ?_ _) | (with_reducible exact only_refl _ _) | omega | (simp; done) | (simp; omega)))⟩

end Go.Proofs.Ytbmfghcechkncaa
