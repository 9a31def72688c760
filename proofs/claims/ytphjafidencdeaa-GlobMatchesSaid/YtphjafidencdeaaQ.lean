/- The law on marks. -/
import Derived.Test.YtphjafidencdeaaP
namespace Go.Proofs.Ytphjafidencdeaa
open Go.RowKit
set_option maxRecDepth 100000

theorem and63 (n : Int) : ∃ m : Nat, m < 64 ∧ bits .and .i64 n 63 = (m : Int) := by
  refine ⟨(BitVec.ofInt 64 n).toNat % 64, Nat.mod_lt _ (by omega), ?_⟩
  show IntKind.i64.wrap ((BitVec.ofInt 64 n &&& BitVec.ofInt 64 63).toNat : Int) = _
  rw [BitVec.toNat_and, show (BitVec.ofInt 64 63).toNat = 2 ^ 6 - 1 from rfl, Nat.and_two_pow_sub_one_eq_mod]
  simp [IntKind.wrap, IntKind.bits, IntKind.signed]
  omega
theorem cat_ba (l m : List UInt8) : (ByteArray.mk l.toArray) ++ ByteArray.mk m.toArray = ⟨(l ++ m).toArray⟩ := by
  apply ByteArray.ext
  simp [ByteArray.data_append]

set_option maxHeartbeats 2000000 in
theorem marks_any (s : List UInt8) (n : Int) (w : World) (hs : s.length ≤ 9223372036854775807) : Calls Try.prog 5 #[sv s, .int .i64 n] w fun e w' => e = .returned (.bool true) ∧ w.grownBy w' none := by
  have Hsh := hide (fun w' => shown_any w')
  have z1 := sz s
  obtain ⟨m, hm, hnm⟩ := and63 n
  have h1 := fun w b hb => match_free (List.replicate m 63) s b w (by simp; omega) hs hb
  have h2 := fun w b hb => match_free (List.replicate m 63 ++ [42]) s b w (by simp; omega) hs hb
  have h3 := fun w b hb => match_free (42 :: List.replicate m 63) s b w (by simp; omega) hs hb
  have h1' := fun w => h1 w (decide (s.length = m)) (by rw [decide_eq_true_eq, marks_only])
  have h2' := fun w => h2 w (decide (m ≤ s.length)) (by rw [decide_eq_true_eq, marks_star])
  have h3' := fun w => h3 w (decide (m ≤ s.length)) (by rw [decide_eq_true_eq, star_marks])
  obtain ⟨b1, hb1⟩ : ∃ b, decide (s.length = m) = b := ⟨_, rfl⟩
  obtain ⟨b2, hb2⟩ : ∃ b, decide (m ≤ s.length) = b := ⟨_, rfl⟩
  rw [hb1] at h1'
  rw [hb2] at h2' h3'
  have c1 : ((s.length : Int) == (m : Int)) = b1 := by
    rw [← hb1, Bool.eq_iff_iff, beq_iff_eq, decide_eq_true_eq]
    omega
  have c2 : decide ((m : Int) ≤ (s.length : Int)) = b2 := by
    rw [← hb2, Bool.eq_iff_iff, decide_eq_true_eq, decide_eq_true_eq]
    omega
  obtain ⟨q, hq0⟩ : ∃ q, List.replicate m (63 : UInt8) = q := ⟨_, rfl⟩
  rw [hq0] at h1' h2' h3'
  have Hq0 := hide hq0
  unfold sv at h1' h2' h3' ⊢
  have H1 := hide h1'
  have H2 := hide h2'
  have H3 := hide h3'
  have e2 := cat_ba q [42]
  have e3 : (ByteArray.mk #[42]) ++ ByteArray.mk q.toArray = ⟨(42 :: q).toArray⟩ := cat_ba [42] q
  have hql : q.length = m := by rw [← hq0, List.length_replicate]
  have hsum1 : ¬ 9223372036854775807 < q.length + 1 := by omega
  have hsum2 : ¬ 9223372036854775807 < 1 + q.length := by omega
  clear hql
  clear h1 h2 h3 h1' h2' h3' hb1 hq0
  go_enter Try.func5, Try.ntmps5
  go_wp2_with fail
  refine (Hsh.out _).mono ?_
  rintro e w1 ⟨rfl, g1⟩
  have G1 := hide g1
  clear g1
  go_wp2_with fail
  go_loopw [6, 7] (fun vp vi wr => ∃ (i : Nat) (l : List UInt8), vp = .string ⟨l.toArray⟩ ∧ vi = .int .i64 i ∧ i ≤ m ∧ List.replicate i 63 = l ∧ wr = w1) (fun _ vi _ => m - (intOf vi).toNat)
  case atStart => exact ⟨0, [], rfl, rfl, Nat.zero_le _, rfl, rfl⟩
  case round =>
    obtain ⟨i, l, rfl, rfl, hi, hl, rfl⟩ := hrel
    have Hl := hide hl
    clear hl
    by_cases hlt : i < m
    · have q1 : decide ((i : Int) < (m : Int)) = true := by simp; omega
      have e1 := cat_ba l [63]
      have hll : l.length = i := by rw [← Hl.out, List.length_replicate]
      have hsum : ¬ 9223372036854775807 < l.length + 1 := by omega
      clear hll
      go_wp2_with fail
      go_roundw
      case rel => exact ⟨i + 1, l ++ [63], by simp, by go_num, by omega, by rw [← Hl.out, List.replicate_succ'], trivial⟩
      case measure => simp [intOf]; omega
    · have q1 : decide ((i : Int) < (m : Int)) = false := by simp; omega
      obtain rfl : i = m := by omega
      obtain rfl : l = q := by rw [← Hl.out, Hq0.out]
      go_wp2_with fail
      refine (H1.out _).mono ?_
      rintro e w2 ⟨rfl, g1⟩
      have G2 := hide (none_trans G1.out g1)
      clear g1
      go_wp2_with fail
      refine (H2.out _).mono ?_
      rintro e w3 ⟨rfl, g1⟩
      have G3 := hide (none_trans G2.out g1)
      clear g1
      go_wp2_with fail
      refine (H3.out _).mono ?_
      rintro e w4 ⟨rfl, g1⟩
      have G4 := hide (none_trans G3.out g1)
      clear g1
      go_wp2_with fail
      go_ret
      exact ⟨by simp, G4.out⟩

end Go.Proofs.Ytphjafidencdeaa
