/- The walk of ParseDeep. -/
import Derived.Test.YtgpfjcogaheopaaRB
namespace Go.Proofs.Ytgpfjcogaheopaa
open Go.RowKit Lx
set_option maxRecDepth 100000

theorem and_bound (x : Int) (m : Nat) (hm : m < 9223372036854775808) : ∃ a : Nat, a ≤ m ∧ bits .and .i64 x (m : Int) = (a : Int) := by
  refine ⟨(BitVec.ofInt 64 x &&& BitVec.ofInt 64 (m : Int)).toNat, ?_, ?_⟩
  · rw [BitVec.toNat_and]
    refine Nat.le_trans Nat.and_le_right ?_
    rw [BitVec.ofInt_natCast, BitVec.toNat_ofNat]
    exact Nat.mod_le _ _
  · show IntKind.i64.wrap ((BitVec.ofInt 64 x &&& BitVec.ofInt 64 (m : Int)).toNat : Int) = _
    have h : (BitVec.ofInt 64 x &&& BitVec.ofInt 64 (m : Int)).toNat ≤ m := by
      rw [BitVec.toNat_and]
      refine Nat.le_trans Nat.and_le_right ?_
      rw [BitVec.ofInt_natCast, BitVec.toNat_ofNat]
      exact Nat.mod_le _ _
    rw [IntKind.wrap_i64]
    omega
theorem deepS_len (b : Bool) : ∀ m, (deepS b m).length ≤ 1 + 5 * m
  | 0 => by simp [deepS]
  | m + 1 => by
    have := deepS_len b m
    unfold deepS
    split <;> simp <;> omega
theorem deepS_t (m : Nat) : deepS true (m + 1) = [40, 32] ++ deepS true m ++ [32, 41] := rfl
theorem deepS_f (m : Nat) : deepS false (m + 1) = [123, 32] ++ deepS false m ++ [59, 32, 125] := rfl
theorem cat3 (a b c : List UInt8) : (ByteArray.mk a.toArray ++ ByteArray.mk b.toArray) ++ ByteArray.mk c.toArray = ⟨(a ++ b ++ c).toArray⟩ := by rw [cat_ba, cat_ba]
set_option maxHeartbeats 8000000 in
theorem deep_any (n0 : Int) (b : Bool) (w : World) : Calls Try.prog 8 #[.int .i64 n0, .bool b] w fun e w' => e = .returned (.bool true) ∧ w.grownBy w' none := by
  obtain ⟨m, hm, hb⟩ := and_bound n0 63 (by omega)
  have Hs := hide (fun W => shown_any W)
  have HK := hide (deep_all m hm b)
  have HP := hide (fun W => parse_any (deepS b m) W (by have := deepS_len b m; omega))
  unfold ParsePost sv at HP
  have hq := hide (by have := parseN_eq (deepS b m) (by have := deepS_len b m; omega); exact this)
  rw [hq.out] at HP
  have hms : ((m : Nat) : Int) ≤ 63 := by omega
  have hb2 : bits .and .i64 n0 63 = (m : Int) := hb
  clear hb
  go_enter Try.func8, Try.ntmps8
  go_wp2_with fail
  refine (Hs.out _).mono ?_
  rintro e w1 ⟨rfl, g1⟩
  have G1 := hide g1
  clear g1
  go_wp2_with fail
  go_loopw [6, 7] (fun v6 v7 wr => ∃ k : Nat, v7 = .int .i64 k ∧ v6 = sv (deepS b k) ∧ k ≤ m ∧ wr = w1) (fun _ v7 _ => m - (intOf v7).toNat)
  case atStart => exact ⟨0, rfl, rfl, Nat.zero_le _, rfl⟩
  case round =>
    obtain ⟨k, rfl, rfl, hk, rfl⟩ := hrel
    obtain ⟨S, hS⟩ : ∃ S, deepS b k = S := ⟨_, rfl⟩
    have HS := hide hS
    have hsl := deepS_len b k
    rw [hS] at hsl ⊢
    have hsz := sz S
    unfold sv
    clear hS
    by_cases hlt : k < m
    · have q0 : decide ((k : Int) < (m : Int)) = true := decide_eq_true (by omega)
      cases b with
      | true =>
        have e1 : (ByteArray.mk #[40, 32]) ++ ByteArray.mk S.toArray = ⟨([40, 32] ++ S).toArray⟩ := cat_ba [40, 32] S
        obtain ⟨S1, hS1⟩ : ∃ S1, [40, 32] ++ S = S1 := ⟨_, rfl⟩
        rw [hS1] at e1
        have e2 : ByteArray.mk S1.toArray ++ ByteArray.mk #[32, 41] = ⟨(S1 ++ [32, 41]).toArray⟩ := cat_ba S1 [32, 41]
        obtain ⟨S2, hS2⟩ : ∃ S2, S1 ++ [32, 41] = S2 := ⟨_, rfl⟩
        rw [hS2] at e2
        have hS2' := hide (show deepS true (k + 1) = S2 by rw [deepS_t, HS.out, ← hS2, ← hS1])
        have hl1 : S1.length = 2 + S.length := by rw [← hS1, List.length_append]; rfl
        have hsz1 := sz S1
        have E1 := hide e1
        have E2 := hide e2
        have HL1 := hide hl1
        have HSZ := hide (And.intro hsz hsz1)
        clear e1 e2 hS1 hS2 hl1 hsz1 hsz
        go_wp2_with (first | (refine wpList_concat ⟨#[40, 32]⟩ ⟨S.toArray⟩ rfl rfl (by rw [HSZ.out.1]; show 2 + _ ≤ _; omega) ?_; rw [E1.out]) | (refine wpList_concat ⟨S1.toArray⟩ ⟨#[32, 41]⟩ rfl rfl (by rw [HSZ.out.2, HL1.out]; show _ + 2 ≤ _; omega) ?_; rw [E2.out]))
        go_roundw
        case rel => exact ⟨k + 1, by go_num, by rw [hS2'.out], by omega, trivial⟩
        case measure => simp [intOf]; omega
      | false =>
        have e1 : (ByteArray.mk #[123, 32]) ++ ByteArray.mk S.toArray = ⟨([123, 32] ++ S).toArray⟩ := cat_ba [123, 32] S
        obtain ⟨S1, hS1⟩ : ∃ S1, [123, 32] ++ S = S1 := ⟨_, rfl⟩
        rw [hS1] at e1
        have e2 : ByteArray.mk S1.toArray ++ ByteArray.mk #[59, 32, 125] = ⟨(S1 ++ [59, 32, 125]).toArray⟩ := cat_ba S1 [59, 32, 125]
        obtain ⟨S2, hS2⟩ : ∃ S2, S1 ++ [59, 32, 125] = S2 := ⟨_, rfl⟩
        rw [hS2] at e2
        have hS2' := hide (show deepS false (k + 1) = S2 by rw [deepS_f, HS.out, ← hS2, ← hS1])
        have hl1 : S1.length = 2 + S.length := by rw [← hS1, List.length_append]; rfl
        have hsz1 := sz S1
        have E1 := hide e1
        have E2 := hide e2
        have HL1 := hide hl1
        have HSZ := hide (And.intro hsz hsz1)
        clear e1 e2 hS1 hS2 hl1 hsz1 hsz
        go_wp2_with (first | (refine wpList_concat ⟨#[123, 32]⟩ ⟨S.toArray⟩ rfl rfl (by rw [HSZ.out.1]; show 2 + _ ≤ _; omega) ?_; rw [E1.out]) | (refine wpList_concat ⟨S1.toArray⟩ ⟨#[59, 32, 125]⟩ rfl rfl (by rw [HSZ.out.2, HL1.out]; show _ + 3 ≤ _; omega) ?_; rw [E2.out]))
        go_roundw
        case rel => exact ⟨k + 1, by go_num, by rw [hS2'.out], by omega, trivial⟩
        case measure => simp [intOf]; omega
    · obtain rfl : k = m := by omega
      have q0 : decide ((k : Int) < (k : Int)) = false := decide_eq_false (by omega)
      obtain ⟨P, hP⟩ : ∃ P, parseN (deepS b k) = P := ⟨_, rfl⟩
      have HP1 := hide (by have := HP.out wr; rw [hP, HS.out] at this; exact this)
      have hk2 := HK.out
      unfold okD at hk2
      simp only [] at hk2
      rw [hP] at hk2
      have HK2 := hide hk2
      clear hP hk2
      go_wp2_with fail
      refine HP1.out.mono ?_
      rintro e w2 ⟨v, rfl, hnd, hnw, g2⟩
      have G2 := hide (none_trans G1.out g2)
      obtain ⟨cs, hcs, _⟩ := hnd
      obtain ⟨va, vc, rfl, _, _⟩ := Own.form hcs
      clear hcs hnw g2
      by_cases h25 : k ≤ 25
      · have q1 : decide ((k : Int) ≤ 25) = true := decide_eq_true (by omega)
        have hk3 := HK2.out
        rw [if_pos h25, Bool.and_eq_true] at hk3
        have f1 : P.e = 0 := eq_of_beq hk3.1
        have f2 : P.ns.length = k + 1 := eq_of_beq hk3.2
        simp only [f1, f2]
        clear hk3 f1 f2
        go_wp2_with fail
        go_ret
        exact ⟨by first | rfl | simp, G2.out⟩
      · have q1 : decide ((k : Int) ≤ 25) = false := decide_eq_false (by omega)
        have hk3 := HK2.out
        rw [if_neg h25, Bool.and_eq_true, Bool.and_eq_true] at hk3
        have f1 : P.e = 17 := eq_of_beq hk3.1.1
        have f2 : P.a = 50 := eq_of_beq hk3.1.2
        have f3 : P.ns.length = 0 := eq_of_beq hk3.2
        simp only [f1, f2, f3]
        clear hk3 f1 f2 f3
        go_wp2_with fail
        go_ret
        exact ⟨by first | rfl | simp, G2.out⟩

end Go.Proofs.Ytgpfjcogaheopaa
