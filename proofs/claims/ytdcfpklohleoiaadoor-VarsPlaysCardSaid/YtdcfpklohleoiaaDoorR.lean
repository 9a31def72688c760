/- The document's Name. -/
import Derived.Test.YtdcfpklohleoiaaDoorO
namespace Go.Proofs.YtdcfpklohleoiaaDoor
open Go.RowKit
set_option maxRecDepth 100000

set_option maxHeartbeats 4000000 in
theorem name38 (s : List UInt8) (w : World) (hs : s.length ≤ 9223372036854775807) : Calls Tryd.prog 38 #[sv s] w fun e w' => e = .returned (.int .i64 (nmGo true s : Nat)) ∧ w.grownBy w' none := by
  have h1 := sz s
  unfold sv
  go_enter Tryd.func38, Tryd.ntmps38
  go_wp2_with fail
  go_loopw [3] (fun v3 wr => ∃ k : Nat, v3 = .int .i64 k ∧ k ≤ s.length ∧ nmGo true s = k + nmGo (decide (k = 0)) (s.drop k) ∧ wr = w) (fun v3 _ => s.length - (intOf v3).toNat)
  case atStart => exact ⟨0, rfl, Nat.zero_le _, by simp, rfl⟩
  case round =>
    obtain ⟨k, rfl, hk, hinv, rfl⟩ := hrel
    by_cases hlt : k < s.length
    · have q0 : decide ((k : Int) < (s.length : Int)) = true := decide_eq_true (by omega)
      have hat := str_at' s k hlt
      have hib : (0 : Int) ≤ k ∧ (k : Int) < (s.length : Int) := by omega
      have hdr := drop_at hlt
      obtain ⟨c, hc⟩ : ∃ c, s[k] = c := ⟨_, rfl⟩
      have hcl := c.toNat_lt
      rw [hc] at hat hdr
      rw [hdr] at hinv
      have yes : (letB c || (!decide (k = 0) && digB c)) = true → nmGo true s = (k + 1) + nmGo (decide (k + 1 = 0)) (s.drop (k + 1)) := fun h => by
        rw [hinv, nm_yes h, show decide (k + 1 = 0) = false from rfl]; omega
      have no : ¬ (letB c || (!decide (k = 0) && digB c)) = true → nmGo true s = k := fun h => by
        rw [nm_no h] at hinv; omega
      clear hc hdr hinv
      by_cases z0 : c.toNat ≤ 47
      · have a97 : decide ((97 : Int) ≤ (c.toNat : Int)) = false := decide_eq_false (by omega)
        have a122 : decide ((c.toNat : Int) ≤ 122) = true := decide_eq_true (by omega)
        have a65 : decide ((65 : Int) ≤ (c.toNat : Int)) = false := decide_eq_false (by omega)
        have a90 : decide ((c.toNat : Int) ≤ 90) = true := decide_eq_true (by omega)
        have a48 : decide ((c.toNat : Int) < 48) = true := decide_eq_true (by omega)
        have a57 : decide ((57 : Int) < (c.toNat : Int)) = false := decide_eq_false (by omega)
        have a95 : ((c.toNat : Int) == 95) = false := by rw [beq_eq_false_iff_ne]; omega
        have hl : letB c = false := by unfold letB; simp; omega
        have hd : digB c = false := by unfold digB; simp; omega
        by_cases ak : k = 0
        · subst ak
          have bk : (((0 : Nat) : Int) == 0) = true := rfl
          have bk2 : decide ((0 : Nat) = 0) = true := rfl
          have Hno := hide (no (by rw [hl, bk2]; simp))
          clear yes no hl hd
          go_wp2_with fail
          go_ret
          exact ⟨by rw [Hno.out]; rfl, only_refl _ none⟩
        · have bk : ((k : Int) == 0) = false := by rw [beq_eq_false_iff_ne]; omega
          have bk2 : decide (k = 0) = false := decide_eq_false ak
          have Hno := hide (no (by rw [hl, bk2, hd]; simp))
          clear yes no hl hd
          go_wp2_with fail
          go_ret
          exact ⟨by rw [Hno.out]; rfl, only_refl _ none⟩
      by_cases z1 : c.toNat ≤ 57
      · have a97 : decide ((97 : Int) ≤ (c.toNat : Int)) = false := decide_eq_false (by omega)
        have a122 : decide ((c.toNat : Int) ≤ 122) = true := decide_eq_true (by omega)
        have a65 : decide ((65 : Int) ≤ (c.toNat : Int)) = false := decide_eq_false (by omega)
        have a90 : decide ((c.toNat : Int) ≤ 90) = true := decide_eq_true (by omega)
        have a48 : decide ((c.toNat : Int) < 48) = false := decide_eq_false (by omega)
        have a57 : decide ((57 : Int) < (c.toNat : Int)) = false := decide_eq_false (by omega)
        have a95 : ((c.toNat : Int) == 95) = false := by rw [beq_eq_false_iff_ne]; omega
        have hl : letB c = false := by unfold letB; simp; omega
        have hd : digB c = true := by unfold digB; simp; omega
        by_cases ak : k = 0
        · subst ak
          have bk : (((0 : Nat) : Int) == 0) = true := rfl
          have bk2 : decide ((0 : Nat) = 0) = true := rfl
          have Hno := hide (no (by rw [hl, bk2]; simp))
          clear yes no hl hd
          go_wp2_with fail
          go_ret
          exact ⟨by rw [Hno.out]; rfl, only_refl _ none⟩
        · have bk : ((k : Int) == 0) = false := by rw [beq_eq_false_iff_ne]; omega
          have bk2 : decide (k = 0) = false := decide_eq_false ak
          have Hy := hide (yes (by rw [hl, bk2, hd]; rfl))
          clear yes no hl hd
          go_wp2_with fail
          go_roundw
          case rel => exact ⟨k + 1, by go_num, by omega, Hy.out, trivial⟩
          case measure => simp [intOf]; omega
      by_cases z2 : c.toNat ≤ 64
      · have a97 : decide ((97 : Int) ≤ (c.toNat : Int)) = false := decide_eq_false (by omega)
        have a122 : decide ((c.toNat : Int) ≤ 122) = true := decide_eq_true (by omega)
        have a65 : decide ((65 : Int) ≤ (c.toNat : Int)) = false := decide_eq_false (by omega)
        have a90 : decide ((c.toNat : Int) ≤ 90) = true := decide_eq_true (by omega)
        have a48 : decide ((c.toNat : Int) < 48) = false := decide_eq_false (by omega)
        have a57 : decide ((57 : Int) < (c.toNat : Int)) = true := decide_eq_true (by omega)
        have a95 : ((c.toNat : Int) == 95) = false := by rw [beq_eq_false_iff_ne]; omega
        have hl : letB c = false := by unfold letB; simp; omega
        have hd : digB c = false := by unfold digB; simp; omega
        by_cases ak : k = 0
        · subst ak
          have bk : (((0 : Nat) : Int) == 0) = true := rfl
          have bk2 : decide ((0 : Nat) = 0) = true := rfl
          have Hno := hide (no (by rw [hl, bk2]; simp))
          clear yes no hl hd
          go_wp2_with fail
          go_ret
          exact ⟨by rw [Hno.out]; rfl, only_refl _ none⟩
        · have bk : ((k : Int) == 0) = false := by rw [beq_eq_false_iff_ne]; omega
          have bk2 : decide (k = 0) = false := decide_eq_false ak
          have Hno := hide (no (by rw [hl, bk2, hd]; simp))
          clear yes no hl hd
          go_wp2_with fail
          go_ret
          exact ⟨by rw [Hno.out]; rfl, only_refl _ none⟩
      by_cases z3 : c.toNat ≤ 90
      · have a97 : decide ((97 : Int) ≤ (c.toNat : Int)) = false := decide_eq_false (by omega)
        have a122 : decide ((c.toNat : Int) ≤ 122) = true := decide_eq_true (by omega)
        have a65 : decide ((65 : Int) ≤ (c.toNat : Int)) = true := decide_eq_true (by omega)
        have a90 : decide ((c.toNat : Int) ≤ 90) = true := decide_eq_true (by omega)
        have a48 : decide ((c.toNat : Int) < 48) = false := decide_eq_false (by omega)
        have a57 : decide ((57 : Int) < (c.toNat : Int)) = true := decide_eq_true (by omega)
        have a95 : ((c.toNat : Int) == 95) = false := by rw [beq_eq_false_iff_ne]; omega
        have hl : letB c = true := by unfold letB; simp; omega
        have hd : digB c = false := by unfold digB; simp; omega
        have Hy := hide (yes (by rw [hl]; rfl))
        clear yes no hl hd
        go_wp2_with fail
        go_roundw
        case rel => exact ⟨k + 1, by go_num, by omega, Hy.out, trivial⟩
        case measure => simp [intOf]; omega
      by_cases z4 : c.toNat ≤ 94
      · have a97 : decide ((97 : Int) ≤ (c.toNat : Int)) = false := decide_eq_false (by omega)
        have a122 : decide ((c.toNat : Int) ≤ 122) = true := decide_eq_true (by omega)
        have a65 : decide ((65 : Int) ≤ (c.toNat : Int)) = true := decide_eq_true (by omega)
        have a90 : decide ((c.toNat : Int) ≤ 90) = false := decide_eq_false (by omega)
        have a48 : decide ((c.toNat : Int) < 48) = false := decide_eq_false (by omega)
        have a57 : decide ((57 : Int) < (c.toNat : Int)) = true := decide_eq_true (by omega)
        have a95 : ((c.toNat : Int) == 95) = false := by rw [beq_eq_false_iff_ne]; omega
        have hl : letB c = false := by unfold letB; simp; omega
        have hd : digB c = false := by unfold digB; simp; omega
        by_cases ak : k = 0
        · subst ak
          have bk : (((0 : Nat) : Int) == 0) = true := rfl
          have bk2 : decide ((0 : Nat) = 0) = true := rfl
          have Hno := hide (no (by rw [hl, bk2]; simp))
          clear yes no hl hd
          go_wp2_with fail
          go_ret
          exact ⟨by rw [Hno.out]; rfl, only_refl _ none⟩
        · have bk : ((k : Int) == 0) = false := by rw [beq_eq_false_iff_ne]; omega
          have bk2 : decide (k = 0) = false := decide_eq_false ak
          have Hno := hide (no (by rw [hl, bk2, hd]; simp))
          clear yes no hl hd
          go_wp2_with fail
          go_ret
          exact ⟨by rw [Hno.out]; rfl, only_refl _ none⟩
      by_cases z5 : c.toNat ≤ 95
      · have a97 : decide ((97 : Int) ≤ (c.toNat : Int)) = false := decide_eq_false (by omega)
        have a122 : decide ((c.toNat : Int) ≤ 122) = true := decide_eq_true (by omega)
        have a65 : decide ((65 : Int) ≤ (c.toNat : Int)) = true := decide_eq_true (by omega)
        have a90 : decide ((c.toNat : Int) ≤ 90) = false := decide_eq_false (by omega)
        have a48 : decide ((c.toNat : Int) < 48) = false := decide_eq_false (by omega)
        have a57 : decide ((57 : Int) < (c.toNat : Int)) = true := decide_eq_true (by omega)
        have a95 : ((c.toNat : Int) == 95) = true := by rw [beq_iff_eq]; omega
        have hl : letB c = true := by unfold letB; simp; omega
        have hd : digB c = false := by unfold digB; simp; omega
        have Hy := hide (yes (by rw [hl]; rfl))
        clear yes no hl hd
        go_wp2_with fail
        go_roundw
        case rel => exact ⟨k + 1, by go_num, by omega, Hy.out, trivial⟩
        case measure => simp [intOf]; omega
      by_cases z6 : c.toNat ≤ 96
      · have a97 : decide ((97 : Int) ≤ (c.toNat : Int)) = false := decide_eq_false (by omega)
        have a122 : decide ((c.toNat : Int) ≤ 122) = true := decide_eq_true (by omega)
        have a65 : decide ((65 : Int) ≤ (c.toNat : Int)) = true := decide_eq_true (by omega)
        have a90 : decide ((c.toNat : Int) ≤ 90) = false := decide_eq_false (by omega)
        have a48 : decide ((c.toNat : Int) < 48) = false := decide_eq_false (by omega)
        have a57 : decide ((57 : Int) < (c.toNat : Int)) = true := decide_eq_true (by omega)
        have a95 : ((c.toNat : Int) == 95) = false := by rw [beq_eq_false_iff_ne]; omega
        have hl : letB c = false := by unfold letB; simp; omega
        have hd : digB c = false := by unfold digB; simp; omega
        by_cases ak : k = 0
        · subst ak
          have bk : (((0 : Nat) : Int) == 0) = true := rfl
          have bk2 : decide ((0 : Nat) = 0) = true := rfl
          have Hno := hide (no (by rw [hl, bk2]; simp))
          clear yes no hl hd
          go_wp2_with fail
          go_ret
          exact ⟨by rw [Hno.out]; rfl, only_refl _ none⟩
        · have bk : ((k : Int) == 0) = false := by rw [beq_eq_false_iff_ne]; omega
          have bk2 : decide (k = 0) = false := decide_eq_false ak
          have Hno := hide (no (by rw [hl, bk2, hd]; simp))
          clear yes no hl hd
          go_wp2_with fail
          go_ret
          exact ⟨by rw [Hno.out]; rfl, only_refl _ none⟩
      by_cases z7 : c.toNat ≤ 122
      · have a97 : decide ((97 : Int) ≤ (c.toNat : Int)) = true := decide_eq_true (by omega)
        have a122 : decide ((c.toNat : Int) ≤ 122) = true := decide_eq_true (by omega)
        have a65 : decide ((65 : Int) ≤ (c.toNat : Int)) = true := decide_eq_true (by omega)
        have a90 : decide ((c.toNat : Int) ≤ 90) = false := decide_eq_false (by omega)
        have a48 : decide ((c.toNat : Int) < 48) = false := decide_eq_false (by omega)
        have a57 : decide ((57 : Int) < (c.toNat : Int)) = true := decide_eq_true (by omega)
        have a95 : ((c.toNat : Int) == 95) = false := by rw [beq_eq_false_iff_ne]; omega
        have hl : letB c = true := by unfold letB; simp; omega
        have hd : digB c = false := by unfold digB; simp; omega
        have Hy := hide (yes (by rw [hl]; rfl))
        clear yes no hl hd
        go_wp2_with fail
        go_roundw
        case rel => exact ⟨k + 1, by go_num, by omega, Hy.out, trivial⟩
        case measure => simp [intOf]; omega
      have a97 : decide ((97 : Int) ≤ (c.toNat : Int)) = true := decide_eq_true (by omega)
      have a122 : decide ((c.toNat : Int) ≤ 122) = false := decide_eq_false (by omega)
      have a65 : decide ((65 : Int) ≤ (c.toNat : Int)) = true := decide_eq_true (by omega)
      have a90 : decide ((c.toNat : Int) ≤ 90) = false := decide_eq_false (by omega)
      have a48 : decide ((c.toNat : Int) < 48) = false := decide_eq_false (by omega)
      have a57 : decide ((57 : Int) < (c.toNat : Int)) = true := decide_eq_true (by omega)
      have a95 : ((c.toNat : Int) == 95) = false := by rw [beq_eq_false_iff_ne]; omega
      have hl : letB c = false := by unfold letB; simp; omega
      have hd : digB c = false := by unfold digB; simp; omega
      by_cases ak : k = 0
      · subst ak
        have bk : (((0 : Nat) : Int) == 0) = true := rfl
        have bk2 : decide ((0 : Nat) = 0) = true := rfl
        have Hno := hide (no (by rw [hl, bk2]; simp))
        clear yes no hl hd
        go_wp2_with fail
        go_ret
        exact ⟨by rw [Hno.out]; rfl, only_refl _ none⟩
      · have bk : ((k : Int) == 0) = false := by rw [beq_eq_false_iff_ne]; omega
        have bk2 : decide (k = 0) = false := decide_eq_false ak
        have Hno := hide (no (by rw [hl, bk2, hd]; simp))
        clear yes no hl hd
        go_wp2_with fail
        go_ret
        exact ⟨by rw [Hno.out]; rfl, only_refl _ none⟩
    · obtain rfl : k = s.length := by omega
      have q0 : decide ((s.length : Int) < (s.length : Int)) = false := decide_eq_false (by omega)
      have hn : nmGo true s = s.length := by rw [hinv, List.drop_eq_nil_of_le (Nat.le_refl _)]; show s.length + 0 = _; omega
      have Hn := hide hn
      clear hinv hn
      go_wp2_with fail
      go_ret
      exact ⟨by rw [Hn.out]; rfl, only_refl _ none⟩

theorem rname_any (s : List UInt8) (w : World) (hs : s.length ≤ 9223372036854775807) : Calls Tryd.prog 23 #[sv s] w fun e w' => e = .returned (.bool (nameB s)) ∧ w.grownBy w' none := by
  have h1 := sz s
  have Hn := hide (fun w' => name38 s w' hs)
  obtain ⟨N, hN⟩ : ∃ N, nmGo true s = N := ⟨_, rfl⟩
  have hB : nameB s = decide (0 < N ∧ N = s.length) := by unfold nameB; rw [hN]
  obtain ⟨B, hBB⟩ : ∃ B, nameB s = B := ⟨_, rfl⟩
  rw [hBB] at hB ⊢
  rw [hN] at Hn
  have HB := hide hB
  clear hB hN hBB
  unfold sv at Hn ⊢
  go_enter Tryd.func23, Tryd.ntmps23
  go_wp2_with fail
  refine (Hn.out _).mono ?_
  rintro e w1 ⟨rfl, g1⟩
  have HG := hide g1
  clear g1
  by_cases c0 : 0 < N
  · have q0 : decide ((0 : Int) < (N : Int)) = true := decide_eq_true (by omega)
    by_cases c1 : N = s.length
    · have q1 : ((N : Int) == (s.length : Int)) = true := by rw [beq_iff_eq]; omega
      have q2 : decide (0 < N ∧ N = s.length) = true := decide_eq_true ⟨c0, c1⟩
      have hb := HB.out.trans q2
      clear q2
      subst hb
      go_wp2_with fail
      go_ret
      exact ⟨rfl, HG.out⟩
    · have q1 : ((N : Int) == (s.length : Int)) = false := by rw [beq_eq_false_iff_ne]; omega
      have q2 : decide (0 < N ∧ N = s.length) = false := decide_eq_false (fun h => c1 h.2)
      have hb := HB.out.trans q2
      clear q2
      subst hb
      go_wp2_with fail
      go_ret
      exact ⟨rfl, HG.out⟩
  · have q0 : decide ((0 : Int) < (N : Int)) = false := decide_eq_false (by omega)
    have q2 : decide (0 < N ∧ N = s.length) = false := decide_eq_false (fun h => c0 h.1)
    have hb := HB.out.trans q2
    clear q2
    subst hb
    go_wp2_with fail
    go_ret
    exact ⟨rfl, HG.out⟩

end Go.Proofs.YtdcfpklohleoiaaDoor
