/- The parser's small functions that change nothing: sign, word. -/
import Derived.Test.YtgpfjcogaheopaaPC
set_option linter.all false
namespace Go.Proofs.Ytgpfjcogaheopaa
open Go.RowKit Lx
set_option maxRecDepth 100000

theorem ret_bool {a b : Bool} (h : a = b) : Ending.returned (.bool a) = .returned (.bool b) := by rw [h]
theorem ret_int {a b : Int} (h : a = b) : Ending.returned (.int .i64 a) = .returned (.int .i64 b) := by rw [h]
set_option maxHeartbeats 1000000 in
theorem sign_any (av : Nat → Prop) (base : Nat → Prop) (rb d : Nat) (vt vn : Value) (ts : List Tok) (ns : List Nd) (s : List UInt8) (w : World) (h : RAt av base w rb vt vn ts ns d) :
    Calls Try.prog 38 #[.pointer (some ⟨rb, 0, none⟩), sv s] w fun e w' => e = .returned (.bool (sgnB ts s)) ∧ w.grownBy w' none := by
  obtain ⟨t, r, g, off, cap, rfl, rfl, hc, hg, c0, c1, c2⟩ := h.head
  obtain ⟨d0, d1, d2⟩ := h.cells
  have lb := Blk.lt h.blk
  have hib : (0 : Int) < (((t :: r).length : Nat) : Int) := by simp only [List.length_cons]; omega
  have hsb : sgnB (t :: r) s = (t.k == 2 && t.t == s) := rfl
  obtain ⟨L, hL⟩ : ∃ L, (t :: r).length = L := ⟨_, rfl⟩
  rw [hL] at d0 hib hc
  have HSB := hide hsb
  clear h hsb hL
  obtain ⟨tk, tt, ta⟩ := t
  simp only [] at c0 c1 c2
  unfold sv
  by_cases hk : tk = 2
  · subst hk
    go_enter Try.func38, Try.ntmps38
    go_wp2_with fail
    go_ret
    exact ⟨ret_bool (a := tt == s) (by rw [HSB.out]; simp), only_refl w none⟩
  · have q : ((tk : Int) == 2) = false := by rw [beq_eq_false_iff_ne]; omega
    have q2 : (tk == 2) = false := by rw [beq_eq_false_iff_ne]; exact hk
    have HQ2 := hide q2
    clear q2
    go_enter Try.func38, Try.ntmps38
    go_wp2_with fail
    go_ret
    exact ⟨ret_bool (a := false) (by rw [HSB.out]; simp only [HQ2.out, Bool.false_and]), only_refl w none⟩

set_option maxHeartbeats 1000000 in
theorem word_any (av : Nat → Prop) (base : Nat → Prop) (rb d : Nat) (vt vn : Value) (ts : List Tok) (ns : List Nd) (s : List UInt8) (w : World) (h : RAt av base w rb vt vn ts ns d) :
    Calls Try.prog 55 #[.pointer (some ⟨rb, 0, none⟩), sv s] w fun e w' => e = .returned (.bool (wrdB ts s)) ∧ w.grownBy w' none := by
  obtain ⟨t, r, g, off, cap, rfl, rfl, hc, hg, c0, c1, c2⟩ := h.head
  obtain ⟨d0, d1, d2⟩ := h.cells
  have lb := Blk.lt h.blk
  have hib : (0 : Int) < (((t :: r).length : Nat) : Int) := by simp only [List.length_cons]; omega
  have hsb : wrdB (t :: r) s = (t.k == 1 && t.t == s) := rfl
  obtain ⟨L, hL⟩ : ∃ L, (t :: r).length = L := ⟨_, rfl⟩
  rw [hL] at d0 hib hc
  have HSB := hide hsb
  clear h hsb hL
  obtain ⟨tk, tt, ta⟩ := t
  simp only [] at c0 c1 c2
  unfold sv
  by_cases hk : tk = 1
  · subst hk
    go_enter Try.func55, Try.ntmps55
    go_wp2_with fail
    go_ret
    exact ⟨ret_bool (a := tt == s) (by rw [HSB.out]; simp), only_refl w none⟩
  · have q : ((tk : Int) == 1) = false := by rw [beq_eq_false_iff_ne]; omega
    have q2 : (tk == 1) = false := by rw [beq_eq_false_iff_ne]; exact hk
    have HQ2 := hide q2
    clear q2
    go_enter Try.func55, Try.ntmps55
    go_wp2_with fail
    go_ret
    exact ⟨ret_bool (a := false) (by rw [HSB.out]; simp only [HQ2.out, Bool.false_and]), only_refl w none⟩

theorem or32_all : ∀ n : Fin 256, bits .or .u8 (n.val : Int) 32 = ((n.val ||| 32 : Nat) : Int) ∧ (97 ≤ n.val ||| 32 ∧ n.val ||| 32 ≤ 122 ↔ (97 ≤ n.val ∧ n.val ≤ 122) ∨ (65 ≤ n.val ∧ n.val ≤ 90)) := by decide +kernel
theorem or32 (c : UInt8) : ∃ X : Nat, bits .or .u8 (c.toNat : Int) 32 = (X : Int) ∧ (97 ≤ X ∧ X ≤ 122 ↔ (97 ≤ c.toNat ∧ c.toNat ≤ 122) ∨ (65 ≤ c.toNat ∧ c.toNat ≤ 90)) := ⟨_, or32_all ⟨c.toNat, c.toNat_lt⟩⟩
theorem nm_yes {f : Bool} {c : UInt8} {r : List UInt8} (h : (letB c || (!f && digB c)) = true) : nmGo f (c :: r) = nmGo false r + 1 := by
  show (if _ then _ else _) = _
  rw [if_pos h]
theorem nm_no {f : Bool} {c : UInt8} {r : List UInt8} (h : ¬ (letB c || (!f && digB c)) = true) : nmGo f (c :: r) = 0 := by
  show (if _ then _ else _) = _
  rw [if_neg h]

set_option maxHeartbeats 4000000 in
theorem name_any (s : List UInt8) (w : World) (hs : s.length ≤ 9223372036854775807) : Calls Try.prog 91 #[sv s] w fun e w' => e = .returned (.int .i64 (nmGo true s)) ∧ w' = w := by
  have h1 := sz s
  unfold sv
  go_enter Try.func91, Try.ntmps91
  go_wp2_with fail
  go_loopw [7] (fun v7 wr => ∃ k : Nat, v7 = .int .i64 k ∧ k ≤ s.length ∧ nmGo true s = k + nmGo (decide (k = 0)) (s.drop k) ∧ wr = w) (fun v7 _ => s.length - (intOf v7).toNat)
  case atStart => exact ⟨0, rfl, Nat.zero_le _, by simp, rfl⟩
  case round =>
    obtain ⟨k, rfl, hk, hinv, rfl⟩ := hrel
    by_cases hlt : k < s.length
    · have q0 : decide ((k : Int) < (s.length : Int)) = true := decide_eq_true (by omega)
      have hat := str_at' s k hlt
      have hib : (0 : Int) ≤ k ∧ (k : Int) < (s.length : Int) := by omega
      have hdr := drop_at hlt
      obtain ⟨c, hc⟩ : ∃ c, s[k] = c := ⟨_, rfl⟩
      rw [hc] at hat hdr
      rw [hdr] at hinv
      obtain ⟨X, hX, hXi⟩ := or32 c
      have yes : (letB c || (!decide (k = 0) && digB c)) = true → nmGo true s = (k + 1) + nmGo (decide (k + 1 = 0)) (s.drop (k + 1)) := fun h => by
        rw [hinv, nm_yes h, show decide (k + 1 = 0) = false from rfl]; omega
      have no : ¬ (letB c || (!decide (k = 0) && digB c)) = true → nmGo true s = k := fun h => by
        rw [nm_no h] at hinv
        omega
      have hlB : letB c = true ↔ (97 ≤ X ∧ X ≤ 122) ∨ c.toNat = 95 := by
        unfold letB
        simp only [Bool.or_eq_true, decide_eq_true_eq]
        rw [hXi]
      clear hc hdr hinv hXi
      by_cases a1 : 97 ≤ X
      · have b1 : decide ((97 : Int) ≤ (X : Int)) = true := decide_eq_true (by omega)
        by_cases a2 : X ≤ 122
        · have b2 : decide ((X : Int) ≤ 122) = true := decide_eq_true (by omega)
          have Hy := hide (yes (by rw [hlB.2 (.inl ⟨a1, a2⟩)]; rfl))
          clear yes no hlB
          go_wp2_with fail
          go_roundw
          case rel => exact ⟨k + 1, by go_num, by omega, Hy.out, trivial⟩
          case measure => simp [intOf]; omega
        · have b2 : decide ((X : Int) ≤ 122) = false := decide_eq_false (by omega)
          by_cases a95 : c.toNat = 95
          · have b95 : ((c.toNat : Int) == 95) = true := by rw [beq_iff_eq]; omega
            have Hy := hide (yes (by rw [hlB.2 (.inr a95)]; rfl))
            clear yes no hlB
            go_wp2_with fail
            go_roundw
            case rel => exact ⟨k + 1, by go_num, by omega, Hy.out, trivial⟩
            case measure => simp [intOf]; omega
          have b95 : ((c.toNat : Int) == 95) = false := by rw [beq_eq_false_iff_ne]; omega
          have hl0 : letB c = false := by
            cases hh : letB c with
            | false => rfl
            | true => exact absurd (hlB.1 hh) (by omega)
          by_cases ak : k = 0
          · subst ak
            have bk : decide ((0 : Int) < ((0 : Nat) : Int)) = false := by decide
            have Hno := hide (no (by rw [hl0]; simp))
            clear yes no hlB
            go_wp2_with fail
            go_ret
            exact ⟨ret_int (by rw [Hno.out]), rfl⟩
          have bk : decide ((0 : Int) < (k : Int)) = true := decide_eq_true (by omega)
          have bk2 : decide (k = 0) = false := decide_eq_false ak
          by_cases a48 : 48 ≤ c.toNat
          · have b48 : decide ((48 : Int) ≤ (c.toNat : Int)) = true := decide_eq_true (by omega)
            by_cases a57 : c.toNat ≤ 57
            · have b57 : decide ((c.toNat : Int) ≤ 57) = true := decide_eq_true (by omega)
              have hd : digB c = true := decide_eq_true ⟨a48, a57⟩
              have Hy := hide (yes (by rw [hl0, bk2, hd]; rfl))
              clear yes no hlB
              go_wp2_with fail
              go_roundw
              case rel => exact ⟨k + 1, by go_num, by omega, Hy.out, trivial⟩
              case measure => simp [intOf]; omega
            · have b57 : decide ((c.toNat : Int) ≤ 57) = false := decide_eq_false (by omega)
              have hd : digB c = false := decide_eq_false (fun h => a57 h.2)
              have Hno := hide (no (by rw [hl0, bk2, hd]; simp))
              clear yes no hlB
              go_wp2_with fail
              go_ret
              exact ⟨ret_int (by rw [Hno.out]), rfl⟩
          · have b48 : decide ((48 : Int) ≤ (c.toNat : Int)) = false := decide_eq_false (by omega)
            have hd : digB c = false := decide_eq_false (fun h => a48 h.1)
            have Hno := hide (no (by rw [hl0, bk2, hd]; simp))
            clear yes no hlB
            go_wp2_with fail
            go_ret
            exact ⟨ret_int (by rw [Hno.out]), rfl⟩
      · have b1 : decide ((97 : Int) ≤ (X : Int)) = false := decide_eq_false (by omega)
        by_cases a95 : c.toNat = 95
        · have b95 : ((c.toNat : Int) == 95) = true := by rw [beq_iff_eq]; omega
          have Hy := hide (yes (by rw [hlB.2 (.inr a95)]; rfl))
          clear yes no hlB
          go_wp2_with fail
          go_roundw
          case rel => exact ⟨k + 1, by go_num, by omega, Hy.out, trivial⟩
          case measure => simp [intOf]; omega
        have b95 : ((c.toNat : Int) == 95) = false := by rw [beq_eq_false_iff_ne]; omega
        have hl0 : letB c = false := by
          cases hh : letB c with
          | false => rfl
          | true => exact absurd (hlB.1 hh) (by omega)
        by_cases ak : k = 0
        · subst ak
          have bk : decide ((0 : Int) < ((0 : Nat) : Int)) = false := by decide
          have Hno := hide (no (by rw [hl0]; simp))
          clear yes no hlB
          go_wp2_with fail
          go_ret
          exact ⟨ret_int (by rw [Hno.out]), rfl⟩
        have bk : decide ((0 : Int) < (k : Int)) = true := decide_eq_true (by omega)
        have bk2 : decide (k = 0) = false := decide_eq_false ak
        by_cases a48 : 48 ≤ c.toNat
        · have b48 : decide ((48 : Int) ≤ (c.toNat : Int)) = true := decide_eq_true (by omega)
          by_cases a57 : c.toNat ≤ 57
          · have b57 : decide ((c.toNat : Int) ≤ 57) = true := decide_eq_true (by omega)
            have hd : digB c = true := decide_eq_true ⟨a48, a57⟩
            have Hy := hide (yes (by rw [hl0, bk2, hd]; rfl))
            clear yes no hlB
            go_wp2_with fail
            go_roundw
            case rel => exact ⟨k + 1, by go_num, by omega, Hy.out, trivial⟩
            case measure => simp [intOf]; omega
          · have b57 : decide ((c.toNat : Int) ≤ 57) = false := decide_eq_false (by omega)
            have hd : digB c = false := decide_eq_false (fun h => a57 h.2)
            have Hno := hide (no (by rw [hl0, bk2, hd]; simp))
            clear yes no hlB
            go_wp2_with fail
            go_ret
            exact ⟨ret_int (by rw [Hno.out]), rfl⟩
        · have b48 : decide ((48 : Int) ≤ (c.toNat : Int)) = false := decide_eq_false (by omega)
          have hd : digB c = false := decide_eq_false (fun h => a48 h.1)
          have Hno := hide (no (by rw [hl0, bk2, hd]; simp))
          clear yes no hlB
          go_wp2_with fail
          go_ret
          exact ⟨ret_int (by rw [Hno.out]), rfl⟩
    · obtain rfl : k = s.length := by omega
      have q0 : decide ((s.length : Int) < (s.length : Int)) = false := decide_eq_false (by omega)
      have hn : nmGo true s = s.length := by rw [hinv, List.drop_eq_nil_of_le (Nat.le_refl _)]; show s.length + 0 = _; omega
      clear hinv
      have HN := hide hn
      clear hn
      go_wp2_with fail
      go_ret
      exact ⟨ret_int (by rw [HN.out]), rfl⟩

end Go.Proofs.Ytgpfjcogaheopaa
