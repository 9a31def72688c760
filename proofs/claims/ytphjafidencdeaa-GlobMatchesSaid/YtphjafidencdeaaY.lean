/- The document's Match, whole; the law on Match. -/
import Derived.Test.YtphjafidencdeaaY1
import Derived.Test.YtphjafidencdeaaY2
import Derived.Test.YtphjafidencdeaaY3
import Derived.Test.YtphjafidencdeaaY4
import Derived.Test.YtphjafidencdeaaY5
namespace Go.Proofs.Ytphjafidencdeaa
open Go.RowKit
set_option maxRecDepth 100000

set_option maxHeartbeats 8000000 in
theorem rmatch_val (p s : List UInt8) (dot b : Bool) (w : World) (hp : p.length ≤ 100000) (hs : s.length ≤ 100000) (hb : b = true ↔ dotNo p s dot = false ∧ Ma ((partsF p).map kd) s) :
    Calls Try.prog 11 #[sv p, sv s, .bool dot] w fun e w' => e = .returned (.bool b) ∧ w.grownBy w' none := by
  have z1 := sz p
  have z2 := sz s
  have eg : ∀ args w, (callFunc 22 args).run Try.prog w = .ok (.enter 22 args) w := enters_of Try.func22 (by kernel_rfl) rfl
  have hpa := fun w' => rparts_any p w' (by omega)
  have hDk := dparts_kd p
  have hlen := dparts_len p _ 0 rfl
  rw [Nat.sub_zero] at hlen
  obtain ⟨D, hD⟩ : ∃ D, dparts p 0 = D := ⟨_, rfl⟩
  rw [hD] at hpa hDk hlen
  rw [dotNo_eq] at hb
  have gd : ∀ (l : List UInt8) (n : Nat) (h : n < l.length), l.getD n 0 = l[n] := fun l n h => getD_at h
  unfold sv at hpa ⊢
  have Hpa := hide hpa
  have Heg := hide eg
  clear hpa eg
  by_cases hno : (dot && decide (0 < s.length ∧ s.getD 0 0 = 46) && !decide (0 < p.length ∧ p.getD 0 0 = 46) && !decide (1 < p.length ∧ p.getD 0 0 = 92 ∧ p.getD 1 0 = 46)) = true
  · have hbf : b = false := by
      cases b with
      | false => rfl
      | true => have := (hb.1 rfl).1; rw [hno] at this; cases this
    subst hbf
    simp only [Bool.and_eq_true, Bool.not_eq_true', decide_eq_true_eq, decide_eq_false_iff_not] at hno
    obtain ⟨⟨⟨rfl, hs0, hs1⟩, hp1⟩, hp2⟩ := hno
    have q1 : decide ((0 : Int) < (s.length : Int)) = true := decide_eq_true (by omega)
    have a1 := str_at' s 0 hs0
    have b1 : (((s[0]).toNat : Int) == 46) = true := by rw [← gd s 0 hs0, hs1]; rfl
    have hsl : (0 : Int) < (s.length : Int) := by omega
    by_cases hpl : 0 < p.length
    · have q2 : decide ((0 : Int) < (p.length : Int)) = true := decide_eq_true (by omega)
      have a2 := str_at' p 0 hpl
      have hpl' : (0 : Int) < (p.length : Int) := by omega
      have b2 : (((p[0]).toNat : Int) == 46) = false := byte_ne (d := 46) (fun e => hp1 ⟨hpl, by rw [gd p 0 hpl, e]⟩)
      have ways : decide ((1 : Int) < (p.length : Int)) = false ∨ (decide ((1 : Int) < (p.length : Int)) = true ∧ (((p[0]).toNat : Int) == 92) = false) ∨ ∃ h1 : 1 < p.length, decide ((1 : Int) < (p.length : Int)) = true ∧ (((p[0]).toNat : Int) == 92) = true ∧ (((p[1]).toNat : Int) == 46) = false := by
        by_cases h1 : 1 < p.length
        · by_cases h92 : p[0] = 92
          · refine .inr (.inr ⟨h1, (by first | exact decide_eq_true (by omega) | exact decide_eq_false (by omega)), by rw [h92]; rfl, byte_ne (d := 46) (fun e => hp2 ⟨h1, by rw [gd p 0 hpl, h92], by rw [gd p 1 h1, e]⟩)⟩)
          · exact .inr (.inl ⟨(by first | exact decide_eq_true (by omega) | exact decide_eq_false (by omega)), byte_ne (d := 92) h92⟩)
        · exact .inl ((by first | exact decide_eq_true (by omega) | exact decide_eq_false (by omega)))
      clear hb hs1 hp1 hp2 gd
      rcases ways with q3 | ⟨q3, b3⟩ | ⟨h1, q3, b3, b4⟩
      · go_enter Try.func11, Try.ntmps11
        go_wp2_with fail
        go_ret
        exact ⟨rfl, only_refl _ _⟩
      · go_enter Try.func11, Try.ntmps11
        go_wp2_with fail
        go_ret
        exact ⟨rfl, only_refl _ _⟩
      · have a3 := str_at' p 1 h1
        have h1' : (1 : Int) < (p.length : Int) := by omega
        go_enter Try.func11, Try.ntmps11
        go_wp2_with fail
        go_ret
        exact ⟨rfl, only_refl _ _⟩
    · have q2 : decide ((0 : Int) < (p.length : Int)) = false := decide_eq_false (by omega)
      have q3 : decide ((1 : Int) < (p.length : Int)) = false := decide_eq_false (by omega)
      clear hb hs1 hp1 hp2 gd
      go_enter Try.func11, Try.ntmps11
      go_wp2_with fail
      go_ret
      exact ⟨rfl, only_refl _ _⟩
  · have hb2 : b = true ↔ Ma ((partsF p).map kd) s := by
      rw [hb]
      exact ⟨fun h => h.2, fun h => ⟨by simpa using hno, h⟩⟩
    rw [← hDk] at hb2
    have ways : dot = false ∨ (dot = true ∧ decide ((0 : Int) < (s.length : Int)) = false) ∨ (∃ h : 0 < s.length, dot = true ∧ decide ((0 : Int) < (s.length : Int)) = true ∧ (((s[0]).toNat : Int) == 46) = false) ∨
        (∃ (h : 0 < s.length) (h2 : 0 < p.length), dot = true ∧ decide ((0 : Int) < (s.length : Int)) = true ∧ (((s[0]).toNat : Int) == 46) = true ∧ decide ((0 : Int) < (p.length : Int)) = true ∧ (((p[0]).toNat : Int) == 46) = true) ∨
        (∃ (h : 0 < s.length) (h2 : 1 < p.length), dot = true ∧ decide ((0 : Int) < (s.length : Int)) = true ∧ (((s[0]).toNat : Int) == 46) = true ∧ decide ((0 : Int) < (p.length : Int)) = true ∧ (((p[0]).toNat : Int) == 46) = false ∧ decide ((1 : Int) < (p.length : Int)) = true ∧ (((p[0]).toNat : Int) == 92) = true ∧ (((p[1]).toNat : Int) == 46) = true) := by
      cases dot with
      | false => exact .inl rfl
      | true =>
        by_cases h : 0 < s.length
        · by_cases h46 : s[0] = 46
          · have hsd : decide (0 < s.length ∧ s.getD 0 0 = 46) = true := by rw [gd s 0 h, h46]; simp [h]
            rw [hsd] at hno
            by_cases e1 : 0 < p.length ∧ p.getD 0 0 = 46
            · have := e1.2
              rw [gd p 0 e1.1] at this
              exact .inr (.inr (.inr (.inl ⟨h, e1.1, rfl, (by first | exact decide_eq_true (by omega) | exact decide_eq_false (by omega)), by rw [h46]; rfl, (by first | exact decide_eq_true (by omega) | exact decide_eq_false (by omega)), by rw [this]; rfl⟩)))
            · rw [decide_eq_false e1] at hno
              have e2 : 1 < p.length ∧ p.getD 0 0 = 92 ∧ p.getD 1 0 = 46 := by simpa using hno
              obtain ⟨l1, l2, l3⟩ := e2
              rw [gd p 0 (by omega)] at l2
              rw [gd p 1 l1] at l3
              exact .inr (.inr (.inr (.inr ⟨h, l1, rfl, (by first | exact decide_eq_true (by omega) | exact decide_eq_false (by omega)), by rw [h46]; rfl, (by first | exact decide_eq_true (by omega) | exact decide_eq_false (by omega)), by rw [l2]; rfl, (by first | exact decide_eq_true (by omega) | exact decide_eq_false (by omega)), by rw [l2]; rfl, by rw [l3]; rfl⟩)))
          · exact .inr (.inr (.inl ⟨h, rfl, (by first | exact decide_eq_true (by omega) | exact decide_eq_false (by omega)), byte_ne (d := 46) h46⟩))
        · exact .inr (.inl ⟨rfl, (by first | exact decide_eq_true (by omega) | exact decide_eq_false (by omega))⟩)
    clear hb hno gd
    rcases ways with e | ⟨e, q1⟩ | ⟨h, e, q1, b1⟩ | ⟨h, h2, e, q1, b1, q2, b2⟩ | ⟨h, h2, e, q1, b1, q2, b2, q3, b3, b4⟩
    · exact rmatch_w1 p s dot b w D hp hs hD hb2 e
    · exact rmatch_w2 p s dot b w D hp hs hD hb2 e q1
    · exact rmatch_w3 p s dot b w D hp hs hD hb2 h e q1 b1
    · exact rmatch_w4 p s dot b w D hp hs hD hb2 h h2 e q1 b1 q2 b2
    · exact rmatch_w5 p s dot b w D hp hs hD hb2 h h2 e q1 b1 q2 b2 q3 b3 b4

set_option maxHeartbeats 2000000 in
theorem matches_any (p s : List UInt8) (dot : Bool) (w : World) : Calls Try.prog 3 #[sv p, sv s, .bool dot] w fun e w' => e = .returned (.bool true) ∧ w.grownBy w' none := by
  have Hsh := hide (fun w' => shown_any w')
  have z1 := sz p
  have z2 := sz s
  by_cases h1 : 400 < p.length
  · unfold sv
    have q1 : decide ((400 : Int) < (p.length : Int)) = true := decide_eq_true (by omega)
    go_enter Try.func3, Try.ntmps3
    go_wp2_with fail
    refine (Hsh.out _).mono ?_
    rintro e w1 ⟨rfl, g1⟩
    have G1 := hide g1
    clear g1
    go_wp2_with fail
    go_ret
    exact ⟨rfl, G1.out⟩
  have q1 : decide ((400 : Int) < (p.length : Int)) = false := decide_eq_false (by omega)
  by_cases h2 : 400 < s.length
  · unfold sv
    have q2 : decide ((400 : Int) < (s.length : Int)) = true := decide_eq_true (by omega)
    go_enter Try.func3, Try.ntmps3
    go_wp2_with fail
    refine (Hsh.out _).mono ?_
    rintro e w1 ⟨rfl, g1⟩
    have G1 := hide g1
    clear g1
    go_wp2_with fail
    go_ret
    exact ⟨rfl, G1.out⟩
  have q2 : decide ((400 : Int) < (s.length : Int)) = false := decide_eq_false (by omega)
  obtain ⟨b, hb⟩ : ∃ b : Bool, b = true ↔ dotNo p s dot = false ∧ Ma ((partsF p).map kd) s := by
    by_cases h : dotNo p s dot = false ∧ Ma ((partsF p).map kd) s
    · exact ⟨true, yes h⟩
    · exact ⟨false, no h⟩
  have m1 := fun w => match_val p s dot b w (by omega) (by omega) hb
  have m2 := fun w => rmatch_val p s dot b w (by omega) (by omega) hb
  have hbb : (b == b) = true := by simp
  unfold sv at m1 m2 ⊢
  have M1 := hide m1
  have M2 := hide m2
  clear m1 m2 hb
  go_enter Try.func3, Try.ntmps3
  go_wp2_with fail
  refine (Hsh.out _).mono ?_
  rintro e w1 ⟨rfl, g1⟩
  have G1 := hide g1
  clear g1
  go_wp2_with fail
  refine (M1.out _).mono ?_
  rintro e w2 ⟨rfl, g1⟩
  have G2 := hide (none_trans G1.out g1)
  clear g1
  go_wp2_with fail
  refine (M2.out _).mono ?_
  rintro e w3 ⟨rfl, g1⟩
  have G3 := hide (none_trans G2.out g1)
  clear g1
  go_wp2_with fail
  go_ret
  exact ⟨by simp, G3.out⟩

end Go.Proofs.Ytphjafidencdeaa
