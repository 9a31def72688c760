/- The document's member, Plain and Quote. -/
import Derived.Test.YtphjafidencdeaaR
import Derived.Test.YtphjafidencdeaaT
namespace Go.Proofs.Ytphjafidencdeaa
open Go.RowKit
set_option maxRecDepth 100000

set_option maxHeartbeats 1000000 in
theorem rmember_any (p : List UInt8) (i : Nat) (w : World) (hp : p.length ≤ 1000000) (hi : i < p.length) :
    Calls Try.prog 34 #[sv p, .int .i64 i] w fun e w' => e = .returned (.tuple #[.int .u8 (quo (p.drop i)).1.toNat, .int .i64 ((i : Int) + (quo (p.drop i)).2)]) ∧ w' = w := by
  have hq := quo_at hi
  have h1 := sz p
  have hat := str_at' p i hi
  have hib : (0 : Int) ≤ i ∧ (i : Int) < (p.length : Int) := by omega
  obtain ⟨c, hc⟩ : ∃ c, p[i] = c := ⟨_, rfl⟩
  rw [hc] at hq hat
  unfold sv
  by_cases h92 : c = 92
  · have q : ((c.toNat : Int) == 92) = true := by rw [h92]; rfl
    by_cases h2 : i + 1 < p.length
    · rw [if_pos ⟨h92, h2⟩] at hq
      have hd : p.getD (i + 1) 0 = p[i + 1] := by rw [List.getD_eq_getElem?_getD, List.getElem?_eq_getElem h2]; rfl
      rw [hd] at hq
      rw [hq]
      have q2 : decide ((i : Int) + 1 < (p.length : Int)) = true := by simp; omega
      have hat2 := str_at' p (i + 1) h2
      have hib2 : (i : Int) + 1 < (p.length : Int) := by omega
      clear h92 hc hq hd
      go_enter Try.func34, Try.ntmps34
      go_wp2_with fail
      go_ret2
      exact ⟨rfl, rfl⟩
    · rw [if_neg (fun h => h2 h.2)] at hq
      rw [hq]
      have q2 : decide ((i : Int) + 1 < (p.length : Int)) = false := by simp; omega
      clear h92 hc hq
      go_enter Try.func34, Try.ntmps34
      go_wp2_with fail
      go_ret2
      exact ⟨rfl, rfl⟩
  · have q : ((c.toNat : Int) == 92) = false := byte_ne h92
    rw [if_neg (fun h => h92 h.1)] at hq
    rw [hq]
    clear h92 hc hq
    go_enter Try.func34, Try.ntmps34
    go_wp2_with fail
    go_ret2
    exact ⟨rfl, rfl⟩

theorem ext_at (p : List UInt8) (i : Nat) (h : i < p.length) : (ByteArray.mk p.toArray).extract i (i + 1) = ⟨#[p[i]]⟩ := by
  apply ByteArray.ext
  rw [ByteArray.data_extract]
  apply Array.ext'
  rw [Array.toList_extract, List.extract_eq_take_drop]
  simp only [List.toList_toArray]
  rw [List.drop_eq_getElem_cons h, show i + 1 - i = 1 by omega]
  rfl
theorem quoteF_next {s : List UInt8} {i : Nat} (h : i < s.length) : quoteF (s.take (i + 1)) = quoteF (s.take i) ++ quote1 s[i] := by
  rw [take_next h, quoteF_app]; simp [quoteF]
theorem special_of {c : UInt8} (h : special c = true) : c = 42 ∨ c = 63 ∨ c = 91 ∨ c = 93 ∨ c = 33 ∨ c = 45 ∨ c = 92 := by
  apply Classical.byContradiction
  intro hn
  simp only [not_or] at hn
  obtain ⟨h1, h2, h3, h4, h5, h6, h7⟩ := hn
  have e : ∀ a : UInt8, ¬ c = a → (a == c) = false := fun a h => by rw [beq_eq_false_iff_ne]; exact fun e => h e.symm
  revert h
  unfold special
  simp only [Lib.indexByte, e _ h1, e _ h2, e _ h3, e _ h4, e _ h5, e _ h6, e _ h7, Bool.false_eq_true, if_false, beq_self_eq_true, if_true]
  decide

set_option maxHeartbeats 2000000 in
theorem rplain_any (p : List UInt8) (w : World) (hp : p.length ≤ 1000000) : Calls Try.prog 16 #[sv p] w fun e w' => e = .returned (sv (plainF p)) ∧ w' = w := by
  have h1 := sz p
  unfold sv
  go_enter Try.func16, Try.ntmps16
  go_wp2_with fail
  go_loopw [3, 4] (fun vo vi wr => ∃ (i : Nat) (acc : List UInt8), vo = .string ⟨acc.toArray⟩ ∧ vi = .int .i64 i ∧ i ≤ p.length ∧ acc.length ≤ i ∧ acc ++ plainF (p.drop i) = plainF p ∧ wr = w) (fun _ vi _ => p.length - (intOf vi).toNat)
  case atStart => exact ⟨0, [], rfl, rfl, Nat.zero_le _, Nat.zero_le _, rfl, rfl⟩
  case round =>
    obtain ⟨i, acc, rfl, rfl, hi, hal, hpl, rfl⟩ := hrel
    have Hpl := hide hpl
    clear hpl
    by_cases hlt : i < p.length
    · have q0 : decide ((i : Int) < (p.length : Int)) = true := by simp; omega
      have hq := quo_at hlt
      have hst := plainF_step (drop_ne hlt)
      rw [List.drop_drop] at hst
      have hat := str_at' p i hlt
      have hib : (0 : Int) ≤ i ∧ (i : Int) < (p.length : Int) := by omega
      have hsum : ¬ 9223372036854775807 < acc.length + 1 := by omega
      obtain ⟨c, hc⟩ : ∃ c, p[i] = c := ⟨_, rfl⟩
      rw [hc] at hq hat
      by_cases hb : c = 92 ∧ i + 1 < p.length
      · obtain ⟨h92, h2⟩ := hb
        have hd : p.getD (i + 1) 0 = p[i + 1] := by rw [List.getD_eq_getElem?_getD, List.getElem?_eq_getElem h2]; rfl
        rw [if_pos ⟨h92, h2⟩, hd] at hq
        rw [hq] at hst
        have Hst := hide hst
        have q : ((c.toNat : Int) == 92) = true := by rw [h92]; rfl
        have q2 : decide ((i : Int) + 1 < (p.length : Int)) = true := by simp; omega
        have hx := ext_at p (i + 1) h2
        have hcat := cat_ba acc [p[i + 1]]
        have hib2 : (0 : Int) ≤ (i : Int) + 1 ∧ (i : Int) + 1 + 1 ≤ (p.length : Int) := by omega
        clear hq hst hd hc h92
        go_wp2_with fail
        go_roundw
        case rel => exact ⟨i + 2, acc ++ [p[i + 1]], by simp, by go_num, by omega, by simp; omega, by rw [List.append_assoc]; have := Hpl.out; rw [Hst.out] at this; exact this, trivial⟩
        case measure => simp [intOf]; omega
      · rw [if_neg hb] at hq
        rw [hq] at hst
        have Hst := hide hst
        have hx := ext_at p i hlt
        rw [hc] at hx
        have hcat := cat_ba acc [c]
        have hib2 : (0 : Int) ≤ (i : Int) + 1 ∧ (i : Int) + 1 ≤ (p.length : Int) := by omega
        have hw : ((c.toNat : Int) == 92) = false ∨ (((c.toNat : Int) == 92) = true ∧ decide ((i : Int) + 1 < (p.length : Int)) = false) := by
          by_cases h92 : c = 92
          · exact .inr ⟨by rw [h92]; rfl, by have : ¬ i + 1 < p.length := fun h => hb ⟨h92, h⟩; simp; omega⟩
          · exact .inl (byte_ne h92)
        clear hq hst hc hb
        rcases hw with q | ⟨q, q2⟩
        all_goals
          go_wp2_with fail
          go_roundw
          case rel => exact ⟨i + 1, acc ++ [c], by simp, by go_num, by omega, by simp; omega, by rw [List.append_assoc]; have := Hpl.out; rw [Hst.out] at this; exact this, trivial⟩
          case measure => simp [intOf]; omega
    · have q0 : decide ((i : Int) < (p.length : Int)) = false := by simp; omega
      have he : acc = plainF p := by
        have := Hpl.out
        rw [List.drop_eq_nil_of_le (by omega), show plainF [] = [] from rfl, List.append_nil] at this
        exact this
      subst he
      go_wp2_with fail
      go_ret
      exact ⟨rfl, rfl⟩

set_option maxHeartbeats 4000000 in
theorem rquote_any (s : List UInt8) (w : World) (hs : s.length ≤ 1000000) : Calls Try.prog 17 #[sv s] w fun e w' => e = .returned (sv (quoteF s)) ∧ w' = w := by
  have h1 := sz s
  unfold sv
  go_enter Try.func17, Try.ntmps17
  go_wp2_with fail
  go_loopw [3, 4] (fun vo vi wr => ∃ (i : Nat) (acc : List UInt8), vo = .string ⟨acc.toArray⟩ ∧ vi = .int .i64 i ∧ i ≤ s.length ∧ quoteF (s.take i) = acc ∧ wr = w) (fun _ vi _ => s.length - (intOf vi).toNat)
  case atStart => exact ⟨0, [], rfl, rfl, Nat.zero_le _, rfl, rfl⟩
  case round =>
    obtain ⟨i, acc, rfl, rfl, hi, hac, rfl⟩ := hrel
    have hal := quoteF_len (s.take i)
    rw [List.length_take, hac] at hal
    by_cases hlt : i < s.length
    · have q0 : decide ((i : Int) < (s.length : Int)) = true := by simp; omega
      have hnx := quoteF_next hlt
      rw [hac] at hnx
      have hat := str_at' s i hlt
      have hib : (0 : Int) ≤ i ∧ (i : Int) < (s.length : Int) := by omega
      have hib2 : (0 : Int) ≤ (i : Int) + 1 ∧ (i : Int) + 1 ≤ (s.length : Int) := by omega
      have hx := ext_at s i hlt
      have hsum : ¬ 9223372036854775807 < acc.length + 1 := by omega
      have hsum2 : ¬ 9223372036854775807 < acc.length + 1 + 1 := by omega
      obtain ⟨c, hc⟩ : ∃ c, s[i] = c := ⟨_, rfl⟩
      rw [hc] at hnx hat hx
      cases hsp : special c with
      | true =>
        have hcat := cat_ba acc [92]
        have hq1 : quote1 c = [92] ++ [c] := by unfold quote1; rw [hsp]; rfl
        rw [hq1] at hnx
        have hcat2 := cat_ba (acc ++ [92]) [c]
        have Hnx := hide hnx
        have hcs := special_of hsp
        clear hnx hsp hq1 hac hc
        rcases hcs with rfl | rfl | rfl | rfl | rfl | rfl | rfl
        all_goals
          go_wp2_with fail
          go_roundw
          case rel => exact ⟨i + 1, _, rfl, by go_num, by omega, by rw [Hnx.out]; simp, trivial⟩
          case measure => simp [intOf]; omega
      | false =>
        have hcat := cat_ba acc [c]
        have hq1 : quote1 c = [c] := by unfold quote1; rw [hsp]; rfl
        rw [hq1] at hnx
        have Hnx := hide hnx
        obtain ⟨n1, n2, n3, n4, n5, n6, n7⟩ := special_not hsp
        have m1 : ((c.toNat : Int) == 42) = false := byte_ne n1
        have m2 : ((c.toNat : Int) == 63) = false := byte_ne n2
        have m3 : ((c.toNat : Int) == 91) = false := byte_ne n3
        have m4 : ((c.toNat : Int) == 93) = false := byte_ne n4
        have m5 : ((c.toNat : Int) == 33) = false := byte_ne n5
        have m6 : ((c.toNat : Int) == 45) = false := byte_ne n6
        have m7 : ((c.toNat : Int) == 92) = false := byte_ne n7
        clear hnx hsp hq1 hac hc n1 n2 n3 n4 n5 n6 n7
        go_wp2_with fail
        go_roundw
        case rel => exact ⟨i + 1, _, rfl, by go_num, by omega, Hnx.out, trivial⟩
        case measure => simp [intOf]; omega
    · have q0 : decide ((i : Int) < (s.length : Int)) = false := by simp; omega
      rw [List.take_of_length_le (by omega)] at hac
      subst hac
      go_wp2_with fail
      go_ret
      exact ⟨rfl, rfl⟩

end Go.Proofs.Ytphjafidencdeaa
