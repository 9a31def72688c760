/- The law on sets. -/
import Derived.Test.YtphjafidencdeaaQ
namespace Go.Proofs.Ytphjafidencdeaa
open Go.RowKit
set_option maxRecDepth 100000

theorem run_str1 (w : World) (c : UInt8) : (convert 25 9 (.slice (some ⟨w.heap.size, 0, none⟩) 1 1)).run Try.prog (w.alloc (.cells #[.int .u8 c.toNat] 5)) = .ok (.string ⟨#[c]⟩) (w.alloc (.cells #[.int .u8 c.toNat] 5)) :=
  run_string_of_bytes (w.alloc (.cells #[.int .u8 c.toNat] 5)) (e := 5) (by kernel_rfl) (by kernel_rfl) (by kernel_rfl) ⟨w.heap.size, 0, none⟩ [c] 1 (fun i hi => by
    have hi0 : i = 0 := by simpa using hi
    subst hi0
    exact (Blk.new w 5 #[.int .u8 c.toNat]).cell 0)
/-- What a set's pattern says of a byte. -/
theorem set_is {m : List UInt8} (hm : m ≠ []) : partsF (91 :: (quoteF m ++ [93])) = [⟨false, true, m.foldl Ws.add Ws.zero⟩] := parts_set (setF_quote hm) (by simp)
theorem set_not {m : List UInt8} (hm : m ≠ []) : partsF (91 :: 33 :: (quoteF m ++ [93])) = [⟨false, true, (m.foldl Ws.add Ws.zero).inv⟩] := parts_set (setF_quote_not hm) (by simp)
theorem kd_one (s : Ws) : kd ⟨false, true, s⟩ = some s.has := rfl
theorem one_one (f : UInt8 → Bool) (c : UInt8) : Ma [some f] [c] ↔ f c = true := by
  rw [ma_one]
  constructor
  · rintro ⟨d, t, e, h, _⟩
    injection e with e1 e2
    rw [e1]; exact h
  · intro h
    exact ⟨c, [], rfl, h, .nil⟩
theorem one_two (f : UInt8 → Bool) (c : UInt8) : ¬ Ma [some f] [c, c] := by
  rw [ma_one]
  rintro ⟨d, t, e, _, h⟩
  rw [ma_nil.1 h] at e
  cases e
theorem one_none (f : UInt8 → Bool) : ¬ Ma [some f] [] := by
  rw [ma_one]
  rintro ⟨d, t, e, _, _⟩
  cases e
theorem set_has (m : List UInt8) (c : UInt8) : (m.foldl Ws.add Ws.zero).has c = m.any (· == c) := by rw [has_fold, has_zero, Bool.false_or]

set_option maxHeartbeats 4000000 in
theorem sets_any (m : List UInt8) (c : UInt8) (w : World) : Calls Try.prog 4 #[sv m, .int .u8 c.toNat] w fun e w' => e = .returned (.bool true) ∧ w.grownBy w' none := by
  have Hsh := hide (fun w' => shown_any w')
  have z1 := sz m
  by_cases hm : m = []
  · subst hm
    unfold sv
    go_enter Try.func4, Try.ntmps4
    go_wp2_with fail
    refine (Hsh.out _).mono ?_
    rintro e w1 ⟨rfl, g1⟩
    have G1 := hide g1
    clear g1
    go_wp2_with fail
    go_ret
    exact ⟨rfl, G1.out⟩
  have he : m.isEmpty = false := by simpa using hm
  by_cases hbig : 200 < m.length
  · unfold sv
    have q1 : decide ((200 : Int) < (m.length : Int)) = true := by simp; omega
    go_enter Try.func4, Try.ntmps4
    go_wp2_with fail
    refine (Hsh.out _).mono ?_
    rintro e w1 ⟨rfl, g1⟩
    have G1 := hide g1
    clear g1
    go_wp2_with fail
    go_ret
    exact ⟨rfl, G1.out⟩
  have q1 : decide ((200 : Int) < (m.length : Int)) = false := by simp; omega
  have hl := quoteF_len m
  obtain ⟨b, hb⟩ : ∃ b, m.any (· == c) = b := ⟨_, rfl⟩
  have hs1 : b = true ↔ Ma ((partsF (91 :: (quoteF m ++ [93]))).map kd) [c] := by
    rw [set_is hm]
    show _ ↔ Ma [some _] _
    rw [one_one, set_has, hb]
  have hs2 : (!b) = true ↔ Ma ((partsF (91 :: 33 :: (quoteF m ++ [93]))).map kd) [c] := by
    rw [set_not hm]
    show _ ↔ Ma [some _] _
    rw [one_one, has_inv _ (ok_fold _ _ Ws.ok_zero), set_has, hb]
  have hs3 : false = true ↔ Ma ((partsF (91 :: (quoteF m ++ [93]))).map kd) [c, c] := no (by rw [set_is hm]; exact one_two _ _)
  have hs4 : false = true ↔ Ma ((partsF (91 :: (quoteF m ++ [93]))).map kd) [] := no (by rw [set_is hm]; exact one_none _)
  have hs5 : hasF (91 :: (quoteF m ++ [93])) = true := by unfold hasF; rw [set_is hm]; rfl
  have h0 := fun w => quote_any m w (by omega)
  have h1 := fun w => match_free (91 :: (quoteF m ++ [93])) [c] b w (by simp; omega) (by simp) hs1
  have h2 := fun w => match_free (91 :: 33 :: (quoteF m ++ [93])) [c] (!b) w (by simp; omega) (by simp) hs2
  have h3 := fun w => match_free (91 :: (quoteF m ++ [93])) [c, c] false w (by simp; omega) (by simp) hs3
  have h4 := fun w => match_free (91 :: (quoteF m ++ [93])) [] false w (by simp; omega) (by simp) hs4
  have h5 := fun w => has_calls (91 :: (quoteF m ++ [93])) w (by simp; omega)
  rw [hs5] at h5
  obtain ⟨q, hq⟩ : ∃ q, quoteF m = q := ⟨_, rfl⟩
  rw [hq] at h0 h1 h2 h3 h4 h5 hl
  have e1 : (ByteArray.mk #[91]) ++ ByteArray.mk q.toArray = ⟨(91 :: q).toArray⟩ := cat_ba [91] q
  have e2 : (ByteArray.mk (91 :: q).toArray) ++ ByteArray.mk #[93] = ⟨(91 :: (q ++ [93])).toArray⟩ := cat_ba (91 :: q) [93]
  have e3 : (ByteArray.mk #[91, 33]) ++ ByteArray.mk q.toArray = ⟨(91 :: 33 :: q).toArray⟩ := cat_ba [91, 33] q
  have e4 : (ByteArray.mk (91 :: 33 :: q).toArray) ++ ByteArray.mk #[93] = ⟨(91 :: 33 :: (q ++ [93])).toArray⟩ := cat_ba (91 :: 33 :: q) [93]
  have e5 : (ByteArray.mk #[c]) ++ ByteArray.mk #[c] = ⟨#[c, c]⟩ := cat_ba [c] [c]
  have y1 : ¬ 9223372036854775807 < 1 + q.length := by omega
  have y2 : ¬ 9223372036854775807 < 2 + q.length := by omega
  have y3 : ¬ 9223372036854775807 < q.length + 1 + 1 := by omega
  have y4 : ¬ 9223372036854775807 < q.length + 1 + 1 + 1 := by omega
  unfold sv at h0 h1 h2 h3 h4 h5 ⊢
  have H0 := hide h0
  have H1 := hide h1
  have H2 := hide h2
  have H3 := hide h3
  have H4 := hide h4
  have H5 := hide h5
  have Hb := hide hb
  clear h0 h1 h2 h3 h4 h5 hq hs1 hs2 hs3 hs4 hs5 hb
  go_enter Try.func4, Try.ntmps4
  go_wp2_with fail
  refine (Hsh.out _).mono ?_
  rintro e w1 ⟨rfl, g1⟩
  have G1 := hide g1
  clear g1
  go_wp2_with fail
  refine (H0.out _).mono ?_
  rintro e w2 ⟨rfl, g1⟩
  have G2 := hide (none_trans G1.out g1)
  clear g1
  go_wp2_with fail
  go_loopw [7, 8] (fun vb vi wr => ∃ i : Nat, vb = .bool ((m.take i).any (· == c)) ∧ vi = .int .i64 i ∧ i ≤ m.length ∧ wr = w2) (fun _ vi _ => m.length - (intOf vi).toNat)
  case atStart => exact ⟨0, by simp, rfl, Nat.zero_le _, rfl⟩
  case round =>
    obtain ⟨i, rfl, rfl, hi, rfl⟩ := hrel
    by_cases hlt : i < m.length
    · have q2 : decide ((i : Int) < (m.length : Int)) = true := by simp; omega
      have hib : (0 : Int) ≤ i ∧ (i : Int) < (m.length : Int) := by omega
      have hat := str_at' m i hlt
      have htk : (m.take (i + 1)).any (· == c) = ((m.take i).any (· == c) || m[i] == c) := by rw [take_next hlt, List.any_append]; simp
      have Htk := hide htk
      obtain ⟨u, hu⟩ : ∃ u, (m.take i).any (· == c) = u := ⟨_, rfl⟩
      rw [hu] at Htk
      obtain ⟨d, hd⟩ : ∃ d, m[i] = d := ⟨_, rfl⟩
      rw [hd] at hat Htk
      rw [hu]
      clear htk hu hd
      cases u with
      | true =>
        go_wp2_with fail
        go_roundw
        case rel => exact ⟨i + 1, by rw [Htk.out]; rfl, by go_num, by omega, trivial⟩
        case measure => simp [intOf]; omega
      | false =>
        have hdc : ((d.toNat : Int) == (c.toNat : Int)) = (d == c) := by
          by_cases e : d = c
          · rw [e]; simp
          · rw [byte_ne e]; simp [e]
        have Hdc := hide hdc
        clear hdc
        go_wp2_with fail
        go_roundw
        case rel => exact ⟨i + 1, by rw [Htk.out, ← Hdc.out]; simp, by go_num, by omega, trivial⟩
        case measure => simp [intOf]; omega
    · have q2 : decide ((i : Int) < (m.length : Int)) = false := by simp; omega
      have hti : m.take i = m := List.take_of_length_le (by omega)
      rw [hti, Hb.out]
      clear hti
      go_wp2_with (refine wpList_convert (.string ⟨#[c]⟩) (run_str1 _ _) ?_)
      refine (H1.out _).mono ?_
      rintro e w3 ⟨rfl, g1⟩
      have G3 := hide (none_trans (only_alloc G2.out _) g1)
      clear g1
      go_wp2_with fail
      refine (H2.out _).mono ?_
      rintro e w4 ⟨rfl, g1⟩
      have G4 := hide (none_trans G3.out g1)
      clear g1
      go_wp2_with fail
      refine (H3.out _).mono ?_
      rintro e w5 ⟨rfl, g1⟩
      have G5 := hide (none_trans G4.out g1)
      clear g1
      go_wp2_with fail
      refine (H4.out _).mono ?_
      rintro e w6 ⟨rfl, g1⟩
      have G6 := hide (none_trans G5.out g1)
      clear g1
      go_wp2_with fail
      refine (H5.out _).mono ?_
      rintro e w7 ⟨rfl, g1⟩
      have G7 := hide (none_trans G6.out g1)
      clear g1
      go_wp2_with fail
      go_ret
      exact ⟨by simp, G7.out⟩

end Go.Proofs.Ytphjafidencdeaa
