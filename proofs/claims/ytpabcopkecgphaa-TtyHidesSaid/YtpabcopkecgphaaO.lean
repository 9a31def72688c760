/- The walk of TtyHides: whatever the texts and the numbers, it answers true. -/
import Derived.Test.YtpabcopkecgphaaN
namespace Go.Proofs.Ytpabcopkecgphaa
open Go.RowKit

set_option maxRecDepth 100000 in
set_option maxHeartbeats 4000000 in
theorem hides_any (ah : ByteArray) (hah : ah.size ≤ maxLen) (a : Option Addr) (len cap : Nat) (hlen : len ≤ 9223372036854775807) (a2 : Option Addr) (len2 cap2 : Nat) (hlen2 : len2 ≤ 9223372036854775807) (w : World) (ha : StrsIn w a len) (hi : IntsIn w a2 len2) :
    Calls Try.prog 6 #[.string ah, .slice a len cap, .slice a2 len2 cap2] w fun e w' => e = .returned (.bool true) ∧ Below w.heap.size w w' := by
  have Ha := hide ha
  have Hi := hide hi
  have Hah := hide hah
  clear ha hi hah
  go_enter Try.func6, Try.ntmps6
  go_wp2_with fail
  go_at_call 9
  refine (shown_true _).mono ?_
  rintro e w1 ⟨rfl, hg⟩
  have Hg1 := hide hg
  clear hg
  go_wp2_with fail
  go_at_call 10
  refine (newEF Hg1.out).mono ?_
  rintro e w2 ⟨rfl, h⟩
  have R0 := hide h
  clear h
  generalize w1.heap.size = bp at *
  go_wp2_with fail
  go_at_call 15
  refine (short_any ah Hah.out 3000 (by omega) _).mono ?_
  rintro e w3 ⟨s0, rfl, hs0, rfl⟩
  go_wp2_with fail
  go_at_call 11
  refine (hide_type R0.out s0 hs0).mono ?_
  rintro e w4 ⟨rfl, st, h, hst, hsc⟩
  have R1 := hide h
  have Hst := hide hst
  clear h hst R0
  go_wp2_with fail
  go_at_call 16
  refine (hide_off R1.out Hst.out).mono ?_
  rintro e w5 ⟨rfl, h⟩
  have R2 := hide h
  clear h
  go_wp2_with fail
  go_at_call 13
  refine (hide_was R2.out hsc).mono ?_
  rintro e w6 ⟨was, rfl, hwas, h⟩
  have R3 := hide h
  clear h R1 R2 Hst hsc
  go_wp2_with fail
  go_at_call 17
  refine (unread_off R3.out).mono ?_
  rintro e w7 ⟨rfl, h⟩
  have R4 := hide h
  clear h R3
  go_wp2_with fail
  go_loopw [12] (fun v wr => ∃ k : Nat, v = .int .i64 k ∧ k ≤ 40 ∧ DarkF w wr bp was (500 * k)) (fun v _ => 40 - (intOf v).toNat)
  case atStart => exact ⟨0, rfl, by omega, R4.out⟩
  case round =>
    obtain ⟨k, rfl, hk, hF⟩ := hrel
    clear R4
    by_cases hlt : k < len ∧ k < 40
    · obtain ⟨hlt, hlt2⟩ := hlt
      obtain ⟨b, off, s, rfl, hb, hs, c0⟩ := Ha.out k hlt
      have g0 : wr.cell? ⟨b, off + k, none⟩ = some (.string s) := none_cell hF.grown hb c0
      have HF := hide hF
      have Hs := hide hs
      clear hF c0 hs
      have q1 : decide ((k : Int) < len) = true := by simp; omega
      have q3 : decide ((k : Int) < 40) = true := by simp; omega
      go_wp2_with fail
      go_at_call 15
      refine (short_any s Hs.out 500 (by omega) _).mono ?_
      rintro e w8 ⟨s1, rfl, hs1, rfl⟩
      go_wp2_with fail
      go_at_call 11
      refine (hide_type2 HF.out hwas (by omega) s1 hs1).mono ?_
      rintro e w9 ⟨rfl, h⟩
      have F2 := hide h
      clear h HF g0
      by_cases hr : k < len2
      · obtain ⟨b2, off2, z, rfl, hb2, hz, c2⟩ := Hi.out k hr
        have g2 : w9.cell? ⟨b2, off2 + k, none⟩ = some (.int .i64 z) := none_cell F2.out.grown hb2 c2
        clear c2 hz
        go_wp2_with fail
        go_at_call 12
        refine (hide_read F2.out z).mono ?_
        rintro e w10 ⟨t, ok, rfl, h⟩
        have F3 := hide h
        clear h F2 g2
        go_wp2
        go_roundw
        case rel => exact ⟨k + 1, by go_num, by omega, F3.out.mono (by omega)⟩
        case measure => simp [intOf]; omega
      · go_wp2
        go_roundw
        case rel => exact ⟨k + 1, by go_num, by omega, F2.out.mono (by omega)⟩
        case measure => simp [intOf]; omega
    · have HF := hide hF
      clear hF
      by_cases hlt2 : k < len
      all_goals
        go_wp2_with fail
        go_at_call 13
        refine (hide_now HF.out hwas (by omega)).mono ?_
        rintro e w8 ⟨now, rfl, hnow, st, h, hst, hsc⟩
        have F2 := hide h
        have Hst := hide hst
        have Hsc := hide hsc
        have n1 := hnow.le
        have n2 := hnow.le2
        have n3 := hnow.head
        have n4 := hide hnow.tail
        clear h hst hsc hnow HF hlt
        go_wp2_with fail
        clear n3
        go_loopw [14] (fun v wr => ∃ j : Nat, v = .int .i64 j ∧ was.size ≤ j ∧ j ≤ now.size ∧ wr = w8) (fun v _ => now.size - (intOf v).toNat)
        case atStart => exact ⟨_, rfl, by omega, by omega, rfl⟩
        case round =>
          obtain ⟨j, rfl, hj1, hj2, rfl⟩ := hrel
          by_cases hlt3 : j < now.size
          · have q := n4.out j hlt3 hj1
            have q1 : ((now[j].toNat : Int) != 10) = false := by rw [q]; rfl
            clear q
            go_wp2
            go_roundw
            case rel => exact ⟨j + 1, by go_num, by omega, by omega, trivial⟩
            case measure => simp [intOf]; omega
          · go_wp2_with (first
              | (go_at_call 16; (with_reducible refine (hide_on F2.out Hst.out Hsc.out).mono ?_); rintro e w9 ⟨rfl, h⟩; (have F3 := hide h; clear h))
              | (go_at_call 17; (with_reducible refine (unread_em F3.out).mono ?_); rintro e w10 ⟨rfl, h⟩; (have F4 := hide h; clear h))
              | (go_at_call 12; (with_reducible refine (read_noneF F4.out 99 (by omega)).mono ?_); rintro e w11 ⟨rfl, h⟩; (have F5 := hide h; clear h))
              | (go_at_call 13; (with_reducible refine (screen_eF F5.out).mono ?_); rintro e w12 ⟨rfl, h⟩; (have F6 := hide h; clear h)))
            go_ret
            exact ⟨rfl, below_of_none F6.out.grown⟩

end Go.Proofs.Ytpabcopkecgphaa
