/- The walk of TtyEnds: whatever the texts and the feeds, it answers true. -/
import Derived.Test.YtpabcopkecgphaaJ
namespace Go.Proofs.Ytpabcopkecgphaa
open Go.RowKit

set_option maxRecDepth 100000 in
set_option maxHeartbeats 4000000 in
theorem ends_any (a : Option Addr) (len cap : Nat) (hlen : len ≤ 9223372036854775807) (a2 : Option Addr) (len2 cap2 : Nat) (hlen2 : len2 ≤ 9223372036854775807) (w : World) (ha : StrsIn w a len) (hi : BoolsIn w a2 len2) :
    Calls Try.prog 5 #[.slice a len cap, .slice a2 len2 cap2] w fun e w' => e = .returned (.bool true) ∧ Below w.heap.size w w' := by
  have Ha := hide ha
  have Hi := hide hi
  clear ha hi
  go_enter Try.func5, Try.ntmps5
  go_wp2_with (first
    | (go_at_call 9; refine (shown_true _).mono ?_; rintro e w1 ⟨rfl, hg⟩; (have Hg1 := hide hg; clear hg))
    | (go_at_call 10; refine (newEF Hg1.out).mono ?_; rintro e w2 ⟨rfl, h⟩; (have R0 := hide h; clear h)))
  generalize w1.heap.size = bp at *
  go_loopw [7] (fun v wr => ∃ (k : Nat) (W : ByteArray), v = .int .i64 k ∧ k ≤ 40 ∧ W.size ≤ 201 * k ∧ Fresh w wr bp (em W)) (fun v _ => 40 - (intOf v).toNat)
  case atStart => exact ⟨0, ⟨#[]⟩, rfl, by omega, by decide, R0.out⟩
  case round =>
    obtain ⟨k, W, rfl, hk, hW, hF⟩ := hrel
    clear R0
    have HF := hide hF
    by_cases hlt : k < len
    · by_cases hlt1 : k < len2
      · by_cases hlt2 : k < 40
        · obtain ⟨b, off, s, rfl, hb, hs, c0⟩ := Ha.out k hlt
          obtain ⟨b2, off2, z, rfl, hb2, c2⟩ := Hi.out k hlt1
          have g0 : wr.cell? ⟨b, off + k, none⟩ = some (.string s) := none_cell hF.grown hb c0
          have g1 : wr.cell? ⟨b2, off2 + k, none⟩ = some (.bool z) := none_cell hF.grown hb2 c2
          have Hs := hide hs
          clear hF c0 c2 hs
          have q1 : decide ((k : Int) < len) = true := by simp; omega
          have q2 : decide ((k : Int) < len2) = true := by simp; omega
          have q3 : decide ((k : Int) < 40) = true := by simp; omega
          go_wp2_with fail
          go_at_call 14
          refine (shows14 s Hs.out _).mono ?_
          rintro e w3 ⟨S, rfl, hS, hSh, n3, rfl⟩
          have HSh := hide hSh
          have F1 := hide (HF.out.other (only_drewN (only_refl wr none) n3))
          clear hSh HF
          cases z
          · go_wp2_with fail
            go_at_call 11
            refine (type_endF F1.out S _ rfl HSh.out hS (by omega)).mono ?_
            rintro e w4 ⟨rfl, h⟩
            have F2 := hide h
            clear h F1
            go_wp2_with fail
            go_at_call 12
            refine (read_lineF F2.out 999 (by omega) (by omega) (by omega)).mono ?_
            rintro e w5 ⟨rfl, h⟩
            have F3 := hide h
            clear h F2
            go_wp2_with fail
            go_at_call 12
            refine (read_noneF F3.out 999 (by omega)).mono ?_
            rintro e w6 ⟨rfl, h⟩
            have F4 := hide h
            clear h F3
            go_wp2
            go_roundw
            case rel => exact ⟨k + 1, _, by go_num, by omega, by rw [ByteArray.size_append]; omega, F4.out⟩
            case measure => simp [intOf]; omega
          · go_wp2_with fail
            go_at_call 11
            refine (type_lineF F1.out S _ (.inl rfl) HSh.out hS (by omega)).mono ?_
            rintro e w4 ⟨rfl, h⟩
            have F2 := hide h
            clear h F1
            go_wp2_with fail
            go_at_call 12
            refine (read_lineF F2.out 999 (by omega) (by rw [snoc_size]; omega) (by rw [snoc_size]; omega)).mono ?_
            rintro e w5 ⟨rfl, h⟩
            have F3 := hide h
            clear h F2
            go_wp2_with fail
            go_at_call 12
            refine (read_noneF F3.out 999 (by omega)).mono ?_
            rintro e w6 ⟨rfl, h⟩
            have F4 := hide h
            clear h F3
            go_wp2
            go_roundw
            case rel => exact ⟨k + 1, _, by go_num, by omega, by rw [snoc_size, ByteArray.size_append]; omega, F4.out⟩
            case measure => simp [intOf]; omega
        · go_wp2
          go_ret
          exact ⟨rfl, below_of_none HF.out.grown⟩
      · go_wp2
        go_ret
        exact ⟨rfl, below_of_none HF.out.grown⟩
    · go_wp2
      go_ret
      exact ⟨rfl, below_of_none HF.out.grown⟩

end Go.Proofs.Ytpabcopkecgphaa
