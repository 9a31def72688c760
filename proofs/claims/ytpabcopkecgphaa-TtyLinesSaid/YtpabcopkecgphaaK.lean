/- The walk of TtyLines: whatever the texts and the feeds, it answers true. -/
import Derived.Test.YtpabcopkecgphaaJ
namespace Go.Proofs.Ytpabcopkecgphaa
open Go.RowKit

def FeedIs (E : ByteArray) : Prop := E = ⟨#[10]⟩ ∨ E = ⟨#[13]⟩
theorem FeedIs.size {E : ByteArray} (h : FeedIs E) : E.size = 1 := by rcases h with rfl | rfl <;> rfl

set_option maxRecDepth 100000 in
set_option maxHeartbeats 4000000 in
theorem lines_any (a : Option Addr) (len cap : Nat) (hlen : len ≤ 9223372036854775807) (a2 : Option Addr) (len2 cap2 : Nat) (hlen2 : len2 ≤ 9223372036854775807) (w : World) (ha : StrsIn w a len) (hi : BoolsIn w a2 len2) :
    Calls Try.prog 3 #[.slice a len cap, .slice a2 len2 cap2] w fun e w' => e = .returned (.bool true) ∧ Below w.heap.size w w' := by
  have Ha := hide ha
  have Hi := hide hi
  clear ha hi
  go_enter Try.func3, Try.ntmps3
  go_wp2_with (first
    | (go_at_call 9; refine (shown_true _).mono ?_; rintro e w1 ⟨rfl, hg⟩; (have Hg1 := hide hg; clear hg))
    | (go_at_call 10; refine (newEF Hg1.out).mono ?_; rintro e w2 ⟨rfl, h⟩; (have R0 := hide h; clear h)))
  generalize w1.heap.size = bp at *
  go_loopw [7, 8] (fun vw v wr => ∃ (k : Nat) (W : ByteArray), v = .int .i64 k ∧ vw = .string W ∧ k ≤ 50 ∧ W.size ≤ 201 * k ∧ Fresh w wr bp (em W)) (fun _ v _ => 50 - (intOf v).toNat)
  case atStart => exact ⟨0, _, rfl, rfl, by omega, by decide, R0.out⟩
  case round =>
    obtain ⟨k, W, rfl, rfl, hk, hW, hF⟩ := hrel
    clear R0
    by_cases hlt : k < len
    · by_cases hlt2 : k < 50
      · obtain ⟨b, off, s, rfl, hb, hs, c0⟩ := Ha.out k hlt
        have g0 : wr.cell? ⟨b, off + k, none⟩ = some (.string s) := none_cell hF.grown hb c0
        have hbr : b < wr.heap.size := Nat.lt_of_lt_of_le hb hF.grown.size
        have HF := hide hF
        have C0 := hide c0
        clear hF c0
        unfold maxLen at hs
        obtain ⟨wo, rfl⟩ : ∃ wo : World, wo = wr := ⟨_, rfl⟩
        have G0 := hide g0
        clear g0
        have hq : decide ((k : Int) < 50) = true := by simp; omega
        go_wp2_with fail
        go_loopw [9, 10] (fun vs v wi => ∃ (j : Nat) (S : ByteArray), v = .int .i64 j ∧ vs = .string S ∧ j ≤ s.size ∧ j ≤ 200 ∧ S.size ≤ j ∧ ShownS S ∧ wo.grownBy wi none) (fun _ v _ => 200 - (intOf v).toNat)
        case atStart => exact ⟨0, _, rfl, rfl, by omega, by omega, by decide, shownS_nil, only_refl _ _⟩
        case round =>
          obtain ⟨j, S, rfl, rfl, hj, hj2, hS, hSh, hG⟩ := hrel
          have g1 : wr.cell? ⟨b, off + k, none⟩ = some (.string s) := none_cell hG hbr G0.out
          have HSh := hide hSh
          have HG := hide hG
          clear hSh hG
          by_cases h1 : j < s.size
          · by_cases h2 : j < 200
            · rcases shown_ways s[j] with ⟨h0, q1, q2⟩ | ⟨h0, q1, q2⟩ | ⟨h0, q1, q2, q3⟩ | ⟨h0, q1, q3⟩
              · have H0 := hide h0
                clear h0
                go_wp2_with (first | (refine wpList_convert (.string ⟨#[s[j]]⟩) (run_str1 _ _) ?_) | (refine wpList_concat S ⟨#[s[j]]⟩ rfl rfl (by show _ + 1 ≤ _; omega) ?_))
                go_roundw
                case rel => exact ⟨j + 1, _, by go_num, rfl, by omega, by omega, by rw [snoc_size]; omega, shownS_snoc HSh.out H0.out, only_alloc HG.out _⟩
                case measure => simp [intOf]; omega
              · have H0 := hide h0
                clear h0
                go_wp2_with (first | (refine wpList_convert (.string ⟨#[s[j]]⟩) (run_str1 _ _) ?_) | (refine wpList_concat S ⟨#[s[j]]⟩ rfl rfl (by show _ + 1 ≤ _; omega) ?_))
                go_roundw
                case rel => exact ⟨j + 1, _, by go_num, rfl, by omega, by omega, by rw [snoc_size]; omega, shownS_snoc HSh.out H0.out, only_alloc HG.out _⟩
                case measure => simp [intOf]; omega
              all_goals
                clear h0
                go_wp2
                go_roundw
                case rel => exact ⟨j + 1, _, by go_num, rfl, by omega, by omega, by omega, HSh.out, HG.out⟩
                case measure => simp [intOf]; omega
            · have hS2 : S.size ≤ 200 := by omega
              go_upto_region 17 with (fail)
              go_cut [78] (fun v wc => ∃ z : Bool, v = .bool z ∧ wo.grownBy wc none)
              case first =>
                by_cases hf : k < len2
                · obtain ⟨b2, off2, z, rfl, hb2, c2⟩ := Hi.out k hf
                  have g2 : wr.cell? ⟨b2, off2 + k, none⟩ = some (.bool z) := none_cell (only_trans HF.out.grown HG.out) hb2 c2
                  have C2 := hide c2
                  clear c2
                  cases z
                  · go_wp2
                    go_meet
                    case rel => exact ⟨_, rfl, HG.out⟩
                  · go_wp2
                    go_meet
                    case rel => exact ⟨_, rfl, HG.out⟩
                · go_wp2
                  go_meet
                  case rel => exact ⟨_, rfl, HG.out⟩
              case rest =>
                obtain ⟨z, rfl, hGc⟩ := hcut
                have F1 := hide (HF.out.other hGc)
                clear hGc HF HG g1
                cases z
                all_goals
                  go_wp2_with (first
                    | (go_at_call 11; (first | (with_reducible refine (type_lineF F1.out S ⟨#[10]⟩ (.inl rfl) HSh.out (by omega) (by omega)).mono ?_) | (with_reducible refine (type_lineF F1.out S ⟨#[13]⟩ (.inr rfl) HSh.out (by omega) (by omega)).mono ?_)); rintro e w3 ⟨rfl, h⟩; (have F2 := hide h; clear h))
                    | (go_at_call 12; (with_reducible refine (read_lineF F2.out 300 (by omega) (by rw [snoc_size]; omega) (by rw [snoc_size]; omega)).mono ?_); rintro e w4 ⟨rfl, h⟩; (have F3 := hide h; clear h)))
                  go_roundw
                  case rel => exact ⟨k + 1, _, by go_num, rfl, by omega, by rw [snoc_size, ByteArray.size_append]; omega, F3.out⟩
                  case measure => simp [intOf]; omega
          · have hS2 : S.size ≤ 200 := by omega
            go_upto_region 17 with (fail)
            go_cut [78] (fun v wc => ∃ z : Bool, v = .bool z ∧ wo.grownBy wc none)
            case first =>
              by_cases hf : k < len2
              · obtain ⟨b2, off2, z, rfl, hb2, c2⟩ := Hi.out k hf
                have g2 : wr.cell? ⟨b2, off2 + k, none⟩ = some (.bool z) := none_cell (only_trans HF.out.grown HG.out) hb2 c2
                have C2 := hide c2
                clear c2
                cases z
                · go_wp2
                  go_meet
                  case rel => exact ⟨_, rfl, HG.out⟩
                · go_wp2
                  go_meet
                  case rel => exact ⟨_, rfl, HG.out⟩
              · go_wp2
                go_meet
                case rel => exact ⟨_, rfl, HG.out⟩
            case rest =>
              obtain ⟨z, rfl, hGc⟩ := hcut
              have F1 := hide (HF.out.other hGc)
              clear hGc HF HG g1
              cases z
              all_goals
                go_wp2_with (first
                  | (go_at_call 11; (first | (with_reducible refine (type_lineF F1.out S ⟨#[10]⟩ (.inl rfl) HSh.out (by omega) (by omega)).mono ?_) | (with_reducible refine (type_lineF F1.out S ⟨#[13]⟩ (.inr rfl) HSh.out (by omega) (by omega)).mono ?_)); rintro e w3 ⟨rfl, h⟩; (have F2 := hide h; clear h))
                  | (go_at_call 12; (with_reducible refine (read_lineF F2.out 300 (by omega) (by rw [snoc_size]; omega) (by rw [snoc_size]; omega)).mono ?_); rintro e w4 ⟨rfl, h⟩; (have F3 := hide h; clear h)))
                go_roundw
                case rel => exact ⟨k + 1, _, by go_num, rfl, by omega, by rw [snoc_size, ByteArray.size_append]; omega, F3.out⟩
                case measure => simp [intOf]; omega
      · have : k = 50 := by omega
        subst this
        have HF := hide hF
        clear hF
        go_wp2_with (first
          | (go_at_call 12; (with_reducible refine (read_noneF HF.out 300 (by omega)).mono ?_); rintro e w3 ⟨rfl, h⟩; (have F3 := hide h; clear h))
          | (go_at_call 13; (with_reducible refine (screen_eF F3.out).mono ?_); rintro e w4 ⟨rfl, h⟩; (have F4 := hide h; clear h)))
        go_ret
        exact ⟨rfl, below_of_none F4.out.grown⟩
    · have HF := hide hF
      clear hF
      go_wp2_with (first
        | (go_at_call 12; (with_reducible refine (read_noneF HF.out 300 (by omega)).mono ?_); rintro e w3 ⟨rfl, h⟩; (have F3 := hide h; clear h))
        | (go_at_call 13; (with_reducible refine (screen_eF F3.out).mono ?_); rintro e w4 ⟨rfl, h⟩; (have F4 := hide h; clear h)))
      go_ret
      exact ⟨rfl, below_of_none F4.out.grown⟩

end Go.Proofs.Ytpabcopkecgphaa
