/- The walk of TtyPlays: whatever the steps, it answers true. -/
import Derived.Test.YtpabcopkecgphaaV
namespace Go.Proofs.Ytpabcopkecgphaa
open Go.RowKit

theorem Mix.start {w0 w : World} {bt : Nat} (h : Fresh w0 w bt ts0) : Mix w0 (w.alloc (.cells #[.slice none 0 0, .string ⟨#[]⟩, .bool false, .string ⟨#[]⟩] 46)) bt w.heap.size ts0 ts0 := by
  obtain ⟨S, h1, h2, h3⟩ := h
  refine ⟨S, rOwn w.heap.size (.slice none 0 0), h1.chg ((Chg.refl nobody w).alloc _) (fun _ _ e => e), ⟨.slice none 0 0, ⟨Blk.new w 46 _, Own.nil _ _ _ _, by simp [Value.ownBlock]⟩, rfl⟩, ?_, h2, ?_, only_alloc h3 _⟩
  · intro k hk ht
    rcases ht with rfl | ht
    · exact Nat.lt_irrefl _ (h1.lt hk)
    · simp [Value.ownBlock] at ht
  · intro k ht
    rcases ht with rfl | ht
    · exact h3.size
    · simp [Value.ownBlock] at ht

theorem echoes_mix {w0 w : World} {bt br : Nat} {s1 s2 : TS} (h : Mix w0 w bt br s1 s2) : Calls Try.prog 20 #[.pointer (some ⟨bt, 0, none⟩)] w fun e w' => e = .returned (.bool (!s1.silent)) ∧ w' = w := by
  obtain ⟨S, T, h1, _⟩ := h
  exact echoes_any h1

set_option maxRecDepth 100000 in
set_option maxHeartbeats 4000000 in
theorem plays_any (a : Option Addr) (len cap : Nat) (hlen : len ≤ 9223372036854775807) (w : World) (ha : OpsIn w a len) :
    Calls Try.prog 8 #[.slice a len cap] w fun e w' => e = .returned (.bool true) ∧ Below w.heap.size w w' := by
  have Ha := hide ha
  clear ha
  go_enter Try.func8, Try.ntmps8
  go_wp2_with fail
  go_at_call 9
  refine (shown_true _).mono ?_
  rintro e w1 ⟨rfl, hg⟩
  have Hg1 := hide hg
  clear hg
  go_wp2_with fail
  go_at_call 10
  refine (newF Hg1.out).mono ?_
  rintro e w2 ⟨rfl, h⟩
  have R0 := hide (Mix.start h)
  clear h Hg1
  generalize w1.heap.size = bt at R0 ⊢
  go_wp2_with fail
  generalize w2.heap.size = br at R0 ⊢
  go_loopw [6] (fun v wr => ∃ (k : Nat) (st : TS), v = .int .i64 k ∧ k ≤ 100 ∧ Mix w wr bt br st st ∧ st.Inv ∧ st.screen.length ≤ 2400000 * k) (fun v _ => 100 - (intOf v).toNat)
  case atStart => exact ⟨0, ts0, rfl, by omega, R0.out, inv0, by decide⟩
  case round =>
    obtain ⟨k, st, rfl, hk, hM, hi, hsc⟩ := hrel
    clear R0
    by_cases hlt : k < len ∧ k < 100
    · obtain ⟨hlt, hlt2⟩ := hlt
      obtain ⟨b, off, K, n, s, on, rfl, hb, hK, hn, hs, c0, c1, c2, c3⟩ := Ha.out k hlt
      have d0 := none_cell hM.grown hb c0
      have d1 := none_cell hM.grown hb c1
      have d2 := none_cell hM.grown hb c2
      have d3 := none_cell hM.grown hb c3
      have q1 : decide ((k : Int) < len) = true := by simp; omega
      have q3 : decide ((k : Int) < 100) = true := by simp; omega
      have HM := hide hM
      have Hi := hide hi
      have Hs := hide hs
      clear hM hi hs c0 c1 c2 c3 hK hn
      go_wp2_with fail
      go_at_call 18
      refine (does_any HM.out Hi.out (2400000 * k) hsc (by omega) K n s Hs.out on).mono ?_
      rintro e w3 ⟨rfl, st', hM, hi', hsc'⟩
      have M3 := hide hM
      have Hi3 := hide hi'
      clear hM hi' HM Hi d0 d1 d2 d3
      go_wp2_with fail
      go_at_call 17
      refine (M3.out.tty fun S h => unread_any h).mono ?_
      rintro e w4 ⟨rfl, hM⟩
      have M4 := hide hM
      clear hM M3
      go_wp2_with fail
      go_at_call 19
      refine (M4.out.ref fun T h => runread_any h Hi3.out).mono ?_
      rintro e w5 ⟨rfl, hM⟩
      have M5 := hide hM
      obtain ⟨c2, c3⟩ := hM.cells
      clear hM M4
      obtain ⟨sl, hsl⟩ : ∃ sl, sl = st'.silent := ⟨_, rfl⟩
      rw [← hsl] at c2
      have Hsl := hide hsl
      clear hsl
      cases sl
      · go_wp2_with fail
        go_region_held3 (fun w' => w'.cell? ⟨br, 2, none⟩ = some (.bool false) ∧ w'.cell? ⟨br, 3, none⟩ = some (.string ⟨st'.screen.toArray⟩)) (first | go_keep | (have hq := M6.out.cells; rw [← Hsl.out] at hq; exact hq))
          (first
            | (go_at_call 20; refine (echoes_mix (M5.out.gr (only_drew (only_refl _ none)))).mono ?_; rw [← Hsl.out]; rintro e w' ⟨rfl, rfl⟩)
            | (go_at_call 13; refine ((M5.out.gr (only_drew (only_refl _ none))).tty fun S h => screen_any h).mono ?_; rintro e w6 ⟨rfl, hM⟩; (have M6 := hide hM; clear hM)))
        go_wp2
        go_roundw
        case rel => exact ⟨k + 1, st', by go_num, by omega, M6.out, Hi3.out, by omega⟩
        case measure => simp [intOf]; omega
      · go_wp2_with fail
        go_region_held3 (fun w' => w'.cell? ⟨br, 2, none⟩ = some (.bool true) ∧ w'.cell? ⟨br, 3, none⟩ = some (.string ⟨st'.screen.toArray⟩)) (first | go_keep | (have hq := M6.out.cells; rw [← Hsl.out] at hq; exact hq))
          (first
            | (go_at_call 20; refine (echoes_mix (M5.out.gr (only_drew (only_refl _ none)))).mono ?_; rw [← Hsl.out]; rintro e w' ⟨rfl, rfl⟩)
            | (go_at_call 13; refine ((M5.out.gr (only_drew (only_refl _ none))).tty fun S h => screen_any h).mono ?_; rintro e w6 ⟨rfl, hM⟩; (have M6 := hide hM; clear hM)))
        go_wp2
        go_roundw
        case rel => exact ⟨k + 1, st', by go_num, by omega, M6.out, Hi3.out, by omega⟩
        case measure => simp [intOf]; omega
    · by_cases hlt2 : k < len
      all_goals
        go_wp2
        go_ret
        exact ⟨rfl, below_of_none hM.grown⟩

end Go.Proofs.Ytpabcopkecgphaa
