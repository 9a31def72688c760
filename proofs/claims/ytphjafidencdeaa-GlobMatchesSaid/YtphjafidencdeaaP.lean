/- The laws on quoted texts and on marks. -/
import Derived.Test.YtphjafidencdeaaO
namespace Go.Proofs.Ytphjafidencdeaa
open Go.RowKit
set_option maxRecDepth 100000

theorem dot_quote (s : List UInt8) : dotNo (quoteF s) s true = false := by
  unfold dotNo
  by_cases h : s.take 1 = [46]
  · match s, h with
    | c :: r, h =>
      have hc : c = 46 := by
        simp at h
        exact h
      subst hc
      have : (quoteF (46 :: r)).take 1 = [46] := by
        show (quote1 46 ++ quoteF r).take 1 = _
        rw [show quote1 46 = [46] from by decide]
        rfl
      rw [this]
      simp
  · rw [decide_eq_false h]
    rfl

set_option maxHeartbeats 2000000 in
theorem quotes_any (s t : List UInt8) (w : World) : Calls Try.prog 7 #[sv s, sv t] w fun e w' => e = .returned (.bool true) ∧ w.grownBy w' none := by
  have Hsh := hide (fun w' => shown_any w')
  have z1 := sz s
  have z2 := sz t
  by_cases hbig : 2000 < s.length ∨ 2000 < t.length
  · unfold sv
    by_cases h1 : 2000 < s.length
    · have q1 : decide ((2000 : Int) < (s.length : Int)) = true := by simp; omega
      go_enter Try.func7, Try.ntmps7
      go_wp2_with fail
      refine (Hsh.out _).mono ?_
      rintro e w1 ⟨rfl, g1⟩
      have G1 := hide g1
      clear g1
      go_wp2_with fail
      go_ret
      exact ⟨rfl, G1.out⟩
    · have q1 : decide ((2000 : Int) < (s.length : Int)) = false := by simp; omega
      have q2 : decide ((2000 : Int) < (t.length : Int)) = true := by simp; omega
      go_enter Try.func7, Try.ntmps7
      go_wp2_with fail
      refine (Hsh.out _).mono ?_
      rintro e w1 ⟨rfl, g1⟩
      have G1 := hide g1
      clear g1
      go_wp2_with fail
      go_ret
      exact ⟨rfl, G1.out⟩
  · have q1 : decide ((2000 : Int) < (s.length : Int)) = false := by simp; omega
    have q2 : decide ((2000 : Int) < (t.length : Int)) = false := by simp; omega
    have hl := quoteF_len s
    obtain ⟨b, hb⟩ : ∃ b, (s == t) = b := ⟨_, rfl⟩
    have hbt : b = true ↔ t = s := by
      rw [← hb, beq_iff_eq]
      exact eq_comm
    have hst : (b == (s == t)) = true := by rw [hb]; simp
    have h1 := fun w => quote_any s w (by omega)
    have h2 := fun w => match_free (quoteF s) t b w (by omega) (by omega) (hbt.trans (ma_quote s t).symm)
    have h3 := fun w => has_calls (quoteF s) w (by omega)
    have h4 := fun w => plain_any (quoteF s) w (by omega)
    have h5 := fun w => match_val (quoteF s) s true true w (by omega) (by omega) (yes ⟨dot_quote s, (ma_quote s s).2 rfl⟩)
    have e3 : hasF (quoteF s) = false := hasL_quote s
    rw [e3] at h3
    rw [plain_quote] at h4
    obtain ⟨q, hq0⟩ : ∃ q, quoteF s = q := ⟨_, rfl⟩
    rw [hq0] at h1 h2 h3 h4 h5
    unfold sv at h1 h2 h3 h4 h5 ⊢
    have H1 := hide h1
    have H2 := hide h2
    have H3 := hide h3
    have H4 := hide h4
    have H5 := hide h5
    clear h1 h2 h3 h4 h5 hq0 e3 hbt hb
    go_enter Try.func7, Try.ntmps7
    go_wp2_with fail
    refine (Hsh.out _).mono ?_
    rintro e w1 ⟨rfl, g1⟩
    have G1 := hide g1
    clear g1
    go_wp2_with fail
    refine (H1.out _).mono ?_
    rintro e w2 ⟨rfl, g1⟩
    have G2 := hide (none_trans G1.out g1)
    clear g1
    go_wp2_with fail
    refine (H2.out _).mono ?_
    rintro e w3 ⟨rfl, g1⟩
    have G3 := hide (none_trans G2.out g1)
    clear g1
    go_wp2_with fail
    refine (H3.out _).mono ?_
    rintro e w4 ⟨rfl, g1⟩
    have G4 := hide (none_trans G3.out g1)
    clear g1
    go_wp2_with fail
    refine (H4.out _).mono ?_
    rintro e w5 ⟨rfl, g1⟩
    have G5 := hide (none_trans G4.out g1)
    clear g1
    go_wp2_with fail
    refine (H5.out _).mono ?_
    rintro e w6 ⟨rfl, g1⟩
    have G6 := hide (none_trans G5.out g1)
    clear g1
    go_wp2_with fail
    go_ret
    exact ⟨by simp, G6.out⟩

end Go.Proofs.Ytphjafidencdeaa
