/- The law on Has, Plain, Quote. -/
import Derived.Test.YtphjafidencdeaaW
namespace Go.Proofs.Ytphjafidencdeaa
open Go.RowKit
set_option maxRecDepth 100000

set_option maxHeartbeats 2000000 in
theorem tells_any (s : List UInt8) (w : World) : Calls Try.prog 6 #[sv s] w fun e w' => e = .returned (.bool true) ∧ w.grownBy w' none := by
  have Hsh := hide (fun w' => shown_any w')
  have z1 := sz s
  by_cases hbig : 2000 < s.length
  · unfold sv
    have q1 : decide ((2000 : Int) < (s.length : Int)) = true := by simp; omega
    go_enter Try.func6, Try.ntmps6
    go_wp2_with fail
    refine (Hsh.out _).mono ?_
    rintro e w1 ⟨rfl, g1⟩
    have G1 := hide g1
    clear g1
    go_wp2_with fail
    go_ret
    exact ⟨rfl, G1.out⟩
  have q1 : decide ((2000 : Int) < (s.length : Int)) = false := by simp; omega
  have h1 := fun w => has_calls s w (by omega)
  have h2 := fun w => rhas_any s w (by omega)
  have h3 := fun w => plain_any s w (by omega)
  have h4 := fun w => rplain_any s w (by omega)
  have h5 := fun w => quote_any s w (by omega)
  have h6 := fun w => rquote_any s w (by omega)
  obtain ⟨b, hb⟩ : ∃ b, hasF s = b := ⟨_, rfl⟩
  obtain ⟨x, hx⟩ : ∃ x, plainF s = x := ⟨_, rfl⟩
  obtain ⟨y, hy⟩ : ∃ y, quoteF s = y := ⟨_, rfl⟩
  rw [hb] at h1 h2
  rw [hx] at h3 h4
  rw [hy] at h5 h6
  have hbb : (b == b) = true := by simp
  unfold sv at h1 h2 h3 h4 h5 h6 ⊢
  have H1 := hide h1
  have H2 := hide h2
  have H3 := hide h3
  have H4 := hide h4
  have H5 := hide h5
  have H6 := hide h6
  clear h1 h2 h3 h4 h5 h6 hb hx hy
  go_enter Try.func6, Try.ntmps6
  go_wp2_with fail
  refine (Hsh.out _).mono ?_
  rintro e w1 ⟨rfl, g1⟩
  have G1 := hide g1
  clear g1
  go_wp2_with fail
  refine (H1.out _).mono ?_
  rintro e w2 ⟨rfl, g1⟩
  have G2 := hide (none_trans G1.out g1)
  clear g1
  go_wp2_with fail
  refine (H2.out _).mono ?_
  rintro e w3 ⟨rfl, g1⟩
  have G3 := hide (none_trans G2.out g1)
  clear g1
  go_wp2_with fail
  refine (H3.out _).mono ?_
  rintro e w4 ⟨rfl, g1⟩
  have G4 := hide (none_trans G3.out g1)
  clear g1
  go_wp2_with fail
  refine (H4.out _).mono ?_
  rintro e w5 ⟨rfl, rfl⟩
  go_wp2_with fail
  refine (H5.out _).mono ?_
  rintro e w6 ⟨rfl, g1⟩
  have G6 := hide (none_trans G4.out g1)
  clear g1
  go_wp2_with fail
  refine (H6.out _).mono ?_
  rintro e w7 ⟨rfl, rfl⟩
  go_wp2_with fail
  go_ret
  exact ⟨by simp, G6.out⟩

end Go.Proofs.Ytphjafidencdeaa
