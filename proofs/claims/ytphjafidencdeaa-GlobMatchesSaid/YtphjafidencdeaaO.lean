/- Match in one contract; shown; the law on quoted texts. -/
import Derived.Test.YtphjafidencdeaaJ
namespace Go.Proofs.Ytphjafidencdeaa
open Go.RowKit
set_option maxRecDepth 100000

theorem match_val (p s : List UInt8) (dot b : Bool) (w : World) (hp : p.length ≤ 1000000) (hs : s.length ≤ 9223372036854775807) (hb : b = true ↔ dotNo p s dot = false ∧ Ma ((partsF p).map kd) s) :
    Calls Try.prog 10 #[sv p, sv s, .bool dot] w fun e w' => e = .returned (.bool b) ∧ w.grownBy w' none := by
  cases hd : dotNo p s dot with
  | true =>
    refine (match_dot p s dot w hp hs hd).mono ?_
    rintro e w' ⟨rfl, rfl⟩
    have : b = false := by
      cases b with
      | false => rfl
      | true => have := (hb.1 rfl).1; rw [hd] at this; cases this
    exact ⟨by rw [this], only_refl _ _⟩
  | false =>
    refine (match_walk p s dot w hp hs hd).mono ?_
    rintro e w' ⟨⟨c, rfl, hc⟩, hg⟩
    have : b = c := by
      rw [Bool.eq_iff_iff, hb, hc]
      exact ⟨fun h => h.2, fun h => ⟨hd, h⟩⟩
    exact ⟨by rw [this], hg⟩
theorem dotNo_false (p s : List UInt8) : dotNo p s false = false := rfl
theorem match_free (p s : List UInt8) (b : Bool) (w : World) (hp : p.length ≤ 1000000) (hs : s.length ≤ 9223372036854775807) (hb : b = true ↔ Ma ((partsF p).map kd) s) :
    Calls Try.prog 10 #[sv p, sv s, .bool false] w fun e w' => e = .returned (.bool b) ∧ w.grownBy w' none :=
  match_val p s false b w hp hs (hb.trans ⟨fun h => ⟨rfl, h⟩, fun h => h.2⟩)

/-! ### shown -/
theorem parts_lit {c : UInt8} (h : c ≠ 92 ∧ c ≠ 42 ∧ c ≠ 63 ∧ c ≠ 91) (r : List UInt8) : partsF (c :: r) = lit c :: partsF r := by
  rw [partsF_cons (by simp), stepP_lit (quo_ne h.1 r) (.inr h.2)]
  rfl
theorem lit_of {c : UInt8} {L : List Kd} {s : List UInt8} (h : Ma L s) : Ma (kd (lit c) :: L) (c :: s) := by
  rw [kd_lit]
  exact .one (by simp) h
theorem sh1 : Ma ((partsF [97, 42, 46, 99]).map kd) [97, 98, 46, 99] := by
  rw [parts_lit (by decide), parts_star, parts_lit (by decide), parts_lit (by decide), partsF_nil]
  exact lit_of (.star [98] (lit_of (lit_of .nil)))
theorem sh2s : setF [33, 97, 45, 99, 93, 120] = (⟨false, true, (addR Ws.zero 97 99).inv⟩, 5) := by
  have h : setGo addR [33, 97, 45, 99, 93, 120] 1 1 Ws.zero = some (addR Ws.zero 97 99, 5) := by
    rw [setGo_range (by decide) (by decide) (by decide)]
    show setGo addR [33, 97, 45, 99, 93, 120] 1 4 (addR Ws.zero 97 99) = _
    rw [setGo_close (by decide) (by decide)]
  unfold setF
  rw [show notB [33, 97, 45, 99, 93, 120] = true from rfl, if_pos rfl, h]
  rfl
theorem sh2 : Ma ((partsF [91, 33, 97, 45, 99, 93, 120]).map kd) [100, 120] := by
  have hs : stepP [91, 33, 97, 45, 99, 93, 120] = (⟨false, true, (addR Ws.zero 97 99).inv⟩, 6) := by
    unfold stepP
    rw [quo_ne (by decide)]
    show (if 0 < (setF [33, 97, 45, 99, 93, 120]).2 then ((setF [33, 97, 45, 99, 93, 120]).1, 1 + (setF [33, 97, 45, 99, 93, 120]).2) else _) = _
    rw [sh2s]
    rfl
  rw [partsF_cons (by simp), hs]
  show Ma (kd _ :: (partsF [120]).map kd) _
  rw [parts_lit (by decide), partsF_nil]
  exact .one (by decide) (lit_of .nil)
theorem sh3 : Ma ((partsF [91, 93, 93]).map kd) [93] := by
  have h : setGo addR [93, 93] 0 0 Ws.zero = some (addR Ws.zero 93 93, 2) := by
    rw [setGo_one (by decide) (by decide) (by decide)]
    show setGo addR [93, 93] 0 1 (addR Ws.zero 93 93) = _
    rw [setGo_close (by decide) (by decide)]
  have h2 : setF [93, 93] = (⟨false, true, addR Ws.zero 93 93⟩, 2) := by
    unfold setF
    rw [show notB [93, 93] = false from rfl, if_neg Bool.false_ne_true, h]
    rfl
  rw [parts_set h2 (by decide)]
  exact .one (by decide) .nil
theorem sh4 : Ma ((partsF [92, 42]).map kd) [42] := by
  rw [show ([92, 42] : List UInt8) = quoteF [42] from by decide]
  exact (ma_quote _ _).2 rfl
theorem sh6p : partsF [91, 97, 98] = [lit 91, lit 97, lit 98] := by
  have h : setGo addR [97, 98] 0 0 Ws.zero = none := by
    rw [setGo_one (by decide) (by decide) (by decide)]
    show setGo addR [97, 98] 0 1 _ = _
    rw [setGo_one (by decide) (by decide) (by decide)]
    show setGo addR [97, 98] 0 2 _ = _
    rw [setGo_end (by decide)]
  have h2 : setF [97, 98] = (pt0, 0) := by
    unfold setF
    rw [show notB [97, 98] = false from rfl, if_neg Bool.false_ne_true, h]
  have hs : stepP [91, 97, 98] = (lit 91, 1) := by
    unfold stepP
    rw [quo_ne (by decide)]
    show (if 0 < (setF [97, 98]).2 then ((setF [97, 98]).1, 1 + (setF [97, 98]).2) else _) = _
    rw [h2]
    rfl
  rw [partsF_cons (by simp), hs]
  show lit 91 :: partsF [97, 98] = _
  rw [parts_lit (by decide), parts_lit (by decide), partsF_nil]
theorem sh6 : Ma ((partsF [91, 97, 98]).map kd) [91, 97, 98] := by
  rw [sh6p]
  exact lit_of (lit_of (lit_of .nil))
theorem sh7 : hasF [91, 97, 98] = false := by
  unfold hasF
  rw [sh6p]
  rfl
theorem yes {P : Prop} (h : P) : true = true ↔ P := ⟨fun _ => h, fun _ => rfl⟩
theorem no {P : Prop} (h : ¬ P) : false = true ↔ P := by
  constructor
  · intro e
    cases e
  · intro e
    exact (h e).elim

set_option maxHeartbeats 1000000 in
theorem shown_any (w : World) : Calls Try.prog 9 #[] w fun e w' => e = .returned (.bool true) ∧ w.grownBy w' none := by
  have h1 := fun w => match_val [97, 42, 46, 99] [97, 98, 46, 99] true true w (by decide) (by decide) (yes ⟨by decide, sh1⟩)
  have h2 := fun w => match_val [91, 33, 97, 45, 99, 93, 120] [100, 120] true true w (by decide) (by decide) (yes ⟨by decide, sh2⟩)
  have h3 := fun w => match_val [91, 93, 93] [93] true true w (by decide) (by decide) (yes ⟨by decide, sh3⟩)
  have h4 := fun w => match_val [92, 42] [42] true true w (by decide) (by decide) (yes ⟨by decide, sh4⟩)
  have h5 := fun w => match_val [42] [46, 120] true false w (by decide) (by decide) (no (fun h => absurd h.1 (by decide)))
  have h6 := fun w => match_val [91, 97, 98] [91, 97, 98] true true w (by decide) (by decide) (yes ⟨by decide, sh6⟩)
  have h7 := fun w => has_calls [91, 97, 98] w (by decide)
  have h8 := fun w => quote_any [97, 42] w (by decide)
  rw [sh7] at h7
  rw [show quoteF [97, 42] = [97, 92, 42] from by decide] at h8
  unfold sv at h1 h2 h3 h4 h5 h6 h7 h8
  have H1 := hide h1
  have H2 := hide h2
  have H3 := hide h3
  have H4 := hide h4
  have H5 := hide h5
  have H6 := hide h6
  have H7 := hide h7
  have H8 := hide h8
  clear h1 h2 h3 h4 h5 h6 h7 h8
  go_enter Try.func9, Try.ntmps9
  go_wp2_with fail
  refine (H1.out _).mono ?_
  rintro e w1 ⟨rfl, g1⟩
  have G1 := hide g1
  clear g1
  go_wp2_with fail
  refine (H2.out _).mono ?_
  rintro e w2 ⟨rfl, g2⟩
  have G2 := hide (none_trans G1.out g2)
  clear g2
  go_wp2_with fail
  refine (H3.out _).mono ?_
  rintro e w3 ⟨rfl, g3⟩
  have G3 := hide (none_trans G2.out g3)
  clear g3
  go_wp2_with fail
  refine (H4.out _).mono ?_
  rintro e w4 ⟨rfl, g4⟩
  have G4 := hide (none_trans G3.out g4)
  clear g4
  go_wp2_with fail
  refine (H5.out _).mono ?_
  rintro e w5 ⟨rfl, g5⟩
  have G5 := hide (none_trans G4.out g5)
  clear g5
  go_wp2_with fail
  refine (H6.out _).mono ?_
  rintro e w6 ⟨rfl, g6⟩
  have G6 := hide (none_trans G5.out g6)
  clear g6
  go_wp2_with fail
  refine (H7.out _).mono ?_
  rintro e w7 ⟨rfl, g7⟩
  have G7 := hide (none_trans G6.out g7)
  clear g7
  go_wp2_with fail
  refine (H8.out _).mono ?_
  rintro e w8 ⟨rfl, g8⟩
  have G8 := hide (none_trans G7.out g8)
  clear g8
  go_wp2_with fail
  go_ret
  exact ⟨rfl, G8.out⟩

end Go.Proofs.Ytphjafidencdeaa
