/- LexParts: the document's Part is partV; the law on parts. -/
import Derived.Test.YtnamfafpdlieeaaN
namespace Go.Proofs.Ytnamfafpdlieeaa
open Go.RowKit
set_option maxRecDepth 100000

theorem partV_eq (q : Bool) (l : List UInt8) : partV q l = match partR 25 q l with
  | .ok n => (n : Int)
  | _ => -1 := by
  unfold partV
  split
  · rename_i h
    rw [h, parts_nil]
    rfl
  · rfl

set_option maxHeartbeats 1000000 in
theorem rpart_any (l : List UInt8) (q : Bool) (w : World) (hl : l.length ≤ 1000000) : Calls Try.prog 12 #[sv l, .bool q] w fun e w' => e = .returned (.int .i64 (partV q l)) ∧ w.grownBy w' none := by
  have hp := fun w' => part_d 25 l q 0 0 w' (by omega) hl (by omega)
  have hv := partV_eq q l
  obtain ⟨R, hR⟩ : ∃ R, partR 25 q l = R := ⟨_, rfl⟩
  rw [hR] at hp hv
  have Hp := hide (show ∀ w', Calls Try.prog 23 #[.string ⟨l.toArray⟩, .bool q, .int .i64 0, .int .i64 0] w' fun e w2 => e = .returned (endsV 0 R) ∧ w'.grownBy w2 none from hp)
  have Hv := hide hv
  clear hp hv hR
  unfold sv
  go_enter Try.func12, Try.ntmps12
  go_wp2_with fail
  refine (Hp.out _).mono ?_
  rintro e w2 ⟨rfl, hg⟩
  have Hg := hide hg
  clear hg
  unfold endsV
  cases R
  all_goals
    unfold endsL
    go_wp2_with fail
    go_ret
    exact ⟨by rw [Hv.out]; rfl, only_alloc Hg.out _⟩

set_option maxHeartbeats 1000000 in
theorem parts_any (l : List UInt8) (q : Bool) (w : World) (hl : l.length ≤ maxLen) : Calls Try.prog 4 #[sv l, .bool q] w fun e w' => e = .returned (.bool true) ∧ w.grownBy w' none := by
  unfold maxLen at hl
  have Hsh := hide (fun w' => shown_any w')
  have h1 := sz l
  by_cases h5 : 5000 < l.length
  · have q5 : decide ((5000 : Int) < (l.length : Int)) = true := decide_eq_true (by omega)
    unfold sv
    go_enter Try.func4, Try.ntmps4
    go_wp2_with fail
    refine (Hsh.out _).mono ?_
    rintro e w1 ⟨rfl, g1⟩
    go_wp2_with fail
    go_ret
    exact ⟨rfl, g1⟩
  · have q5 : decide ((5000 : Int) < (l.length : Int)) = false := decide_eq_false (by omega)
    have hP := fun w' => part_call l q w' (by omega)
    have hQ := fun w' => rpart_any l q w' (by omega)
    unfold sv at hP hQ
    have HP := hide hP
    have HQ := hide hQ
    clear hP hQ
    unfold sv
    go_enter Try.func4, Try.ntmps4
    go_wp2_with fail
    refine (Hsh.out _).mono ?_
    rintro e w1 ⟨rfl, g1⟩
    go_wp2_with fail
    refine (HP.out _).mono ?_
    rintro e w2 ⟨rfl, g2⟩
    go_wp2_with fail
    refine (HQ.out _).mono ?_
    rintro e w3 ⟨rfl, g3⟩
    go_wp2_with fail
    go_ret
    exact ⟨rfl, none_trans (none_trans g1 g2) g3⟩

end Go.Proofs.Ytnamfafpdlieeaa
