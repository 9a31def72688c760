/- The law on All. -/
import Derived.Test.YtnamfafpdlieeaaU
import Derived.Test.YtnamfafpdlieeaaW
import Derived.Deep.MidRow
set_option linter.all false
namespace Go.Proofs.Ytnamfafpdlieeaa
open Go.RowKit
set_option maxRecDepth 100000

def Ar.toks : Ar → List Tok
  | .ok T => T
  | .err _ _ => []
def Ar.at_ : Ar → Int
  | .ok _ => 0
  | .err a _ => a
def Ar.no : Ar → Int
  | .ok _ => 0
  | .err _ k => k
theorem AllPost.any {w w' : World} {l : List UInt8} {R : Ar} {e : Ending} (h : AllPost w l R e w') : ∃ v, e = .returned (.tuple #[v, .int .i64 R.at_, .int .i64 R.no]) ∧ Own w' 29 3 v R.toks.length (tcs R.toks) 0 ∧ (∀ b, v.ownBlock = some b → w.heap.size ≤ b) ∧ w.grownBy w' none := by
  cases R with
  | ok T =>
    obtain ⟨⟨v, h1, h2, h3⟩, h4⟩ := h
    exact ⟨v, h1, h2, h3, h4⟩
  | err a k => exact ⟨_, h.1, Own.nil _ _ _ _, fun b hb => by simp [Value.ownBlock] at hb, h.2⟩

set_option maxHeartbeats 4000000 in
theorem same_true (T : List Tok) (v1 v2 : Value) (w : World) (hT : T.length ≤ 401) (h1 : Own w 29 3 v1 T.length (tcs T) 0) (h2 : Own w 29 3 v2 T.length (tcs T) 0) :
    Calls Try.prog 10 #[v1, v2, .bool true] w fun e w' => e = .returned (.bool true) ∧ w.grownBy w' none := by
  by_cases hp : 0 < T.length
  · obtain ⟨g1, o1, c1, rfl, hg1, hc1⟩ := toks_at h1 hp
    obtain ⟨g2, o2, c2, rfl, hg2, hc2⟩ := toks_at h2 hp
    have HC1 := hide hc1
    have HC2 := hide hc2
    clear h1 h2 hc1 hc2
    go_enter Try.func10, Try.ntmps10
    go_wp2_with fail
    go_loopw [7] (fun v wr => ∃ i : Nat, v = .int .i64 i ∧ i ≤ T.length ∧ w.grownBy wr none) (fun v _ => T.length - (intOf v).toNat)
    case atStart => exact ⟨0, rfl, Nat.zero_le _, only_refl w none⟩
    case round =>
      obtain ⟨i, rfl, hi, hgr⟩ := hrel
      by_cases hlt : i < T.length
      · have q0 : decide ((i : Int) < (T.length : Int)) = true := decide_eq_true (by omega)
        have hib : (0 : Int) ≤ i ∧ (i : Int) < (T.length : Int) := by omega
        obtain ⟨a0, a1, a2⟩ := HC1.out i hlt
        obtain ⟨b0, b1, b2⟩ := HC2.out i hlt
        obtain ⟨x, hx⟩ : ∃ x, T[i] = x := ⟨_, rfl⟩
        rw [hx] at a0 a1 a2 b0 b1 b2
        obtain ⟨kk, tt, A⟩ := x
        simp only at a0 a1 a2 b0 b1 b2
        have a0 := old_cell hgr hg1 a0
        have a1 := old_cell hgr hg1 a1
        have a2 := old_cell hgr hg1 a2
        have b0 := old_cell hgr hg2 b0
        have b1 := old_cell hgr hg2 b1
        have b2 := old_cell hgr hg2 b2
        have hs1 : g1 < wr.heap.size := Nat.lt_of_lt_of_le hg1 hgr.size
        have hs2 : g2 < wr.heap.size := Nat.lt_of_lt_of_le hg2 hgr.size
        have HG := hide hgr
        clear hx hgr
        go_wp2_with fail
        go_quiet (fail)
        go_wp2_with fail
        go_roundw
        case rel => exact ⟨i + 1, by go_num, by omega, only_drewN HG.out _⟩
        case measure => simp [intOf]; omega
      · obtain rfl : i = T.length := by omega
        have q0 : decide ((T.length : Int) < (T.length : Int)) = false := decide_eq_false (by omega)
        go_wp2_with fail
        go_ret
        exact ⟨rfl, hgr⟩
  · obtain rfl : T = [] := List.eq_nil_of_length_eq_zero (by omega)
    obtain ⟨a1, c1, rfl, _, _⟩ := h1.form
    obtain ⟨a2, c2, rfl, _, _⟩ := h2.form
    clear h1 h2
    rw [List.length_nil]
    go_enter Try.func10, Try.ntmps10
    go_wp2_with fail
    go_loopw [7] (fun v wr => v = .int .i64 0 ∧ wr = w) (fun _ _ => 0)
    case atStart => exact ⟨rfl, rfl⟩
    case round =>
      obtain ⟨rfl, rfl⟩ := hrel
      go_wp2_with fail
      go_ret
      exact ⟨rfl, only_refl _ none⟩
theorem own_set3 {w : World} {g off cap n : Nat} {xs : List Value} (h : Own w 29 3 (.slice (some ⟨g, off, none⟩) n cap) n xs 0) (i : Nat) (hi : i < n) (x y z : Value) :
    ∃ ys, Own (((w.setCell ⟨g, off + i * 3, none⟩ x).setCell ⟨g, off + i * 3 + 1, none⟩ y).setCell ⟨g, off + i * 3 + 2, none⟩ z) 29 3 (.slice (some ⟨g, off, none⟩) n cap) n ys 0 := by
  have h1 := h.set (i * 3) (by omega) x
  have h2 := h1.set (i * 3 + 1) (by omega) y
  have h3 := h2.set (i * 3 + 2) (by omega) z
  rw [← Nat.add_assoc, ← Nat.add_assoc] at h3
  exact ⟨_, h3⟩
theorem own_cells {w : World} {g off cap n : Nat} {xs : List Value} (h : Own w 29 3 (.slice (some ⟨g, off, none⟩) n cap) n xs 0) (j : Nat) (hj : j < n * 3) : ∃ v, w.cell? ⟨g, off + j, none⟩ = some v := by
  obtain ⟨g', o', c', hv, _, _, _, hc⟩ := h.some_ (by omega)
  injection hv with hv _ _
  injection hv with hv
  injection hv with e1 e2 _
  subst e1; subst e2
  exact ⟨xs[j]'(by rw [h.len]; exact hj), by rw [hc j hj, List.getElem?_eq_getElem]⟩

set_option maxHeartbeats 4000000 in
theorem alls_any (l : List UInt8) (w : World) (hl : l.length ≤ maxLen) : Calls Try.prog 3 #[sv l] w fun e w' => e = .returned (.bool true) ∧ w.grownBy w' none := by
  unfold maxLen at hl
  have Hsh := hide (fun w' => shown_any w')
  have hP := fun w' => (all_any l w' (by omega)).mono (fun e w2 => AllPost.any)
  have hD := fun w' => (all_d l w' (by omega)).mono (fun e w2 => AllPost.any)
  have hT : (allF l).toks.length ≤ 401 := by
    cases h : allF l with
    | ok T => exact all_len h
    | err a k => exact Nat.zero_le _
  obtain ⟨T, hTT⟩ : ∃ T, (allF l).toks = T := ⟨_, rfl⟩
  obtain ⟨A, hA⟩ : ∃ A, (allF l).at_ = A := ⟨_, rfl⟩
  obtain ⟨K, hK⟩ : ∃ K, (allF l).no = K := ⟨_, rfl⟩
  rw [hTT, hA, hK] at hP hD
  rw [hTT] at hT
  unfold sv at hP hD
  have HP := hide hP
  have HD := hide hD
  clear hP hD hTT hA hK
  have h1 := sz l
  unfold sv
  go_enter Try.func3, Try.ntmps3
  go_wp2_with fail
  refine (Hsh.out _).mono ?_
  rintro e w1 ⟨rfl, g1⟩
  go_wp2_with fail
  refine (HD.out _).mono ?_
  rintro e w2 ⟨vd, rfl, hod, hnd, g2⟩
  obtain ⟨ad, cd, rfl, _, _⟩ := hod.form
  have HOD := hide hod
  have HG2 := hide (none_trans g1 g2)
  clear hod hnd g1 g2
  go_wp2_with fail
  go_loopw [7] (fun v wr => ∃ m : Nat, v = .int .i64 m ∧ m ≤ 2 ∧ w2.grownBy wr none) (fun v _ => 2 - (intOf v).toNat)
  case atStart => exact ⟨0, rfl, by omega, only_refl w2 none⟩
  case round =>
    obtain ⟨m, rfl, hm, hgr⟩ := hrel
    obtain ⟨wq, hwq⟩ : ∃ wq, wq = wr := ⟨_, rfl⟩
    subst hwq
    have HG := hide hgr
    clear hgr
    by_cases hlt : m < 2
    · have q0 : decide ((m : Int) < 2) = true := decide_eq_true (by omega)
      go_wp2_with fail
      refine (HP.out _).mono ?_
      rintro e w3 ⟨vl, rfl, hol, hnl, g3⟩
      obtain ⟨al, cl, rfl, _, _⟩ := hol.form
      have hod3 : Own w3 29 3 (.slice ad T.length cd) T.length (tcs T) 0 := HOD.out.chg (Chg.of_grown (none_trans HG.out g3) (fun k hk => by cases hk) : Chg nobody w2 w3) (fun _ _ e => e)
      have HOD3 := hide hod3
      have HOL := hide hol
      have HNL := hide hnl
      have HG3 := hide g3
      clear hod3 hol hnl g3
      go_wp2_with fail
      refine (same_true T _ _ _ hT HOL.out HOD3.out).mono ?_
      rintro e w4 ⟨rfl, g4⟩
      have hol4 : Own w4 29 3 (.slice al T.length cl) T.length (tcs T) 0 := HOL.out.chg (Chg.of_grown g4 (fun k hk => by cases hk) : Chg nobody w3 w4) (fun _ _ e => e)
      have HOL4 := hide hol4
      have HG4 := hide (none_trans HG3.out g4)
      clear hol4 g4
      go_wp2_with fail
      go_loopw [12] (fun v wx => ∃ (j : Nat) (xs : List Value), v = .int .i64 j ∧ j ≤ T.length ∧ wq.grownBy wx none ∧ Own wx 29 3 (.slice al T.length cl) T.length xs 0) (fun v _ => T.length - (intOf v).toNat)
      case atStart => exact ⟨0, _, rfl, Nat.zero_le _, HG4.out, HOL4.out⟩
      case round =>
        obtain ⟨j, xs, rfl, hj, hgx, hox⟩ := hrel
        have HGX := hide hgx
        have HOX := hide hox
        by_cases hlj : j < T.length
        · have q1 : decide ((j : Int) < (T.length : Int)) = true := decide_eq_true (by omega)
          have hib : (0 : Int) ≤ j ∧ (j : Int) < (T.length : Int) := by omega
          obtain ⟨g, off, cap, hv, _, _, hgs, hall⟩ := hox.some_ (by omega)
          clear hall
          injection hv with hv1 hv2 hv3
          subst hv1
          subst hv3
          obtain ⟨x0, c0⟩ := own_cells hox (j * 3) (by omega)
          obtain ⟨x1, c1⟩ := own_cells hox (j * 3 + 1) (by omega)
          obtain ⟨x2, c2⟩ := own_cells hox (j * 3 + 2) (by omega)
          have z0 := hox.frozen0 (j * 3)
          have z1 := hox.frozen0 (j * 3 + 1)
          have z2 := hox.frozen0 (j * 3 + 2)
          rw [← Nat.add_assoc] at c1 c2 z1 z2
          have hnew : wq.heap.size ≤ g := HNL.out g (by simp [Value.ownBlock])
          obtain ⟨ys, hys⟩ := own_set3 hox j hlj (.int .i64 0) (.string ⟨#[]⟩) (.int .i64 0)
          have HYS := hide hys
          have hgy := none_setCell (none_setCell (none_setCell hgx (p := ⟨g, off + j * 3, none⟩) hnew (.int .i64 0)) (p := ⟨g, off + j * 3 + 1, none⟩) hnew (.string ⟨#[]⟩)) (p := ⟨g, off + j * 3 + 2, none⟩) hnew (.int .i64 0)
          have HGY := hide hgy
          clear hys hgy hgx hox
          go_wp2_with fail
          go_roundw
          case rel => exact ⟨j + 1, ys, by go_num, by omega, HGY.out, HYS.out⟩
          case measure => simp [intOf]; omega
        · obtain rfl : j = T.length := by omega
          have q1 : decide ((T.length : Int) < (T.length : Int)) = false := decide_eq_false (by omega)
          clear hgx hox
          go_wp2_with fail
          go_roundw
          case rel => exact ⟨m + 1, by go_num, by omega, none_trans HG.out HGX.out⟩
          case measure => simp [intOf]; omega
    · obtain rfl : m = 2 := by omega
      go_wp2_with fail
      go_ret
      exact ⟨rfl, none_trans HG2.out HG.out⟩

end Go.Proofs.Ytnamfafpdlieeaa
