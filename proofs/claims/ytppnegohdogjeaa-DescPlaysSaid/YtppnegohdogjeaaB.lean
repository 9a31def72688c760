/- The walks of At, Put, Close, To and of the reference's. Printed by genB.py. -/
import Derived.Test.YtppnegohdogjeaaA
namespace Go.Proofs.Ytppnegohdogjeaa
open Go.RowKit

def ff (xs : List Int) (k : Nat) : Option Nat := if h : k < xs.length then if xs[k] = -1 then some k else ff xs (k + 1) else none
termination_by xs.length - k
theorem ff_here {xs : List Int} {k : Nat} (h : k < xs.length) (hx : xs[k] = -1) : ff xs k = some k := by rw [ff, dif_pos h, if_pos hx]
theorem ff_next {xs : List Int} {k : Nat} (h : k < xs.length) (hx : xs[k] ≠ -1) : ff xs k = ff xs (k + 1) := by rw [ff, dif_pos h, if_neg hx]
theorem ff_end {xs : List Int} {k : Nat} (h : ¬ k < xs.length) : ff xs k = none := by rw [ff, dif_neg h]
def putRes (xs : List Int) (n from_ : Int) : List Int × Int × Int := match ff xs (max 0 from_).toNat with | some i => (xs.set i n, (i : Int), 0) | none => ([], 0, 12)
def atRes (xs : List Int) (fd : Int) : Int × Bool := if h : 0 ≤ fd ∧ fd.toNat < xs.length then (if xs[fd.toNat]'h.2 = -1 then (0, false) else (xs[fd.toNat]'h.2, true)) else (0, false)
def closeRes (xs : List Int) (fd : Int) : List Int × Int × Bool := if (atRes xs fd).2 then (xs.set fd.toNat (-1), (atRes xs fd).1, true) else ([], 0, false)
def toRes (xs : List Int) (fd t_ : Int) : List Int × Int × Int :=
  if (atRes xs fd).2 = false ∨ t_ < 0 ∨ (xs.length : Int) ≤ t_ then ([], 0, 11) else if fd = t_ then (xs, -1, 0) else (xs.set t_.toNat (atRes xs fd).1, xs.getD t_.toNat 0, 0)
def Post3 (w : World) (r : List Int × Int × Int) (e : Ending) (w' : World) : Prop := ∃ v', e = .returned (.tuple #[v', .int .i64 r.2.1, .int .i64 r.2.2]) ∧ Made w w' v' r.1
def Post3b (w : World) (r : List Int × Int × Bool) (e : Ending) (w' : World) : Prop := ∃ v', e = .returned (.tuple #[v', .int .i64 r.2.1, .bool r.2.2]) ∧ Made w w' v' r.1

theorem Rd.form {w : World} {B : Nat} {v : Value} {xs : List Int} (h : Rd w B v xs) : ∃ a cap, v = .slice a xs.length cap ∧ xs.length ≤ cap ∧ cap ≤ 9223372036854775807 ∧ ∀ i (h : i < xs.length), ∃ b off, a = some ⟨b, off, none⟩ ∧ b < w.heap.size ∧ w.cell? ⟨b, off + i, none⟩ = some (.int .i64 xs[i]) := by
  obtain ⟨hB, a, cap, e, h1, h2, h3⟩ := h
  refine ⟨a, cap, e, h1, h2, fun i hi => ?_⟩
  obtain ⟨b, off, e1, e2, e3⟩ := h3 i hi
  exact ⟨b, off, e1, by omega, e3⟩
theorem Made.refl_nil (w : World) : Made w w (.slice none 0 0) [] := Made.nil w
theorem Made.drewN {w : World} (n : Nat) : Made w (w.drewN n) (.slice none 0 0) [] := ⟨Own.nil _ _ _ _, by simp [Value.ownBlock], only_drewN (only_refl _ _) n⟩

set_option maxHeartbeats 400000 in
theorem at_any (v : Value) (xs : List Int) (fd : Int) (B : Nat) (w : World) (hr : Rd w B v xs) (hx : xs.length ≤ 4096) :
    Calls Try.prog 17 #[v, .int .i64 fd] w fun e w' => e = .returned (.tuple #[.int .i64 (atRes xs fd).1, .bool (atRes xs fd).2]) ∧ w = w' := by
  obtain ⟨a, cap, rfl, h1, h2, h3⟩ := hr.form
  have H3 := hide h3
  clear h3 hr
  by_cases hneg : fd < 0
  · have hres : atRes xs fd = (0, false) := by unfold atRes; rw [dif_neg (by omega)]
    rw [hres]
    clear hres
    have q : decide (fd < 0) = true := by simpa using hneg
    go_enter Try.func17, Try.ntmps17
    go_wp2
    go_ret2
    exact ⟨rfl, rfl⟩
  · obtain ⟨j, rfl⟩ : ∃ j : Nat, fd = j := ⟨fd.toNat, by omega⟩
    by_cases hj : j < xs.length
    · obtain ⟨b, off, rfl, hb, c0⟩ := H3.out j hj
      by_cases hm : xs[j] = -1
      · have hres : atRes xs (j : Int) = (0, false) := by unfold atRes; rw [dif_pos (by exact ⟨by omega, by simpa using hj⟩)]; simp [hm]
        rw [hres]
        rw [hm] at c0
        clear hres hm
        have q : decide ((xs.length : Int) ≤ (j : Int)) = false := by simp; omega
        go_enter Try.func17, Try.ntmps17
        go_wp2
        go_ret2
        exact ⟨rfl, rfl⟩
      · have hres : atRes xs (j : Int) = (xs[j], true) := by unfold atRes; rw [dif_pos (by exact ⟨by omega, by simpa using hj⟩)]; simp [hm]
        rw [hres]
        clear hres
        obtain ⟨x, hx⟩ : ∃ x, x = xs[j] := ⟨_, rfl⟩
        rw [← hx] at c0 hm ⊢
        clear hx
        have q2 : (x == -1) = false := by simpa using hm
        have q : decide ((xs.length : Int) ≤ (j : Int)) = false := by simp; omega
        go_enter Try.func17, Try.ntmps17
        go_wp2
        go_ret2
        exact ⟨rfl, rfl⟩
    · have hres : atRes xs (j : Int) = (0, false) := by unfold atRes; rw [dif_neg (by simp; omega)]
      rw [hres]
      clear hres
      have q : decide ((xs.length : Int) ≤ (j : Int)) = true := by simp; omega
      go_enter Try.func17, Try.ntmps17
      go_wp2
      go_ret2
      exact ⟨rfl, rfl⟩

set_option maxHeartbeats 400000 in
theorem put_any (v : Value) (xs : List Int) (n from_ : Int) (hf : from_ ≤ 9223372036854775807) (B : Nat) (w : World) (hr : Rd w B v xs) (hx : xs.length ≤ 4096) :
    Calls Try.prog 10 #[v, .int .i64 n, .int .i64 from_] w (Post3 w (putRes xs n from_)) := by
  obtain ⟨k0, hk0⟩ : ∃ k0 : Nat, k0 = (max 0 from_).toNat := ⟨_, rfl⟩
  have hp : putRes xs n from_ = match ff xs k0 with | some i => (xs.set i n, (i : Int), 0) | none => ([], 0, 12) := by rw [hk0]; rfl
  have hk1 : (k0 : Int) = max 0 from_ := by omega
  have hk2 : k0 ≤ 9223372036854775807 := by omega
  obtain ⟨a, cap, rfl, h1, h2, h3⟩ := hr.form
  have H3 := hide h3
  have Hr := hide hr
  have Hp := hide hp
  have Hk1 := hide hk1
  clear h3 hr hp hk0 hk1
  go_enter Try.func10, Try.ntmps10
  go_wp2_with ((with_reducible refine wpList_max (k0 : Int) 0 from_ ?hx ?hy ?hk ?_); (case hx => exact rfl); (case hy => exact rfl); (case hk => exact Hk1.out))
  go_loop [9] (fun u => ∃ k : Nat, u = .int .i64 k ∧ k ≤ 9223372036854775807 ∧ ff xs k = ff xs k0) (fun u => xs.length - (intOf u).toNat)
  case atStart => exact ⟨k0, rfl, hk2, rfl⟩
  case round =>
    obtain ⟨k, rfl, hk, hff⟩ := hrel
    by_cases hlt : k < xs.length
    · obtain ⟨b, off, rfl, hb, c0⟩ := H3.out k hlt
      by_cases hm : xs[k] = -1
      · have hres : putRes xs n from_ = (xs.set k n, (k : Int), 0) := by rw [Hp.out, ← hff, ff_here hlt hm]
        have Hres := hide hres
        rw [hm] at c0
        clear hres hff hm
        go_wp2_with fail
        go_at_call 33
        refine (with_any _ xs k n B w Hr.out hlt hx).mono ?_
        rintro e w1 ⟨v', rfl, hM⟩
        have HM := hide hM
        clear hM
        go_wp2
        go_ret3
        rw [Hres.out]
        exact ⟨_, rfl, HM.out⟩
      · have hnx : ff xs (k + 1) = ff xs k0 := by rw [← hff, ff_next hlt hm]
        obtain ⟨x, hxx⟩ : ∃ x, x = xs[k] := ⟨_, rfl⟩
        rw [← hxx] at c0 hm
        have Hnx := hide hnx
        clear hxx hnx hff
        have q2 : (x == -1) = false := by simpa using hm
        go_wp2
        go_round
        case rel => exact ⟨k + 1, by go_num, by omega, Hnx.out⟩
        case measure => simp [intOf]; omega
    · have hres : putRes xs n from_ = ([], 0, 12) := by rw [Hp.out, ← hff, ff_end hlt]
      have Hres := hide hres
      clear hres hff
      go_wp2
      go_ret3
      rw [Hres.out]
      exact ⟨_, rfl, Made.nil w⟩

set_option maxHeartbeats 400000 in
theorem close_any (v : Value) (xs : List Int) (fd : Int) (B : Nat) (w : World) (hr : Rd w B v xs) (hx : xs.length ≤ 4096) :
    Calls Try.prog 13 #[v, .int .i64 fd] w (Post3b w (closeRes xs fd)) := by
  have Hr := hide hr
  clear hr
  have hat := at_any v xs fd B w Hr.out hx
  obtain ⟨r, hr⟩ : ∃ r, r = atRes xs fd := ⟨_, rfl⟩
  have hcl : closeRes xs fd = if r.2 then (xs.set fd.toNat (-1), r.1, true) else ([], 0, false) := by rw [hr]; rfl
  rw [← hr] at hat
  obtain ⟨x, y⟩ := r
  cases y
  · have Hat := hide hat
    have Hcl := hide hcl
    clear hr hat hcl
    go_enter Try.func13, Try.ntmps13
    go_wp2_with (go_at_call 17; (with_reducible refine Hat.out.mono ?_); rintro e w' ⟨rfl, rfl⟩)
    go_ret3
    rw [Hcl.out]
    exact ⟨_, rfl, Made.nil w⟩
  · have hin : 0 ≤ fd ∧ fd.toNat < xs.length := by
      refine Classical.byContradiction fun h => ?_
      unfold atRes at hr
      rw [dif_neg h] at hr
      cases hr
    obtain ⟨j, rfl⟩ : ∃ j : Nat, fd = j := ⟨fd.toNat, by omega⟩
    have hj : j < xs.length := by simpa using hin.2
    have Hat := hide hat
    have Hcl := hide hcl
    clear hr hat hcl hin
    go_enter Try.func13, Try.ntmps13
    go_wp2_with (go_at_call 17; (with_reducible refine Hat.out.mono ?_); rintro e w' ⟨rfl, rfl⟩)
    go_at_call 33
    refine (with_any _ xs j (-1) B w Hr.out hj hx).mono ?_
    rintro e w1 ⟨v', rfl, hM⟩
    have HM := hide hM
    clear hM
    go_wp2
    go_ret3
    rw [Hcl.out]
    exact ⟨_, rfl, HM.out⟩

set_option maxHeartbeats 400000 in
theorem rat_any (v : Value) (xs : List Int) (fd : Int) (B : Nat) (w : World) (hr : Rd w B v xs) (hx : xs.length ≤ 4096) :
    Calls Try.prog 18 #[v, .int .i64 fd] w fun e w' => e = .returned (.tuple #[.int .i64 (atRes xs fd).1, .bool (atRes xs fd).2]) ∧ w = w' := by
  obtain ⟨a, cap, rfl, h1, h2, h3⟩ := hr.form
  have H3 := hide h3
  clear h3 hr
  by_cases hneg : fd < 0
  · have hres : atRes xs fd = (0, false) := by unfold atRes; rw [dif_neg (by omega)]
    rw [hres]
    clear hres
    have q : decide (fd < 0) = true := by simpa using hneg
    go_enter Try.func18, Try.ntmps18
    go_wp2
    go_ret2
    exact ⟨rfl, rfl⟩
  · obtain ⟨j, rfl⟩ : ∃ j : Nat, fd = j := ⟨fd.toNat, by omega⟩
    by_cases hj : j < xs.length
    · obtain ⟨b, off, rfl, hb, c0⟩ := H3.out j hj
      by_cases hm : xs[j] = -1
      · have hres : atRes xs (j : Int) = (0, false) := by unfold atRes; rw [dif_pos (by exact ⟨by omega, by simpa using hj⟩)]; simp [hm]
        rw [hres]
        rw [hm] at c0
        clear hres hm
        have q : decide ((xs.length : Int) ≤ (j : Int)) = false := by simp; omega
        go_enter Try.func18, Try.ntmps18
        go_wp2
        go_ret2
        exact ⟨rfl, rfl⟩
      · have hres : atRes xs (j : Int) = (xs[j], true) := by unfold atRes; rw [dif_pos (by exact ⟨by omega, by simpa using hj⟩)]; simp [hm]
        rw [hres]
        clear hres
        obtain ⟨x, hx⟩ : ∃ x, x = xs[j] := ⟨_, rfl⟩
        rw [← hx] at c0 hm ⊢
        clear hx
        have q2 : (x == -1) = false := by simpa using hm
        have q : decide ((xs.length : Int) ≤ (j : Int)) = false := by simp; omega
        go_enter Try.func18, Try.ntmps18
        go_wp2
        go_ret2
        exact ⟨rfl, rfl⟩
    · have hres : atRes xs (j : Int) = (0, false) := by unfold atRes; rw [dif_neg (by simp; omega)]
      rw [hres]
      clear hres
      have q : decide ((xs.length : Int) ≤ (j : Int)) = true := by simp; omega
      go_enter Try.func18, Try.ntmps18
      go_wp2
      go_ret2
      exact ⟨rfl, rfl⟩

set_option maxHeartbeats 400000 in
theorem rput_any (v : Value) (xs : List Int) (n from_ : Int) (hf : from_ ≤ 9223372036854775807) (B : Nat) (w : World) (hr : Rd w B v xs) (hx : xs.length ≤ 4096) :
    Calls Try.prog 11 #[v, .int .i64 n, .int .i64 from_] w (Post3 w (putRes xs n from_)) := by
  obtain ⟨k0, hk0⟩ : ∃ k0 : Nat, k0 = (max 0 from_).toNat := ⟨_, rfl⟩
  have hp : putRes xs n from_ = match ff xs k0 with | some i => (xs.set i n, (i : Int), 0) | none => ([], 0, 12) := by rw [hk0]; rfl
  have hk1 : (k0 : Int) = max 0 from_ := by omega
  have hk2 : k0 ≤ 9223372036854775807 := by omega
  obtain ⟨a, cap, rfl, h1, h2, h3⟩ := hr.form
  have H3 := hide h3
  have Hr := hide hr
  have Hp := hide hp
  have Hk1 := hide hk1
  clear h3 hr hp hk0 hk1
  go_enter Try.func11, Try.ntmps11
  go_wp2_with ((with_reducible refine wpList_max (k0 : Int) 0 from_ ?hx ?hy ?hk ?_); (case hx => exact rfl); (case hy => exact rfl); (case hk => exact Hk1.out))
  go_loop [9] (fun u => ∃ k : Nat, u = .int .i64 k ∧ k ≤ 9223372036854775807 ∧ ff xs k = ff xs k0) (fun u => xs.length - (intOf u).toNat)
  case atStart => exact ⟨k0, rfl, hk2, rfl⟩
  case round =>
    obtain ⟨k, rfl, hk, hff⟩ := hrel
    by_cases hlt : k < xs.length
    · obtain ⟨b, off, rfl, hb, c0⟩ := H3.out k hlt
      by_cases hm : xs[k] = -1
      · have hres : putRes xs n from_ = (xs.set k n, (k : Int), 0) := by rw [Hp.out, ← hff, ff_here hlt hm]
        have Hres := hide hres
        rw [hm] at c0
        clear hres hff hm
        go_wp2_with fail
        go_at_call 34
        refine (rwith_any _ xs k n B w Hr.out hlt hx).mono ?_
        rintro e w1 ⟨v', rfl, hM⟩
        have HM := hide hM
        clear hM
        go_wp2
        go_ret3
        rw [Hres.out]
        exact ⟨_, rfl, HM.out⟩
      · have hnx : ff xs (k + 1) = ff xs k0 := by rw [← hff, ff_next hlt hm]
        obtain ⟨x, hxx⟩ : ∃ x, x = xs[k] := ⟨_, rfl⟩
        rw [← hxx] at c0 hm
        have Hnx := hide hnx
        clear hxx hnx hff
        have q2 : (x == -1) = false := by simpa using hm
        go_wp2
        go_round
        case rel => exact ⟨k + 1, by go_num, by omega, Hnx.out⟩
        case measure => simp [intOf]; omega
    · have hres : putRes xs n from_ = ([], 0, 12) := by rw [Hp.out, ← hff, ff_end hlt]
      have Hres := hide hres
      clear hres hff
      go_wp2
      go_ret3
      rw [Hres.out]
      exact ⟨_, rfl, Made.nil w⟩

set_option maxHeartbeats 400000 in
theorem rclose_any (v : Value) (xs : List Int) (fd : Int) (B : Nat) (w : World) (hr : Rd w B v xs) (hx : xs.length ≤ 4096) :
    Calls Try.prog 14 #[v, .int .i64 fd] w (Post3b w (closeRes xs fd)) := by
  have Hr := hide hr
  clear hr
  have hat := rat_any v xs fd B w Hr.out hx
  obtain ⟨r, hr⟩ : ∃ r, r = atRes xs fd := ⟨_, rfl⟩
  have hcl : closeRes xs fd = if r.2 then (xs.set fd.toNat (-1), r.1, true) else ([], 0, false) := by rw [hr]; rfl
  rw [← hr] at hat
  obtain ⟨x, y⟩ := r
  cases y
  · have Hat := hide hat
    have Hcl := hide hcl
    clear hr hat hcl
    go_enter Try.func14, Try.ntmps14
    go_wp2_with (go_at_call 18; (with_reducible refine Hat.out.mono ?_); rintro e w' ⟨rfl, rfl⟩)
    go_ret3
    rw [Hcl.out]
    exact ⟨_, rfl, Made.nil w⟩
  · have hin : 0 ≤ fd ∧ fd.toNat < xs.length := by
      refine Classical.byContradiction fun h => ?_
      unfold atRes at hr
      rw [dif_neg h] at hr
      cases hr
    obtain ⟨j, rfl⟩ : ∃ j : Nat, fd = j := ⟨fd.toNat, by omega⟩
    have hj : j < xs.length := by simpa using hin.2
    have Hat := hide hat
    have Hcl := hide hcl
    clear hr hat hcl hin
    go_enter Try.func14, Try.ntmps14
    go_wp2_with (go_at_call 18; (with_reducible refine Hat.out.mono ?_); rintro e w' ⟨rfl, rfl⟩)
    go_at_call 34
    refine (rwith_any _ xs j (-1) B w Hr.out hj hx).mono ?_
    rintro e w1 ⟨v', rfl, hM⟩
    have HM := hide hM
    clear hM
    go_wp2
    go_ret3
    rw [Hcl.out]
    exact ⟨_, rfl, HM.out⟩

end Go.Proofs.Ytppnegohdogjeaa
