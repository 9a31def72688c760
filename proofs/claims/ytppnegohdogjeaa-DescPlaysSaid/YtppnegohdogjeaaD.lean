/- The walks of To and of the reference's To. -/
import Derived.Test.YtppnegohdogjeaaC
namespace Go.Proofs.Ytppnegohdogjeaa
open Go.RowKit

theorem atRes_in {xs : List Int} {fd x : Int} (h : (x, true) = atRes xs fd) : ∃ (j : Nat) (hj : j < xs.length), fd = j ∧ x = xs[j] := by
  have hin : 0 ≤ fd ∧ fd.toNat < xs.length := by
    refine Classical.byContradiction fun hh => ?_
    unfold atRes at h
    rw [dif_neg hh] at h
    cases h
  obtain ⟨j, rfl⟩ : ∃ j : Nat, fd = j := ⟨fd.toNat, by omega⟩
  have hj : j < xs.length := by simpa using hin.2
  refine ⟨j, hj, rfl, ?_⟩
  unfold atRes at h
  rw [dif_pos hin] at h
  simp only [Int.toNat_natCast] at h
  split at h
  · cases h
  · injection h

set_option maxHeartbeats 1000000 in
theorem to_any (v : Value) (xs : List Int) (fd t_ : Int) (B : Nat) (w : World) (hr : Rd w B v xs) (hx : xs.length ≤ 4096) :
    Calls Try.prog 15 #[v, .int .i64 fd, .int .i64 t_] w (Post3 w (toRes xs fd t_)) := by
  have Hr := hide hr
  obtain ⟨a, cap, rfl, h1, h2, h3⟩ := hr.form
  have H3 := hide h3
  clear hr h3
  have hat := at_any _ xs fd B w Hr.out hx
  obtain ⟨r, hr⟩ : ∃ r, r = atRes xs fd := ⟨_, rfl⟩
  have hto : toRes xs fd t_ = if r.2 = false ∨ t_ < 0 ∨ (xs.length : Int) ≤ t_ then ([], 0, 11) else if fd = t_ then (xs, -1, 0) else (xs.set t_.toNat r.1, xs.getD t_.toNat 0, 0) := by rw [hr]; rfl
  rw [← hr] at hat
  obtain ⟨x, y⟩ := r
  cases y
  · have hres : toRes xs fd t_ = ([], 0, 11) := by rw [hto, if_pos (.inl rfl)]
    have Hat := hide hat
    have Hres := hide hres
    clear hr hat hto hres
    go_enter Try.func15, Try.ntmps15
    go_wp2_with (go_at_call 17; (with_reducible refine Hat.out.mono ?_); rintro e w' ⟨rfl, rfl⟩)
    go_ret3
    rw [Hres.out]
    exact ⟨_, rfl, Made.nil w⟩
  obtain ⟨j, hj, rfl, rfl⟩ := atRes_in hr
  by_cases hneg : t_ < 0
  · have hres : toRes xs (j : Int) t_ = ([], 0, 11) := by rw [hto, if_pos (.inr (.inl hneg))]
    have Hat := hide hat
    have Hres := hide hres
    have q : decide (t_ < 0) = true := by simpa using hneg
    clear hr hat hto hres
    go_enter Try.func15, Try.ntmps15
    go_wp2_with (go_at_call 17; (with_reducible refine Hat.out.mono ?_); rintro e w' ⟨rfl, rfl⟩)
    go_ret3
    rw [Hres.out]
    exact ⟨_, rfl, Made.nil w⟩
  obtain ⟨k, rfl⟩ : ∃ k : Nat, t_ = k := ⟨t_.toNat, by omega⟩
  by_cases hk : ¬ k < xs.length
  · have hres : toRes xs (j : Int) (k : Int) = ([], 0, 11) := by rw [hto, if_pos (.inr (.inr (by omega)))]
    have Hat := hide hat
    have Hres := hide hres
    have q : decide ((xs.length : Int) ≤ (k : Int)) = true := by simp; omega
    clear hr hat hto hres
    go_enter Try.func15, Try.ntmps15
    go_wp2_with (go_at_call 17; (with_reducible refine Hat.out.mono ?_); rintro e w' ⟨rfl, rfl⟩)
    go_ret3
    rw [Hres.out]
    exact ⟨_, rfl, Made.nil w⟩
  have hk : k < xs.length := by omega
  have q : decide ((xs.length : Int) ≤ (k : Int)) = false := by simp; omega
  rw [if_neg (by simp; omega)] at hto
  obtain ⟨b, off, rfl, hb, c0⟩ := H3.out k hk
  obtain ⟨y, hy⟩ : ∃ y, y = xs[k] := ⟨_, rfl⟩
  rw [← hy] at c0
  by_cases hjk : j = k
  · subst hjk
    have hres : toRes xs (j : Int) (j : Int) = (xs, -1, 0) := by rw [hto, if_pos rfl]
    obtain ⟨x, hxj⟩ : ∃ x, x = xs[j] := ⟨_, rfl⟩
    rw [← hxj] at hat
    have Hat := hide hat
    have Hres := hide hres
    clear hr hat hto hres hxj hy
    go_enter Try.func15, Try.ntmps15
    go_wp2_with (go_at_call 17; (with_reducible refine Hat.out.mono ?_); rintro e w' ⟨rfl, rfl⟩)
    go_at_call 35
    refine (clone_any _ xs (by omega) B w Hr.out hx).mono ?_
    rintro e w1 ⟨v', rfl, hM⟩
    have HM := hide hM
    clear hM
    go_wp2
    go_ret3
    rw [Hres.out]
    exact ⟨_, rfl, HM.out⟩
  · have hres : toRes xs (j : Int) (k : Int) = (xs.set k xs[j], y, 0) := by
      rw [hto, if_neg (by omega), Int.toNat_natCast, List.getD_eq_getElem?_getD, List.getElem?_eq_getElem hk, hy]
      rfl
    obtain ⟨x, hxj⟩ : ∃ x, x = xs[j] := ⟨_, rfl⟩
    rw [← hxj] at hres hat
    have Hat := hide hat
    have Hres := hide hres
    have q2 : ((j : Int) == (k : Int)) = false := by simp; omega
    clear hr hat hto hres hxj hy
    go_enter Try.func15, Try.ntmps15
    go_wp2_with (go_at_call 17; (with_reducible refine Hat.out.mono ?_); rintro e w' ⟨rfl, rfl⟩)
    go_region_held3 (fun w' => w'.cell? ⟨b, off + k, none⟩ = some (.int .i64 y)) (first | go_keep | exact none_cell (only_trans (only_drew (only_refl w none)) HM.out.grown) hb c0)
      ((go_at_call 33; refine (with_any _ xs k x B w.drew (Hr.out.gr (only_drew (only_refl _ _))) hk hx).mono ?_; rintro e w1 ⟨v', rfl, hM⟩; (have HM := hide hM; clear hM)))
    go_wp2
    go_ret3
    rw [Hres.out]
    exact ⟨v', rfl, HM.out.own, HM.out.new, only_trans (only_drew (only_refl w none)) HM.out.grown⟩

set_option maxHeartbeats 1000000 in
theorem rto_any (v : Value) (xs : List Int) (fd t_ : Int) (B : Nat) (w : World) (hr : Rd w B v xs) (hx : xs.length ≤ 4096) :
    Calls Try.prog 16 #[v, .int .i64 fd, .int .i64 t_] w (Post3 w (toRes xs fd t_)) := by
  have Hr := hide hr
  obtain ⟨a, cap, rfl, h1, h2, h3⟩ := hr.form
  have H3 := hide h3
  clear hr h3
  have hat := rat_any _ xs fd B w Hr.out hx
  obtain ⟨r, hr⟩ : ∃ r, r = atRes xs fd := ⟨_, rfl⟩
  have hto : toRes xs fd t_ = if r.2 = false ∨ t_ < 0 ∨ (xs.length : Int) ≤ t_ then ([], 0, 11) else if fd = t_ then (xs, -1, 0) else (xs.set t_.toNat r.1, xs.getD t_.toNat 0, 0) := by rw [hr]; rfl
  rw [← hr] at hat
  obtain ⟨x, y⟩ := r
  cases y
  · have hres : toRes xs fd t_ = ([], 0, 11) := by rw [hto, if_pos (.inl rfl)]
    have Hat := hide hat
    have Hres := hide hres
    clear hr hat hto hres
    go_enter Try.func16, Try.ntmps16
    go_wp2_with (go_at_call 18; (with_reducible refine Hat.out.mono ?_); rintro e w' ⟨rfl, rfl⟩)
    go_ret3
    rw [Hres.out]
    exact ⟨_, rfl, Made.nil w⟩
  obtain ⟨j, hj, rfl, rfl⟩ := atRes_in hr
  by_cases hneg : t_ < 0
  · have hres : toRes xs (j : Int) t_ = ([], 0, 11) := by rw [hto, if_pos (.inr (.inl hneg))]
    have Hat := hide hat
    have Hres := hide hres
    have q : decide (t_ < 0) = true := by simpa using hneg
    clear hr hat hto hres
    go_enter Try.func16, Try.ntmps16
    go_wp2_with (go_at_call 18; (with_reducible refine Hat.out.mono ?_); rintro e w' ⟨rfl, rfl⟩)
    go_ret3
    rw [Hres.out]
    exact ⟨_, rfl, Made.nil w⟩
  obtain ⟨k, rfl⟩ : ∃ k : Nat, t_ = k := ⟨t_.toNat, by omega⟩
  by_cases hk : ¬ k < xs.length
  · have hres : toRes xs (j : Int) (k : Int) = ([], 0, 11) := by rw [hto, if_pos (.inr (.inr (by omega)))]
    have Hat := hide hat
    have Hres := hide hres
    have q : decide ((xs.length : Int) ≤ (k : Int)) = true := by simp; omega
    clear hr hat hto hres
    go_enter Try.func16, Try.ntmps16
    go_wp2_with (go_at_call 18; (with_reducible refine Hat.out.mono ?_); rintro e w' ⟨rfl, rfl⟩)
    go_ret3
    rw [Hres.out]
    exact ⟨_, rfl, Made.nil w⟩
  have hk : k < xs.length := by omega
  have q : decide ((xs.length : Int) ≤ (k : Int)) = false := by simp; omega
  rw [if_neg (by simp; omega)] at hto
  obtain ⟨b, off, rfl, hb, c0⟩ := H3.out k hk
  obtain ⟨y, hy⟩ : ∃ y, y = xs[k] := ⟨_, rfl⟩
  rw [← hy] at c0
  by_cases hjk : j = k
  · subst hjk
    have hres : toRes xs (j : Int) (j : Int) = (xs, -1, 0) := by rw [hto, if_pos rfl]
    obtain ⟨x, hxj⟩ : ∃ x, x = xs[j] := ⟨_, rfl⟩
    rw [← hxj] at hat
    have Hat := hide hat
    have Hres := hide hres
    have hset : xs.set j x = xs := by rw [hxj]; exact List.set_getElem_self hj
    have Hset := hide hset
    clear hset
    clear hr hat hto hres hxj hy
    go_enter Try.func16, Try.ntmps16
    go_wp2_with (go_at_call 18; (with_reducible refine Hat.out.mono ?_); rintro e w' ⟨rfl, rfl⟩)
    go_at_call 34
    refine (rwith_any _ xs j x B w Hr.out hj hx).mono ?_
    rintro e w1 ⟨v', rfl, hM⟩
    rw [Hset.out] at hM
    have HM := hide hM
    clear hM
    go_wp2
    go_ret3
    rw [Hres.out]
    exact ⟨_, rfl, HM.out⟩
  · have hres : toRes xs (j : Int) (k : Int) = (xs.set k xs[j], y, 0) := by
      rw [hto, if_neg (by omega), Int.toNat_natCast, List.getD_eq_getElem?_getD, List.getElem?_eq_getElem hk, hy]
      rfl
    obtain ⟨x, hxj⟩ : ∃ x, x = xs[j] := ⟨_, rfl⟩
    rw [← hxj] at hres hat
    have Hat := hide hat
    have Hres := hide hres
    have q2 : ((j : Int) == (k : Int)) = false := by simp; omega
    clear hr hat hto hres hxj hy
    go_enter Try.func16, Try.ntmps16
    go_wp2_with (go_at_call 18; (with_reducible refine Hat.out.mono ?_); rintro e w' ⟨rfl, rfl⟩)
    go_at_call 34
    refine (rwith_any _ xs k x B w Hr.out hk hx).mono ?_
    rintro e w1 ⟨v', rfl, hM⟩
    have HM := hide hM
    clear hM
    go_wp2
    go_ret3
    rw [Hres.out]
    exact ⟨_, rfl, HM.out⟩

end Go.Proofs.Ytppnegohdogjeaa
