/- The walks of the reference's table. -/
import Derived.Test.YtppnegohdogjeaaG
namespace Go.Proofs.Ytppnegohdogjeaa
open Go.RowKit

theorem TabIs.off {w : World} {b : Nat} {ty : TypeId} {T : List Sl} (h : TabIs w b ty T) {p : Addr} (hp : p.block ≠ b) (u : Value) : TabIs (w.setCell p u) b ty T := ⟨h.blk.far (Ne.symm hp) u, h.len⟩
set_option maxHeartbeats 400000 in
theorem is_any (b : Nat) (T : List Sl) (n : Int) (w : World) (h : TabIs w b 53 T) :
    Calls Try.prog 40 #[.pointer (some ⟨b, 0, none⟩), .int .i64 n] w fun e w' => e = .returned (.bool (liveN T n).isSome) ∧ w = w' := by
  by_cases h1 : n < 0
  · have hl : liveN T n = none := by unfold liveN; rw [if_neg (by omega)]
    rw [hl]
    have q : decide (0 ≤ n) = false := by simpa using h1
    clear hl h
    go_enter Try.func40, Try.ntmps40
    go_wp2
    go_ret
    exact ⟨rfl, rfl⟩
  obtain ⟨k, rfl⟩ : ∃ k : Nat, n = k := ⟨n.toNat, by omega⟩
  by_cases h2 : k < 60
  · obtain ⟨s, hs⟩ : ∃ s, T.getD k sl0 = s := ⟨_, rfl⟩
    obtain ⟨c0, c1, c2, c3, c4, c5⟩ := h.c k h2 s hs
    have q : decide ((k : Int) < 60) = true := by simp; omega
    by_cases h3 : s.h = 0
    · have hl : liveN T (k : Int) = none := by unfold liveN; rw [if_neg (by rw [Int.toNat_natCast, hs]; omega)]
      rw [hl]
      have q2 : decide (0 < s.h) = false := by simp; omega
      clear hl h hs h3
      go_enter Try.func40, Try.ntmps40
      go_wp2
      go_ret
      exact ⟨rfl, rfl⟩
    · have hl : liveN T (k : Int) = some k := by unfold liveN; rw [if_pos (by rw [Int.toNat_natCast, hs]; exact ⟨by omega, by omega, h3⟩)]; rfl
      rw [hl]
      have q2 : decide (0 < s.h) = true := by simp; omega
      clear hl h hs h3
      go_enter Try.func40, Try.ntmps40
      go_wp2
      go_ret
      exact ⟨rfl, rfl⟩
  · have hl : liveN T (k : Int) = none := by unfold liveN; rw [if_neg (by omega)]
    rw [hl]
    have q : decide ((k : Int) < 60) = false := by simp; omega
    clear hl h
    go_enter Try.func40, Try.ntmps40
    go_wp2
    go_ret
    exact ⟨rfl, rfl⟩

set_option maxHeartbeats 1000000 in
theorem rheld_any (b : Nat) (T : List Sl) (n : Int) (w : World) (h : TabIs w b 53 T) :
    Calls Try.prog 32 #[.pointer (some ⟨b, 0, none⟩), .int .i64 n] w fun e w' => e = .returned (.int .i64 (heldRes T n)) ∧ w = w' := by
  have hat := is_any b T n w h
  cases hl : liveN T n with
  | none =>
    have hr : heldRes T n = 0 := by unfold heldRes; rw [hl]
    rw [hr]
    rw [hl, Option.isSome_none] at hat
    have Hat := hide hat
    clear hat hl hr h
    go_enter Try.func32, Try.ntmps32
    go_wp2_with (go_at_call 40; (with_reducible refine Hat.out.mono ?_); rintro e w' ⟨rfl, rfl⟩)
    go_ret
    exact ⟨rfl, rfl⟩
  | some k =>
    have hr : heldRes T n = (T.getD k sl0).h := by unfold heldRes; rw [hl]
    rw [hr]
    rw [hl, Option.isSome_some] at hat
    obtain ⟨rfl, hk, _⟩ := liveN_some hl
    obtain ⟨s, hs⟩ : ∃ s, T.getD k sl0 = s := ⟨_, rfl⟩
    obtain ⟨c0, c1, c2, c3, c4, c5⟩ := h.c k hk s hs
    rw [hs]
    have Hat := hide hat
    clear hat hl hr h hs
    go_enter Try.func32, Try.ntmps32
    go_wp2_with (go_at_call 40; (with_reducible refine Hat.out.mono ?_); rintro e w' ⟨rfl, rfl⟩)
    go_ret
    exact ⟨rfl, rfl⟩


set_option maxHeartbeats 1000000 in
theorem rseek_any (b : Nat) (T : List Sl) (n a : Int) (w : World) (h : TabIs w b 53 T) :
    Calls Try.prog 28 #[.pointer (some ⟨b, 0, none⟩), .int .i64 n, .int .i64 a] w (Post w b 53 (seekRes T n a).1 (.bool (seekRes T n a).2)) := by
  have hat := is_any b T n w h
  cases hl : liveN T n with
  | none =>
    have hr : seekRes T n a = (T, false) := by unfold seekRes; rw [hl]
    rw [hr]
    rw [hl, Option.isSome_none] at hat
    have Hat := hide hat
    have H := hide h
    clear hat hl hr h
    go_enter Try.func28, Try.ntmps28
    go_wp2_with (go_at_call 40; (with_reducible refine Hat.out.mono ?_); rintro e w' ⟨rfl, rfl⟩)
    go_ret
    exact ⟨rfl, H.out, only_refl _ _⟩
  | some k =>
    rw [hl, Option.isSome_some] at hat
    obtain ⟨rfl, hk, _⟩ := liveN_some hl
    obtain ⟨s, hs⟩ : ∃ s, T.getD k sl0 = s := ⟨_, rfl⟩
    obtain ⟨c0, c1, c2, c3, c4, c5⟩ := h.c k hk s hs
    have z4 := h.z (k * 6 + 4)
    have H := hide h
    have Hs := hide hs
    have Hat := hide hat
    by_cases ha : a < 0
    · have hr : seekRes T k a = (T, false) := by unfold seekRes; rw [hl]; simp [ha]
      rw [hr]
      have q : decide (a < 0) = true := by simpa using ha
      clear hat hl hr h hs
      go_enter Try.func28, Try.ntmps28
      go_wp2_with (go_at_call 40; (with_reducible refine Hat.out.mono ?_); rintro e w' ⟨rfl, rfl⟩)
      go_ret
      exact ⟨rfl, H.out, only_refl _ _⟩
    · have hr : seekRes T k a = (T.set k (putA s a), true) := by unfold seekRes; rw [hl]; simp only [hs]; rw [if_neg ha]
      rw [hr]
      have q : decide (a < 0) = false := by simpa using ha
      clear hat hl hr h hs
      go_enter Try.func28, Try.ntmps28
      go_wp2_with (go_at_call 40; (with_reducible refine Hat.out.mono ?_); rintro e w' ⟨rfl, rfl⟩)
      go_ret
      exact ⟨rfl, H.out.set k hk s Hs.out 4 (by omega) _ _ rfl, only_setCell (only_refl _ _) (.inl rfl) _⟩


set_option maxHeartbeats 1000000 in
theorem rhold_any (b : Nat) (T : List Sl) (n : Int) (w : World) (h : TabIs w b 53 T) (hb : heldRes T n ≤ 1000000) :
    Calls Try.prog 29 #[.pointer (some ⟨b, 0, none⟩), .int .i64 n] w (Post w b 53 (holdRes T n).1 (.bool (holdRes T n).2)) := by
  have hat := is_any b T n w h
  cases hl : liveN T n with
  | none =>
    have hr : holdRes T n = (T, false) := by unfold holdRes; rw [hl]
    rw [hr]
    rw [hl, Option.isSome_none] at hat
    have Hat := hide hat
    have H := hide h
    clear hat hl hr h
    go_enter Try.func29, Try.ntmps29
    go_wp2_with (go_at_call 40; (with_reducible refine Hat.out.mono ?_); rintro e w' ⟨rfl, rfl⟩)
    go_ret
    exact ⟨rfl, H.out, only_refl _ _⟩
  | some k =>
    rw [hl, Option.isSome_some] at hat
    obtain ⟨rfl, hk, _⟩ := liveN_some hl
    obtain ⟨s, hs⟩ : ∃ s, T.getD k sl0 = s := ⟨_, rfl⟩
    have hh : heldRes T k = s.h := by unfold heldRes; rw [hl]; simp only [hs]
    have hr : holdRes T k = (T.set k (putH s (s.h + 1)), true) := by unfold holdRes; rw [hl]; simp only [hs]
    rw [hr]
    rw [hh] at hb
    obtain ⟨c0, c1, c2, c3, c4, c5⟩ := h.c k hk s hs
    have z4 := h.z (k * 6 + 5)
    have H := hide h
    have Hs := hide hs
    have Hat := hide hat
    clear hat hl hr h hs hh
    go_enter Try.func29, Try.ntmps29
    go_wp2_with (go_at_call 40; (with_reducible refine Hat.out.mono ?_); rintro e w' ⟨rfl, rfl⟩)
    refine wp_region_qtail 12 (by kernel_rfl) (by kernel_rfl) ?_
    simp only [List.take_succ_cons, List.take_zero, List.drop_succ_cons, List.drop_zero]
    repeat (go_big_quiet_step (fail))
    refine wpQuiet_nil ?_
    rintro _ ⟨nq, rfl⟩
    go_wp2
    go_ret
    exact ⟨rfl, TabIs.set (H.out.gr (only_drewN (only_refl _ none) nq) (by simp)) k hk s Hs.out 5 (by omega) _ _ (by simp [Sl.cells, putH]), only_setCell (only_drewN (only_refl _ _) nq) (.inl rfl) _⟩


set_option maxHeartbeats 1000000 in
theorem rget_any (b : Nat) (T : List Sl) (n : Int) (w : World) (h : TabIs w b 53 T) : Calls Try.prog 31 #[.pointer (some ⟨b, 0, none⟩), .int .i64 n] w (GetPost w T n) := by
  have h1 := h.alloc (.cells #[.int .i64 0, .int .i64 0, .int .i64 0, .bool false, .int .i64 0] 41)
  have hat := is_any b T n _ h1
  unfold GetPost
  cases hl : liveN T n with
  | none =>
    have hr : getRes T n = (noDesc, false) := by unfold getRes; rw [hl]
    rw [hr]
    unfold noDesc
    rw [hl, Option.isSome_none] at hat
    have Hat := hide hat
    have H := hide h
    clear hat hl hr h h1
    go_enter Try.func31, Try.ntmps31
    go_wp2_with (go_at_call 40; (with_reducible refine Hat.out.mono ?_); rintro e w' ⟨rfl, rfl⟩)
    exact bodyPost_ret (v := .tuple #[.agg #[.int .i64 0, .int .i64 0, .int .i64 0, .bool false, .int .i64 0], .bool false]) (by simp [results, Try.results31, go_sem]) rfl ⟨rfl, (by repeat' (first | (with_reducible refine none_setCell ?_ ?_ _) | (with_reducible refine only_alloc ?_ _) | (with_reducible exact only_refl _ _) | (simp; done) | (simp; omega)))⟩
  | some k =>
    obtain ⟨rfl, hk, _⟩ := liveN_some hl
    obtain ⟨s, hs⟩ : ∃ s, T.getD k sl0 = s := ⟨_, rfl⟩
    have hr : getRes T k = (s.desc, true) := by unfold getRes; rw [hl]; simp only [hs]
    rw [hr]
    rw [hl, Option.isSome_some] at hat
    obtain ⟨c0, c1, c2, c3, c4, c5⟩ := h1.c k hk s hs
    have hbs : b < w.heap.size := h.lt
    unfold Sl.desc
    have Hat := hide hat
    have H := hide h
    clear hat hl hr h h1 hs
    go_enter Try.func31, Try.ntmps31
    go_wp2_with (go_at_call 40; (with_reducible refine Hat.out.mono ?_); rintro e w' ⟨rfl, rfl⟩)
    exact bodyPost_ret (v := .tuple #[.agg #[.int .i64 s.o, .int .i64 s.t, .int .i64 s.w, .bool s.e, .int .i64 s.a], .bool true]) (by simp [results, Try.results31, go_sem]) rfl ⟨rfl, (by repeat' (first | (with_reducible refine none_setCell ?_ ?_ _) | (with_reducible refine only_alloc ?_ _) | (with_reducible exact only_refl _ _) | (simp; done) | (simp; omega)))⟩


set_option maxHeartbeats 1000000 in
theorem rdrop_any (b : Nat) (T : List Sl) (n : Int) (w : World) (h : TabIs w b 53 T) (hb : heldRes T n ≤ 1000000) :
    Calls Try.prog 30 #[.pointer (some ⟨b, 0, none⟩), .int .i64 n] w (Post w b 53 (dropRes T n).1 (.tuple #[(dropRes T n).2.1, .bool (dropRes T n).2.2])) := by
  have h1 := h.alloc (.cells #[.int .i64 0, .int .i64 0, .int .i64 0, .bool false, .int .i64 0] 41)
  have hat := is_any b T n _ h1
  cases hl : liveN T n with
  | none =>
    have hr : dropRes T n = (T, noDesc, false) := by unfold dropRes; rw [hl]
    rw [hr]
    unfold noDesc
    rw [hl, Option.isSome_none] at hat
    have Hat := hide hat
    have H := hide h
    clear hat hl hr h h1
    go_enter Try.func30, Try.ntmps30
    go_wp2_with (go_at_call 40; (with_reducible refine Hat.out.mono ?_); rintro e w' ⟨rfl, rfl⟩)
    refine bodyPost_ret (v := .tuple #[.agg #[.int .i64 0, .int .i64 0, .int .i64 0, .bool false, .int .i64 0], .bool false]) (by simp [results, Try.results30, go_sem]) rfl ⟨rfl, ?_, ?_⟩
    · exact H.out.alloc _
    · exact only_alloc (only_refl _ _) _
  | some k =>
    obtain ⟨rfl, hk, hpos⟩ := liveN_some hl
    obtain ⟨s, hs⟩ : ∃ s, T.getD k sl0 = s := ⟨_, rfl⟩
    have hh : heldRes T k = s.h := by unfold heldRes; rw [hl]; simp only [hs]
    rw [hh] at hb
    rw [hl, Option.isSome_some] at hat
    rw [hs] at hpos
    obtain ⟨c0, c1, c2, c3, c4, c5⟩ := h.c k hk s hs
    have z5 := h.z (k * 6 + 5)
    have hbs : b < w.heap.size := h.lt
    by_cases h2 : 1 < s.h
    · have hr : dropRes T k = (T.set k (putH s (s.h - 1)), noDesc, false) := by unfold dropRes; rw [hl]; simp only [hs]; rw [if_pos h2]
      rw [hr]
      unfold noDesc
      have Hat := hide hat
      have Hs := hide hs
      have H := hide h
      clear hat hl hr h h1 hs hh
      go_enter Try.func30, Try.ntmps30
      go_wp2_with (go_at_call 40; (with_reducible refine Hat.out.mono ?_); rintro e w' ⟨rfl, rfl⟩)
      refine wp_region_qtail 12 (by kernel_rfl) (by kernel_rfl) ?_
      simp only [List.take_succ_cons, List.take_zero, List.drop_succ_cons, List.drop_zero]
      repeat (go_big_quiet_step (fail))
      refine wpQuiet_nil ?_
      rintro _ ⟨nq, rfl⟩
      go_wp2
      refine bodyPost_ret (v := .tuple #[.agg #[.int .i64 0, .int .i64 0, .int .i64 0, .bool false, .int .i64 0], .bool false]) (by simp [results, Try.results30, go_sem]) rfl ⟨rfl, ?_, ?_⟩
      · have hset := TabIs.set (H.out.gr (only_drewN (only_alloc (only_refl _ none) (.cells #[.int .i64 0, .int .i64 0, .int .i64 0, .bool false, .int .i64 0] 41)) nq) (by simp)) k hk s Hs.out 5 (by omega) (.int .i64 ((s.h - 1 : Nat) : Int)) (putH s (s.h - 1)) (by simp [Sl.cells, putH])
        rw [show ((s.h - 1 : Nat) : Int) = (s.h : Int) - 1 from by omega] at hset
        have hne : w.heap.size ≠ b := by omega
        exact ((((hset.off (p := ⟨w.heap.size, 0, none⟩) hne _).off (p := ⟨w.heap.size, 1, none⟩) hne _).off (p := ⟨w.heap.size, 2, none⟩) hne _).off (p := ⟨w.heap.size, 3, none⟩) hne _).off (p := ⟨w.heap.size, 4, none⟩) hne _
      · exact only_setCell (only_setCell (only_setCell (only_setCell (only_setCell (only_setCell (only_drewN (only_alloc (only_refl _ _) _) nq) (.inl rfl) _) (.inr (Nat.le_refl _)) _) (.inr (Nat.le_refl _)) _) (.inr (Nat.le_refl _)) _) (.inr (Nat.le_refl _)) _) (.inr (Nat.le_refl _)) _
    · have hr : dropRes T k = (T.set k (putH s (s.h - 1)), s.desc, true) := by unfold dropRes; rw [hl]; simp only [hs]; rw [if_neg h2]
      rw [hr]
      unfold Sl.desc
      have Hat := hide hat
      have Hs := hide hs
      have H := hide h
      clear hat hl hr h h1 hs hh
      go_enter Try.func30, Try.ntmps30
      go_wp2_with (go_at_call 40; (with_reducible refine Hat.out.mono ?_); rintro e w' ⟨rfl, rfl⟩)
      refine wp_region_qtail 12 (by kernel_rfl) (by kernel_rfl) ?_
      simp only [List.take_succ_cons, List.take_zero, List.drop_succ_cons, List.drop_zero]
      repeat (go_big_quiet_step (fail))
      refine wpQuiet_nil ?_
      rintro _ ⟨nq, rfl⟩
      go_wp2
      refine bodyPost_ret (v := .tuple #[.agg #[.int .i64 s.o, .int .i64 s.t, .int .i64 s.w, .bool s.e, .int .i64 s.a], .bool true]) (by simp [results, Try.results30, go_sem]) rfl ⟨rfl, ?_, ?_⟩
      · have hset := TabIs.set (H.out.gr (only_drewN (only_alloc (only_refl _ none) (.cells #[.int .i64 0, .int .i64 0, .int .i64 0, .bool false, .int .i64 0] 41)) nq) (by simp)) k hk s Hs.out 5 (by omega) (.int .i64 ((s.h - 1 : Nat) : Int)) (putH s (s.h - 1)) (by simp [Sl.cells, putH])
        rw [show ((s.h - 1 : Nat) : Int) = (s.h : Int) - 1 from by omega] at hset
        have hne : w.heap.size ≠ b := by omega
        exact ((((hset.off (p := ⟨w.heap.size, 0, none⟩) hne _).off (p := ⟨w.heap.size, 1, none⟩) hne _).off (p := ⟨w.heap.size, 2, none⟩) hne _).off (p := ⟨w.heap.size, 3, none⟩) hne _).off (p := ⟨w.heap.size, 4, none⟩) hne _
      · exact only_setCell (only_setCell (only_setCell (only_setCell (only_setCell (only_setCell (only_drewN (only_alloc (only_refl _ _) _) nq) (.inl rfl) _) (.inr (Nat.le_refl _)) _) (.inr (Nat.le_refl _)) _) (.inr (Nat.le_refl _)) _) (.inr (Nat.le_refl _)) _) (.inr (Nat.le_refl _)) _


set_option maxHeartbeats 1000000 in
theorem ropen_any (b : Nat) (T : List Sl) (d : Sl) (w : World) (h : TabIs w b 53 T) :
    Calls Try.prog 26 #[.pointer (some ⟨b, 0, none⟩), d.desc] w (Post w b 53 (openRes T d).1 (.tuple #[.int .i64 (openRes T d).2.1, .int .i64 (openRes T d).2.2])) := by
  unfold Sl.desc
  have hbs : b < w.heap.size := h.lt
  by_cases h1 : d.o < 1
  · have hr : openRes T d = (T, 0, 1) := by unfold openRes; rw [if_pos (.inl h1)]
    rw [hr]
    have q : decide (d.o < 1) = true := by simpa using h1
    have H := hide h
    clear h hr
    go_enter Try.func26, Try.ntmps26
    go_wp2
    go_ret2
    exact ⟨rfl, H.out.alloc _, only_alloc (only_refl _ _) _⟩
  by_cases h2 : 3 < d.o
  · have hr : openRes T d = (T, 0, 1) := by unfold openRes; rw [if_pos (.inr h2)]
    rw [hr]
    have q : decide (3 < d.o) = true := by simpa using h2
    have H := hide h
    clear h hr
    go_enter Try.func26, Try.ntmps26
    go_wp2
    go_ret2
    exact ⟨rfl, H.out.alloc _, only_alloc (only_refl _ _) _⟩
  have q1 : decide (d.o < 1) = false := by simp; omega
  have q2 : decide (3 < d.o) = false := by simp; omega
  have hor : openRes T d = match fs T 0 with | some k => (T.set k (putH d 1), (k : Int), 0) | none => (T, 0, 12) := by unfold openRes; rw [if_neg (by omega)]; rfl
  have H := hide h
  have ht := h.alloc (.cells #[.int .i64 d.o, .int .i64 d.t, .int .i64 d.w, .bool d.e, .int .i64 d.a] 41)
  have Ht := hide ht
  have Hor := hide hor
  have hlen := h.len
  have Hlen := hide hlen
  clear h hor ht hlen
  go_enter Try.func26, Try.ntmps26
  go_wp2_with fail
  go_loop [6] (fun u => ∃ k : Nat, u = .int .i64 k ∧ k ≤ 60 ∧ fs T k = fs T 0) (fun u => 60 - (intOf u).toNat)
  case atStart => exact ⟨0, rfl, by omega, rfl⟩
  case round =>
    obtain ⟨k, rfl, hk, hff⟩ := hrel
    by_cases hlt : k < 60
    · have hkl : k < T.length := by rw [Hlen.out]; exact hlt
      obtain ⟨s, hs⟩ : ∃ s, T.getD k sl0 = s := ⟨_, rfl⟩
      have hs' : T[k] = s := by rw [← hs, List.getD_eq_getElem?_getD, List.getElem?_eq_getElem hkl]; rfl
      obtain ⟨c0, c1, c2, c3, c4, c5⟩ := H.out.c k hlt s hs
      clear hs
      by_cases h0 : s.h = 0
      · have hr : fs T 0 = some k := by rw [← hff, fs_here hkl (by rw [hs', h0])]
        have hor := Hor.out
        rw [hr] at hor
        rw [hor]
        have z := H.out.z
        have q : (((s.h : Nat) : Int) == 0) = true := by rw [h0]; rfl
        clear h0 hff hs' hr hor
        go_wp2_with fail
        refine wp_region_qtail 7 (by kernel_rfl) (by kernel_rfl) ?_
        simp only [List.take_succ_cons, List.take_zero, List.drop_succ_cons, List.drop_zero]
        repeat (go_big_quiet_step (fail))
        refine wpQuiet_nil ?_
        rintro _ ⟨nq, rfl⟩
        go_wp2
        go_ret2
        refine ⟨rfl, ?_, ?_⟩
        · exact (Ht.out.gr (only_drewN (only_refl _ none) nq) (by simp)).put6 k hlt (putH d 1)
        · exact only_put6 (only_drewN (only_of_none (only_alloc (only_refl _ _) _) _) nq) k _ _ _ _ _ _
      · have hr : fs T (k + 1) = fs T 0 := by rw [← hff, fs_next hkl (by rw [hs']; exact h0)]
        have Hr := hide hr
        have q : (((s.h : Nat) : Int) == 0) = false := by simp; omega
        clear h0 hff hs' hr
        go_wp2
        go_round
        case rel => exact ⟨k + 1, by go_num, by omega, Hr.out⟩
        case measure => simp [intOf]; omega
    · have hr : fs T 0 = none := by rw [← hff, fs_end (by have := Hlen.out; omega)]
      have hor := Hor.out
      rw [hr] at hor
      have Hor2 := hide hor
      clear hr hff hor
      go_wp2
      go_ret2
      rw [Hor2.out]
      exact ⟨rfl, Ht.out, only_alloc (only_refl _ _) _⟩

end Go.Proofs.Ytppnegohdogjeaa
