/- The walks of Get, Drop, Open of the program's table. -/
import Derived.Test.YtppnegohdogjeaaF
namespace Go.Proofs.Ytppnegohdogjeaa
open Go.RowKit

theorem TabIs.put6 {w : World} {b : Nat} {ty : TypeId} {T : List Sl} (h : TabIs w b ty T) (n : Nat) (hn : n < 60) (d : Sl) :
    TabIs ((((((w.setCell ⟨b, n * 6, none⟩ (.int .i64 d.o)).setCell ⟨b, n * 6 + 1, none⟩ (.int .i64 d.t)).setCell ⟨b, n * 6 + 2, none⟩ (.int .i64 d.w)).setCell ⟨b, n * 6 + 3, none⟩ (.bool d.e)).setCell ⟨b, n * 6 + 4, none⟩ (.int .i64 d.a)).setCell ⟨b, n * 6 + 5, none⟩ (.int .i64 d.h)) b ty (T.set n d) := by
  have hl : n < T.length := by rw [h.len]; exact hn
  obtain ⟨s, hs⟩ : ∃ s, T.getD n sl0 = s := ⟨_, rfl⟩
  have hg : ∀ s', (T.set n s').getD n sl0 = s' := fun s' => getD_set T n hl s'
  have h0 := h.set n hn s hs 0 (by omega) (.int .i64 d.o) { s with o := d.o } rfl
  have h1 := h0.set n hn _ (hg _) 1 (by omega) (.int .i64 d.t) { s with o := d.o, t := d.t } rfl
  rw [List.set_set] at h1
  have h2 := h1.set n hn _ (hg _) 2 (by omega) (.int .i64 d.w) { s with o := d.o, t := d.t, w := d.w } rfl
  rw [List.set_set] at h2
  have h3 := h2.set n hn _ (hg _) 3 (by omega) (.bool d.e) { s with o := d.o, t := d.t, w := d.w, e := d.e } rfl
  rw [List.set_set] at h3
  have h4 := h3.set n hn _ (hg _) 4 (by omega) (.int .i64 d.a) { s with o := d.o, t := d.t, w := d.w, e := d.e, a := d.a } rfl
  rw [List.set_set] at h4
  have h5 := h4.set n hn _ (hg _) 5 (by omega) (.int .i64 d.h) d rfl
  rw [List.set_set] at h5
  exact h5
theorem only_put6 {a w : World} {b : Nat} (h : a.grownBy w (some b)) (n : Nat) (u0 u1 u2 u3 u4 u5 : Value) :
    a.grownBy ((((((w.setCell ⟨b, n * 6, none⟩ u0).setCell ⟨b, n * 6 + 1, none⟩ u1).setCell ⟨b, n * 6 + 2, none⟩ u2).setCell ⟨b, n * 6 + 3, none⟩ u3).setCell ⟨b, n * 6 + 4, none⟩ u4).setCell ⟨b, n * 6 + 5, none⟩ u5) (some b) :=
  only_setCell (only_setCell (only_setCell (only_setCell (only_setCell (only_setCell h (.inl rfl) _) (.inl rfl) _) (.inl rfl) _) (.inl rfl) _) (.inl rfl) _) (.inl rfl) _

def GetPost (w : World) (T : List Sl) (n : Int) (e : Ending) (w' : World) : Prop := e = .returned (.tuple #[(getRes T n).1, .bool (getRes T n).2]) ∧ w.grownBy w' none
set_option maxHeartbeats 400000 in
theorem get_any (b : Nat) (T : List Sl) (n : Int) (w : World) (h : TabIs w b 66 T) : Calls Try.prog 25 #[.pointer (some ⟨b, 0, none⟩), .int .i64 n] w (GetPost w T n) := by
  have h1 := h.alloc (.cells #[.int .i64 0, .int .i64 0, .int .i64 0, .bool false, .int .i64 0] 41)
  have hat := slot_any b T n _ h1
  unfold GetPost
  cases hl : liveN T n with
  | none =>
    have hr : getRes T n = (noDesc, false) := by unfold getRes; rw [hl]
    rw [hr]
    unfold noDesc
    rw [hl] at hat
    have Hat := hide hat
    have H := hide h
    clear hat hl hr h h1
    go_enter Try.func25, Try.ntmps25
    go_wp2_with (go_at_call 39; (with_reducible refine Hat.out.mono ?_); rintro e w' ⟨rfl, rfl⟩)
    exact bodyPost_ret (v := .tuple #[.agg #[.int .i64 0, .int .i64 0, .int .i64 0, .bool false, .int .i64 0], .bool false]) (by simp [results, Try.results25, go_sem]) rfl ⟨rfl, (by repeat' (first | (with_reducible refine none_setCell ?_ ?_ _) | (with_reducible refine only_alloc ?_ _) | (with_reducible exact only_refl _ _) | (simp; done) | (simp; omega)))⟩
  | some k =>
    obtain ⟨rfl, hk, _⟩ := liveN_some hl
    obtain ⟨s, hs⟩ : ∃ s, T.getD k sl0 = s := ⟨_, rfl⟩
    have hr : getRes T k = (s.desc, true) := by unfold getRes; rw [hl]; simp only [hs]
    rw [hr]
    rw [hl] at hat
    obtain ⟨c0, c1, c2, c3, c4, c5⟩ := h1.c k hk s hs
    have hbs : b < w.heap.size := h.lt
    unfold Sl.desc
    have Hat := hide hat
    have H := hide h
    clear hat hl hr h h1 hs
    go_enter Try.func25, Try.ntmps25
    go_wp2_with (go_at_call 39; (with_reducible refine Hat.out.mono ?_); rintro e w' ⟨rfl, rfl⟩)
    exact bodyPost_ret (v := .tuple #[.agg #[.int .i64 s.o, .int .i64 s.t, .int .i64 s.w, .bool s.e, .int .i64 s.a], .bool true]) (by simp [results, Try.results25, go_sem]) rfl ⟨rfl, (by repeat' (first | (with_reducible refine none_setCell ?_ ?_ _) | (with_reducible refine only_alloc ?_ _) | (with_reducible exact only_refl _ _) | (simp; done) | (simp; omega)))⟩

set_option maxHeartbeats 1000000 in
theorem drop_any (b : Nat) (T : List Sl) (n : Int) (w : World) (h : TabIs w b 66 T) (hb : heldRes T n ≤ 1000000) :
    Calls Try.prog 23 #[.pointer (some ⟨b, 0, none⟩), .int .i64 n] w (Post w b 66 (dropRes T n).1 (.tuple #[(dropRes T n).2.1, .bool (dropRes T n).2.2])) := by
  have h1 := h.alloc (.cells #[.int .i64 0, .int .i64 0, .int .i64 0, .bool false, .int .i64 0] 41)
  have hat := slot_any b T n _ h1
  cases hl : liveN T n with
  | none =>
    have hr : dropRes T n = (T, noDesc, false) := by unfold dropRes; rw [hl]
    rw [hr]
    unfold noDesc
    rw [hl] at hat
    have Hat := hide hat
    have H := hide h
    clear hat hl hr h h1
    go_enter Try.func23, Try.ntmps23
    go_wp2_with (go_at_call 39; (with_reducible refine Hat.out.mono ?_); rintro e w' ⟨rfl, rfl⟩)
    refine bodyPost_ret (v := .tuple #[.agg #[.int .i64 0, .int .i64 0, .int .i64 0, .bool false, .int .i64 0], .bool false]) (by simp [results, Try.results23, go_sem]) rfl ⟨rfl, ?_, ?_⟩
    · exact H.out.alloc _
    · exact only_alloc (only_refl _ _) _
  | some k =>
    obtain ⟨rfl, hk, hpos⟩ := liveN_some hl
    obtain ⟨s, hs⟩ : ∃ s, T.getD k sl0 = s := ⟨_, rfl⟩
    have hh : heldRes T k = s.h := by unfold heldRes; rw [hl]; simp only [hs]
    rw [hh] at hb
    rw [hl] at hat
    rw [hs] at hpos
    obtain ⟨c0, c1, c2, c3, c4, c5⟩ := h.c k hk s hs
    have z5 := h.z (k * 6 + 5)
    have hbs : b < w.heap.size := h.lt
    have hset := h.set k hk s hs 5 (by omega) (.int .i64 ((s.h - 1 : Nat) : Int)) (putH s (s.h - 1)) (by simp [Sl.cells, putH])
    rw [show ((s.h - 1 : Nat) : Int) = (s.h : Int) - 1 from by omega] at hset
    by_cases h2 : 1 < s.h
    · have hr : dropRes T k = (T.set k (putH s (s.h - 1)), noDesc, false) := by unfold dropRes; rw [hl]; simp only [hs]; rw [if_pos h2]
      rw [hr]
      unfold noDesc
      have Hat := hide hat
      have Hset := hide hset
      clear hat hl hr h h1 hs hh hset
      go_enter Try.func23, Try.ntmps23
      go_wp2_with (go_at_call 39; (with_reducible refine Hat.out.mono ?_); rintro e w' ⟨rfl, rfl⟩)
      refine bodyPost_ret (v := .tuple #[.agg #[.int .i64 0, .int .i64 0, .int .i64 0, .bool false, .int .i64 0], .bool false]) (by simp [results, Try.results23, go_sem]) rfl ⟨rfl, ?_, ?_⟩
      · exact Hset.out.alloc _
      · exact only_alloc (only_setCell (only_refl _ _) (.inl rfl) _) _
    · have hr : dropRes T k = (T.set k (putH s (s.h - 1)), s.desc, true) := by unfold dropRes; rw [hl]; simp only [hs]; rw [if_neg h2]
      rw [hr]
      unfold Sl.desc
      have Hat := hide hat
      have Hset := hide hset
      clear hat hl hr h h1 hs hh hset
      go_enter Try.func23, Try.ntmps23
      go_wp2_with (go_at_call 39; (with_reducible refine Hat.out.mono ?_); rintro e w' ⟨rfl, rfl⟩)
      refine bodyPost_ret (v := .tuple #[.agg #[.int .i64 s.o, .int .i64 s.t, .int .i64 s.w, .bool s.e, .int .i64 s.a], .bool true]) (by simp [results, Try.results23, go_sem]) rfl ⟨rfl, ?_, ?_⟩
      · exact Hset.out.alloc _
      · exact only_alloc (only_setCell (only_refl _ _) (.inl rfl) _) _


set_option maxHeartbeats 1000000 in
theorem open_any (b : Nat) (T : List Sl) (d : Sl) (w : World) (h : TabIs w b 66 T) :
    Calls Try.prog 21 #[.pointer (some ⟨b, 0, none⟩), d.desc] w (Post w b 66 (openRes T d).1 (.tuple #[.int .i64 (openRes T d).2.1, .int .i64 (openRes T d).2.2])) := by
  unfold Sl.desc
  have hbs : b < w.heap.size := h.lt
  by_cases h1 : d.o < 1
  · have hr : openRes T d = (T, 0, 1) := by unfold openRes; rw [if_pos (.inl h1)]
    rw [hr]
    have q : decide (d.o < 1) = true := by simpa using h1
    have H := hide h
    clear h hr
    go_enter Try.func21, Try.ntmps21
    go_wp2
    go_ret2
    exact ⟨rfl, H.out.alloc _, only_alloc (only_refl _ _) _⟩
  by_cases h2 : 3 < d.o
  · have hr : openRes T d = (T, 0, 1) := by unfold openRes; rw [if_pos (.inr h2)]
    rw [hr]
    have q : decide (3 < d.o) = true := by simpa using h2
    have H := hide h
    clear h hr
    go_enter Try.func21, Try.ntmps21
    go_wp2
    go_ret2
    exact ⟨rfl, H.out.alloc _, only_alloc (only_refl _ _) _⟩
  have hi := index_any b T _ (h.alloc (.cells #[.int .i64 d.o, .int .i64 d.t, .int .i64 d.w, .bool d.e, .int .i64 d.a] 41))
  have q1 : decide (d.o < 1) = false := by simp; omega
  have q2 : decide (3 < d.o) = false := by simp; omega
  have hor : openRes T d = match fs T 0 with | some k => (T.set k (putH d 1), (k : Int), 0) | none => (T, 0, 12) := by unfold openRes; rw [if_neg (by omega)]; rfl
  cases hf : fs T 0 with
  | none =>
    rw [hf] at hor hi
    rw [hor]
    have Hi := hide hi
    have H := hide h
    clear h hor hi hf
    go_enter Try.func21, Try.ntmps21
    go_wp2_with fail
    go_at_call 37
    refine (Hi.out).mono ?_
    rintro e w1 ⟨rfl, hg⟩
    have Hg := hide hg
    clear hg
    have q3 : idx none = -1 := rfl
    rw [q3]
    clear q3
    go_wp2
    go_ret2
    exact ⟨rfl, (H.out.alloc _).gr Hg.out (by simp), only_of_none (only_trans (only_alloc (only_refl _ _) _) Hg.out) _⟩
  | some k =>
    obtain ⟨_, hk, _⟩ := fs_lt _ 0 rfl hf
    rw [h.len] at hk
    rw [hf] at hor hi
    rw [hor]
    have Hi := hide hi
    have H := hide h
    clear h hor hi hf
    go_enter Try.func21, Try.ntmps21
    go_wp2_with fail
    go_at_call 37
    refine (Hi.out).mono ?_
    rintro e w1 ⟨rfl, hg⟩
    have q3 : idx (some k) = (k : Int) := rfl
    rw [q3]
    clear q3
    obtain ⟨s, hs⟩ : ∃ s, T.getD k sl0 = s := ⟨_, rfl⟩
    have ht := (H.out.alloc (.cells #[.int .i64 d.o, .int .i64 d.t, .int .i64 d.w, .bool d.e, .int .i64 d.a] 41)).gr hg (by simp)
    obtain ⟨c0, c1, c2, c3, c4, c5⟩ := ht.c k hk s hs
    have z := ht.z
    have Ht := hide ht
    have Hs := hide hs
    have hblk := (Blk.new w 41 #[.int .i64 d.o, .int .i64 d.t, .int .i64 d.w, .bool d.e, .int .i64 d.a]).grown hg (by simp)
    obtain ⟨⟨p0, p1, p2, p3, p4⟩, -⟩ := hblk.c5
    have Hg := hide hg
    clear hg ht hs hblk
    go_wp2_with fail
    refine wp_region_qtail 7 (by kernel_rfl) (by kernel_rfl) ?_
    simp only [List.take_succ_cons, List.take_zero, List.drop_succ_cons, List.drop_zero]
    repeat (go_big_quiet_step (fail))
    refine wpQuiet_nil ?_
    rintro _ ⟨nq, rfl⟩
    go_wp2
    go_ret2
    exact ⟨rfl, (Ht.out.gr (only_drewN (only_refl _ none) nq) (by simp)).put6 k hk (putH d 1), only_put6 (only_drewN (only_of_none (only_trans (only_alloc (only_refl _ _) _) Hg.out) _) nq) k _ _ _ _ _ _⟩

end Go.Proofs.Ytppnegohdogjeaa
