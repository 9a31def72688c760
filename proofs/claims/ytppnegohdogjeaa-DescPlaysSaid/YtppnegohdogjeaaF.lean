/- The walks of the program's methods of a table: New, Open, Get, Seek, Hold, Drop, Held. -/
import Derived.Test.YtppnegohdogjeaaE
namespace Go.Proofs.Ytppnegohdogjeaa
open Go.RowKit

def putA (s : Sl) (a : Int) : Sl := { s with a := a }
def putH (s : Sl) (h : Nat) : Sl := { s with h := h }
def getRes (T : List Sl) (n : Int) : Value × Bool := match liveN T n with | some k => ((T.getD k sl0).desc, true) | none => (noDesc, false)
def heldRes (T : List Sl) (n : Int) : Nat := match liveN T n with | some k => (T.getD k sl0).h | none => 0
def seekRes (T : List Sl) (n a : Int) : List Sl × Bool := match liveN T n with | some k => if a < 0 then (T, false) else (T.set k (putA (T.getD k sl0) a), true) | none => (T, false)
def holdRes (T : List Sl) (n : Int) : List Sl × Bool := match liveN T n with | some k => (T.set k (putH (T.getD k sl0) ((T.getD k sl0).h + 1)), true) | none => (T, false)
def dropRes (T : List Sl) (n : Int) : List Sl × Value × Bool :=
  match liveN T n with
  | some k => if 1 < (T.getD k sl0).h then (T.set k (putH (T.getD k sl0) ((T.getD k sl0).h - 1)), noDesc, false) else (T.set k (putH (T.getD k sl0) ((T.getD k sl0).h - 1)), (T.getD k sl0).desc, true)
  | none => (T, noDesc, false)
def openRes (T : List Sl) (d : Sl) : List Sl × Int × Int :=
  if d.o < 1 ∨ 3 < d.o then (T, 0, 1) else match fs T 0 with | some k => (T.set k (putH d 1), k, 0) | none => (T, 0, 12)
def Post (w : World) (b : Nat) (ty : TypeId) (T : List Sl) (v : Value) (e : Ending) (w' : World) : Prop := e = .returned v ∧ TabIs w' b ty T ∧ w.grownBy w' (some b)

theorem TabIs.alloc {w : World} {b : Nat} {ty : TypeId} {T : List Sl} (h : TabIs w b ty T) (o : Obj) : TabIs (w.alloc o) b ty T := h.gr (only_alloc (only_refl _ none) o) (by simp)
theorem TabIs.far {w : World} {b : Nat} {ty : TypeId} {T : List Sl} (h : TabIs w b ty T) {p : Addr} (hp : w.heap.size ≤ p.block) (u : Value) : TabIs (w.setCell p u) b ty T :=
  h.gr (none_setCell (only_refl _ none) hp u) (by simp)

set_option maxHeartbeats 400000 in
theorem held_any (b : Nat) (T : List Sl) (n : Int) (w : World) (h : TabIs w b 66 T) :
    Calls Try.prog 24 #[.pointer (some ⟨b, 0, none⟩), .int .i64 n] w fun e w' => e = .returned (.int .i64 (heldRes T n)) ∧ w = w' := by
  have hat := slot_any b T n w h
  cases hl : liveN T n with
  | none =>
    have hr : heldRes T n = 0 := by unfold heldRes; rw [hl]
    rw [hr]
    rw [hl] at hat
    have Hat := hide hat
    clear hat hl hr h
    go_enter Try.func24, Try.ntmps24
    go_wp2_with (go_at_call 39; (with_reducible refine Hat.out.mono ?_); rintro e w' ⟨rfl, rfl⟩)
    go_ret
    exact ⟨rfl, rfl⟩
  | some k =>
    have hr : heldRes T n = (T.getD k sl0).h := by unfold heldRes; rw [hl]
    rw [hr]
    rw [hl] at hat
    obtain ⟨rfl, hk, _⟩ := liveN_some hl
    obtain ⟨s, hs⟩ : ∃ s, T.getD k sl0 = s := ⟨_, rfl⟩
    obtain ⟨c0, c1, c2, c3, c4, c5⟩ := h.c k hk s hs
    rw [hs]
    have Hat := hide hat
    clear hat hl hr h hs
    go_enter Try.func24, Try.ntmps24
    go_wp2_with (go_at_call 39; (with_reducible refine Hat.out.mono ?_); rintro e w' ⟨rfl, rfl⟩)
    go_ret
    exact ⟨rfl, rfl⟩

set_option maxHeartbeats 400000 in
theorem seek_any (b : Nat) (T : List Sl) (n a : Int) (w : World) (h : TabIs w b 66 T) :
    Calls Try.prog 27 #[.pointer (some ⟨b, 0, none⟩), .int .i64 n, .int .i64 a] w (Post w b 66 (seekRes T n a).1 (.bool (seekRes T n a).2)) := by
  have hat := slot_any b T n w h
  cases hl : liveN T n with
  | none =>
    have hr : seekRes T n a = (T, false) := by unfold seekRes; rw [hl]
    rw [hr]
    rw [hl] at hat
    have Hat := hide hat
    have H := hide h
    clear hat hl hr h
    go_enter Try.func27, Try.ntmps27
    go_wp2_with (go_at_call 39; (with_reducible refine Hat.out.mono ?_); rintro e w' ⟨rfl, rfl⟩)
    go_ret
    exact ⟨rfl, H.out, only_refl _ _⟩
  | some k =>
    rw [hl] at hat
    obtain ⟨rfl, hk, _⟩ := liveN_some hl
    obtain ⟨s, hs⟩ : ∃ s, T.getD k sl0 = s := ⟨_, rfl⟩
    obtain ⟨c0, c1, c2, c3, c4, c5⟩ := h.c k hk s hs
    have z4 := h.z (k * 6 + 4)
    have H := hide h
    have Hs := hide hs
    have Hat := hide hat
    by_cases ha : a < 0
    · have hr : seekRes T k a = (T, false) := by unfold seekRes; rw [hl]; simp [ha]
      rw [hr]
      have q : decide (a < 0) = true := by simpa using ha
      clear hat hl hr h hs
      go_enter Try.func27, Try.ntmps27
      go_wp2_with (go_at_call 39; (with_reducible refine Hat.out.mono ?_); rintro e w' ⟨rfl, rfl⟩)
      go_ret
      exact ⟨rfl, H.out, only_refl _ _⟩
    · have hr : seekRes T k a = (T.set k (putA s a), true) := by unfold seekRes; rw [hl]; simp only [hs]; rw [if_neg ha]
      rw [hr]
      have q : decide (a < 0) = false := by simpa using ha
      clear hat hl hr h hs
      go_enter Try.func27, Try.ntmps27
      go_wp2_with (go_at_call 39; (with_reducible refine Hat.out.mono ?_); rintro e w' ⟨rfl, rfl⟩)
      go_ret
      exact ⟨rfl, H.out.set k hk s Hs.out 4 (by omega) _ _ rfl, only_setCell (only_refl _ _) (.inl rfl) _⟩

set_option maxHeartbeats 400000 in
theorem hold_any (b : Nat) (T : List Sl) (n : Int) (w : World) (h : TabIs w b 66 T) (hb : heldRes T n ≤ 1000000) :
    Calls Try.prog 22 #[.pointer (some ⟨b, 0, none⟩), .int .i64 n] w (Post w b 66 (holdRes T n).1 (.bool (holdRes T n).2)) := by
  have hat := slot_any b T n w h
  cases hl : liveN T n with
  | none =>
    have hr : holdRes T n = (T, false) := by unfold holdRes; rw [hl]
    rw [hr]
    rw [hl] at hat
    have Hat := hide hat
    have H := hide h
    clear hat hl hr h
    go_enter Try.func22, Try.ntmps22
    go_wp2_with (go_at_call 39; (with_reducible refine Hat.out.mono ?_); rintro e w' ⟨rfl, rfl⟩)
    go_ret
    exact ⟨rfl, H.out, only_refl _ _⟩
  | some k =>
    rw [hl] at hat
    obtain ⟨rfl, hk, _⟩ := liveN_some hl
    obtain ⟨s, hs⟩ : ∃ s, T.getD k sl0 = s := ⟨_, rfl⟩
    have hh : heldRes T k = s.h := by unfold heldRes; rw [hl]; simp only [hs]
    have hr : holdRes T k = (T.set k (putH s (s.h + 1)), true) := by unfold holdRes; rw [hl]; simp only [hs]
    rw [hr]
    rw [hh] at hb
    obtain ⟨c0, c1, c2, c3, c4, c5⟩ := h.c k hk s hs
    have z4 := h.z (k * 6 + 5)
    have H := hide h
    have Hs := hide hs
    have Hat := hide hat
    clear hat hl hr h hs hh
    go_enter Try.func22, Try.ntmps22
    go_wp2_with (go_at_call 39; (with_reducible refine Hat.out.mono ?_); rintro e w' ⟨rfl, rfl⟩)
    go_ret
    exact ⟨rfl, H.out.set k hk s Hs.out 5 (by omega) _ _ (by simp [Sl.cells, putH]), only_setCell (only_refl _ _) (.inl rfl) _⟩

def zarr : Array Value := (tcells (List.replicate 60 sl0)).toArray
theorem zarr_def : zarr = (tcells (List.replicate 60 sl0)).toArray := rfl
theorem new_any (w : World) : Calls Try.prog 20 #[] w fun e w' => e = .returned (.pointer (some ⟨w.heap.size, 0, none⟩)) ∧ TabIs w' w.heap.size 66 (List.replicate 60 sl0) ∧ w.grownBy w' none ∧ w'.heap.size = w.heap.size + 1 := by
  go_enter Try.func20, Try.ntmps20
  go_wp2_with (first
    | (refine wpList_val (o := ⟨some 1, _, _, _, _, _⟩) (.agg zarr) w rfl (by kernel_rfl) ?_)
    | (refine wpList_val (o := ⟨some 2, _, _, _, _, _⟩) (.pointer (some ⟨w.heap.size, 0, none⟩)) (w.alloc (.cells zarr 66)) rfl (by rfl) ?_))
  go_ret
  exact ⟨rfl, ⟨Blk.new w 66 _, by simp⟩, only_alloc (only_refl _ _) _, by simp⟩

end Go.Proofs.Ytppnegohdogjeaa
