/- The table of descriptions as a block of sixty slots of six cells; the walks of at, IndexFunc and of the program's methods. -/
import Derived.Test.YtppnegohdogjeaaD
namespace Go.Proofs.Ytppnegohdogjeaa
open Go.RowKit

structure Sl where
  o : Int
  t : Int
  w : Int
  e : Bool
  a : Int
  h : Nat
def Sl.cells (s : Sl) : List Value := [.int .i64 s.o, .int .i64 s.t, .int .i64 s.w, .bool s.e, .int .i64 s.a, .int .i64 s.h]
def Sl.agg (s : Sl) : Value := .agg #[.int .i64 s.o, .int .i64 s.t, .int .i64 s.w, .bool s.e, .int .i64 s.a, .int .i64 s.h]
def Sl.desc (s : Sl) : Value := .agg #[.int .i64 s.o, .int .i64 s.t, .int .i64 s.w, .bool s.e, .int .i64 s.a]
def noDesc : Value := .agg #[.int .i64 0, .int .i64 0, .int .i64 0, .bool false, .int .i64 0]
def sl0 : Sl := ⟨0, 0, 0, false, 0, 0⟩
def tcells (T : List Sl) : List Value := T.flatMap Sl.cells
theorem tcells_length (T : List Sl) : (tcells T).length = T.length * 6 := by
  induction T with
  | nil => rfl
  | cons x r ih => simp only [tcells, List.flatMap_cons, List.length_append, List.length_cons, Sl.cells, List.length_nil] at ih ⊢; omega
theorem tcells_get (T : List Sl) : ∀ (n j : Nat) (hn : n < T.length) (_ : j < 6), (tcells T)[n * 6 + j]? = T[n].cells[j]? := by
  induction T with
  | nil => intro n j hn; simp at hn
  | cons x r ih =>
    intro n j hn hj
    have e : tcells (x :: r) = x.cells ++ tcells r := by simp [tcells]
    have hl : x.cells.length = 6 := rfl
    cases n with
    | zero => rw [e, Nat.zero_mul, Nat.zero_add, List.getElem?_append_left (by omega)]; rfl
    | succ n =>
      rw [e, List.getElem?_append_right (by omega), hl, show (n + 1) * 6 + j - 6 = n * 6 + j by omega]
      exact ih n j (by simpa using hn) hj
theorem tcells_set (T : List Sl) : ∀ (n j : Nat) (hn : n < T.length) (_ : j < 6) (u : Value) (s' : Sl), s'.cells = T[n].cells.set j u → (tcells T).set (n * 6 + j) u = tcells (T.set n s') := by
  induction T with
  | nil => intro n j hn; simp at hn
  | cons x r ih =>
    intro n j hn hj u s' hs
    have e : ∀ y z, tcells (y :: z) = y.cells ++ tcells z := by simp [tcells]
    have hl : x.cells.length = 6 := rfl
    cases n with
    | zero =>
      rw [e, Nat.zero_mul, Nat.zero_add, List.set_append_left _ _ (by omega), List.set_cons_zero, e]
      rw [hs]
      rfl
    | succ n =>
      rw [e, List.set_append_right _ _ (by omega), hl, show (n + 1) * 6 + j - 6 = n * 6 + j by omega, List.set_cons_succ, e]
      rw [ih n j (by simpa using hn) hj u s' hs]

/-- The table at block b, of type ty (the program's, 66, or the reference's, 53). -/
structure TabIs (w : World) (b : Nat) (ty : TypeId) (T : List Sl) : Prop where
  blk : Blk w b ty (tcells T).toArray
  len : T.length = 60

section
variable {w w' : World} {b : Nat} {ty : TypeId} {T : List Sl}
theorem TabIs.lt (h : TabIs w b ty T) : b < w.heap.size := h.blk.lt
theorem TabIs.gr (h : TabIs w b ty T) {row : Option Nat} (hg : w.grownBy w' row) (hne : some b ≠ row) : TabIs w' b ty T := ⟨h.blk.grown hg hne, h.len⟩
theorem TabIs.c (h : TabIs w b ty T) (n : Nat) (hn : n < 60) (s : Sl) (hs : T.getD n sl0 = s) :
    w.cell? ⟨b, n * 6, none⟩ = some (.int .i64 s.o) ∧ w.cell? ⟨b, n * 6 + 1, none⟩ = some (.int .i64 s.t) ∧ w.cell? ⟨b, n * 6 + 2, none⟩ = some (.int .i64 s.w) ∧
    w.cell? ⟨b, n * 6 + 3, none⟩ = some (.bool s.e) ∧ w.cell? ⟨b, n * 6 + 4, none⟩ = some (.int .i64 s.a) ∧ w.cell? ⟨b, n * 6 + 5, none⟩ = some (.int .i64 s.h) := by
  have hn' : n < T.length := by rw [h.len]; exact hn
  have hs' : T[n] = s := by rw [← hs, List.getD_eq_getElem?_getD, List.getElem?_eq_getElem hn']; rfl
  have hc : ∀ j, j < 6 → w.cell? ⟨b, n * 6 + j, none⟩ = s.cells[j]? := fun j hj => by
    rw [h.blk.cell, List.getElem?_toArray, tcells_get T n j hn' hj, hs']
  exact ⟨hc 0 (by omega), hc 1 (by omega), hc 2 (by omega), hc 3 (by omega), hc 4 (by omega), hc 5 (by omega)⟩
theorem TabIs.z (h : TabIs w b ty T) (i : Nat) : w.frozen? ⟨b, i, none⟩ = false := h.blk.frozen i
theorem TabIs.set (h : TabIs w b ty T) (n : Nat) (hn : n < 60) (s : Sl) (hs : T.getD n sl0 = s) (j : Nat) (hj : j < 6) (u : Value) (s' : Sl) (he : s'.cells = s.cells.set j u) : TabIs (w.setCell ⟨b, n * 6 + j, none⟩ u) b ty (T.set n s') := by
  have hn' : n < T.length := by rw [h.len]; exact hn
  have hs' : T[n] = s := by rw [← hs, List.getD_eq_getElem?_getD, List.getElem?_eq_getElem hn']; rfl
  refine ⟨?_, by rw [List.length_set]; exact h.len⟩
  rw [← tcells_set T n j hn' hj u s' (by rw [he, hs'])]
  have := h.blk.set_ (n * 6 + j) u
  rwa [List.setIfInBounds_toArray] at this
theorem getD_set (T : List Sl) (n : Nat) (hn : n < T.length) (s : Sl) : (T.set n s).getD n sl0 = s := by
  rw [List.getD_eq_getElem?_getD, List.getElem?_set_self hn]; rfl
end

theorem blk6 {w : World} {g : Nat} {t : TypeId} {a b c d e f : Value} (h : Blk w g t #[a, b, c, d, e, f]) :
    (w.cell? ⟨g, 0, none⟩ = some a ∧ w.cell? ⟨g, 1, none⟩ = some b ∧ w.cell? ⟨g, 2, none⟩ = some c ∧ w.cell? ⟨g, 3, none⟩ = some d ∧ w.cell? ⟨g, 4, none⟩ = some e ∧ w.cell? ⟨g, 5, none⟩ = some f) :=
  ⟨h.cell 0, h.cell 1, h.cell 2, h.cell 3, h.cell 4, h.cell 5⟩

set_option maxHeartbeats 400000 in
theorem lam_any (s : Sl) (w : World) : Calls Try.prog 38 #[s.agg] w fun e w' => e = .returned (.bool ((s.h : Int) == 0)) ∧ w.grownBy w' none := by
  unfold Sl.agg
  go_enter Try.func38, Try.ntmps38
  go_wp2
  go_ret
  exact ⟨rfl, only_alloc (only_refl _ _) _⟩

/-- The first slot that nobody holds, from k on. -/
def fs (T : List Sl) (k : Nat) : Option Nat := if h : k < T.length then if T[k].h = 0 then some k else fs T (k + 1) else none
termination_by T.length - k
theorem fs_here {T : List Sl} {k : Nat} (h : k < T.length) (hx : T[k].h = 0) : fs T k = some k := by rw [fs, dif_pos h, if_pos hx]
theorem fs_next {T : List Sl} {k : Nat} (h : k < T.length) (hx : T[k].h ≠ 0) : fs T k = fs T (k + 1) := by rw [fs, dif_pos h, if_neg hx]
theorem fs_end {T : List Sl} {k : Nat} (h : ¬ k < T.length) : fs T k = none := by rw [fs, dif_neg h]
theorem fs_lt {T : List Sl} {n : Nat} : ∀ (m k : Nat), T.length - k = m → fs T k = some n → k ≤ n ∧ ∃ h : n < T.length, T[n].h = 0 := by
  intro m
  induction m with
  | zero => intro k hm h; rw [fs_end (by omega)] at h; cases h
  | succ m ih =>
    intro k hm h
    by_cases hx : T[k].h = 0
    · rw [fs_here (by omega) hx] at h
      injection h with h
      subst h
      exact ⟨Nat.le_refl _, by omega, hx⟩
    · rw [fs_next (by omega) hx] at h
      obtain ⟨h1, h2⟩ := ih (k + 1) (by omega) h
      exact ⟨by omega, h2⟩

def idx (o : Option Nat) : Int := match o with | some n => n | none => -1

set_option maxHeartbeats 1000000 in
theorem index_any (b : Nat) (T : List Sl) (w : World) (h : TabIs w b 66 T) :
    Calls Try.prog 37 #[.slice (some ⟨b, 0, none⟩) 60 60, .func (.func 38) #[] #[]] w fun e w' => e = .returned (.int .i64 (idx (fs T 0))) ∧ w.grownBy w' none := by
  have H := hide h
  have hlen := h.len
  clear h
  have Hlen := hide hlen
  clear hlen
  go_enter Try.func37, Try.ntmps37
  go_wp2_with fail
  go_loopw [8] (fun u wr => ∃ k : Nat, u = .int .i64 k ∧ k ≤ 60 ∧ fs T k = fs T 0 ∧ w.grownBy wr none) (fun u _ => 60 - (intOf u).toNat)
  case atStart => exact ⟨0, rfl, by omega, rfl, only_refl _ _⟩
  case round =>
    obtain ⟨k, rfl, hk, hff, hG⟩ := hrel
    by_cases hlt : k < 60
    · have hT := H.out.gr hG (by simp)
      have hkl : k < T.length := by rw [Hlen.out]; exact hlt
      obtain ⟨s, hs⟩ : ∃ s, T.getD k sl0 = s := ⟨_, rfl⟩
      have hs' : T[k] = s := by rw [← hs, List.getD_eq_getElem?_getD, List.getElem?_eq_getElem hkl]; rfl
      obtain ⟨c0, c1, c2, c3, c4, c5⟩ := hT.c k hlt s hs
      have HG := hide hG
      clear hT hs hG
      by_cases h0 : s.h = 0
      · have hr : fs T 0 = some k := by rw [← hff, fs_here hkl (by rw [hs', h0])]
        have Hr := hide hr
        have q : (((s.h : Nat) : Int) == 0) = true := by rw [h0]; rfl
        clear h0 hff hs' hr
        go_wp2_with fail
        refine (lam_any s wr).mono ?_
        rw [q]
        rintro e w1 ⟨rfl, hg⟩
        have Hg := hide hg
        clear hg
        go_wp2
        go_ret
        rw [Hr.out]
        exact ⟨rfl, only_trans HG.out Hg.out⟩
      · have hr : fs T (k + 1) = fs T 0 := by rw [← hff, fs_next hkl (by rw [hs']; exact h0)]
        have Hr := hide hr
        have q : (((s.h : Nat) : Int) == 0) = false := by simp; omega
        clear h0 hff hs' hr
        go_wp2_with fail
        refine (lam_any s wr).mono ?_
        rw [q]
        rintro e w1 ⟨rfl, hg⟩
        have Hg := hide hg
        clear hg
        go_wp2
        go_roundw
        case rel => exact ⟨k + 1, by go_num, by omega, Hr.out, only_trans HG.out Hg.out⟩
        case measure => simp [intOf]; omega
    · have hr : fs T 0 = none := by rw [← hff, fs_end (by have := Hlen.out; omega)]
      have Hr := hide hr
      clear hr hff
      go_wp2
      go_ret
      rw [Hr.out]
      exact ⟨rfl, hG⟩

/-! ### what the methods make of a table -/
def liveN (T : List Sl) (n : Int) : Option Nat := if 0 ≤ n ∧ n < 60 ∧ (T.getD n.toNat sl0).h ≠ 0 then some n.toNat else none
theorem liveN_some {T : List Sl} {n : Int} {k : Nat} (h : liveN T n = some k) : n = k ∧ k < 60 ∧ (T.getD k sl0).h ≠ 0 := by
  unfold liveN at h
  split at h
  · injection h with h
    rename_i hh
    subst h
    exact ⟨by omega, by omega, hh.2.2⟩
  · cases h

set_option maxHeartbeats 400000 in
theorem slot_any (b : Nat) (T : List Sl) (n : Int) (w : World) (h : TabIs w b 66 T) :
    Calls Try.prog 39 #[.pointer (some ⟨b, 0, none⟩), .int .i64 n] w fun e w' => e = .returned (.pointer ((liveN T n).map fun k => ⟨b, k * 6, none⟩)) ∧ w = w' := by
  by_cases h1 : n < 0
  · have hl : liveN T n = none := by unfold liveN; rw [if_neg (by omega)]
    rw [hl]
    have q : decide (n < 0) = true := by simpa using h1
    clear hl h
    go_enter Try.func39, Try.ntmps39
    go_wp2
    go_ret
    exact ⟨rfl, rfl⟩
  obtain ⟨k, rfl⟩ : ∃ k : Nat, n = k := ⟨n.toNat, by omega⟩
  by_cases h2 : k < 60
  · obtain ⟨s, hs⟩ : ∃ s, T.getD k sl0 = s := ⟨_, rfl⟩
    obtain ⟨c0, c1, c2, c3, c4, c5⟩ := h.c k h2 s hs
    have q : decide ((60 : Int) ≤ (k : Int)) = false := by simp; omega
    by_cases h3 : s.h = 0
    · have hl : liveN T (k : Int) = none := by unfold liveN; rw [if_neg (by rw [Int.toNat_natCast, hs]; omega)]
      rw [hl]
      have q2 : (((s.h : Nat) : Int) == 0) = true := by rw [h3]; rfl
      clear hl h hs h3
      go_enter Try.func39, Try.ntmps39
      go_wp2
      go_ret
      exact ⟨rfl, rfl⟩
    · have hl : liveN T (k : Int) = some k := by unfold liveN; rw [if_pos (by rw [Int.toNat_natCast, hs]; exact ⟨by omega, by omega, h3⟩)]; rfl
      rw [hl]
      have q2 : (((s.h : Nat) : Int) == 0) = false := by simp; omega
      clear hl h hs h3
      go_enter Try.func39, Try.ntmps39
      go_wp2
      go_ret
      exact ⟨rfl, rfl⟩
  · have hl : liveN T (k : Int) = none := by unfold liveN; rw [if_neg (by omega)]
    rw [hl]
    have q : decide ((60 : Int) ≤ (k : Int)) = true := by simp; omega
    clear hl h
    go_enter Try.func39, Try.ntmps39
    go_wp2
    go_ret
    exact ⟨rfl, rfl⟩

end Go.Proofs.Ytppnegohdogjeaa
