/- The processes as rows of seven cells; the program's table; the walks of at's test, IndexFunc, at and live. -/
import Derived.Test.YtljlbdbgocohlaaA
namespace Go.Proofs.Ytljlbdbgocohlaa
open Go.RowKit Go.Maps

structure Pr where
  pid : Int
  par : Int
  usr : Int
  ses : Int
  sta : Int
  dead : Bool
  res : Bool
def Pr.cells (p : Pr) : List Value := [.int .i64 p.pid, .int .i64 p.par, .int .i64 p.usr, .int .i64 p.ses, .int .i64 p.sta, .bool p.dead, .bool p.res]
def Pr.agg (p : Pr) : Value := .agg #[.int .i64 p.pid, .int .i64 p.par, .int .i64 p.usr, .int .i64 p.ses, .int .i64 p.sta, .bool p.dead, .bool p.res]
def pr0 : Pr := ⟨0, 0, 0, 0, 0, false, false⟩
def pcs (L : List Pr) : List Value := L.flatMap Pr.cells
theorem pcs_length (L : List Pr) : (pcs L).length = L.length * 7 := by
  induction L with
  | nil => rfl
  | cons x r ih => simp only [pcs, List.flatMap_cons, List.length_append, List.length_cons, Pr.cells, List.length_nil] at ih ⊢; omega
theorem pcs_get (L : List Pr) : ∀ (n j : Nat) (hn : n < L.length) (_ : j < 7), (pcs L)[n * 7 + j]? = L[n].cells[j]? := by
  induction L with
  | nil => intro n j hn; simp at hn
  | cons x r ih =>
    intro n j hn hj
    have e : pcs (x :: r) = x.cells ++ pcs r := by simp [pcs]
    have hl : x.cells.length = 7 := rfl
    cases n with
    | zero => rw [e, Nat.zero_mul, Nat.zero_add, List.getElem?_append_left (by omega)]; rfl
    | succ n =>
      rw [e, List.getElem?_append_right (by omega), hl, show (n + 1) * 7 + j - 7 = n * 7 + j by omega]
      exact ih n j (by simpa using hn) hj
theorem pcs_set (L : List Pr) : ∀ (n j : Nat) (hn : n < L.length) (_ : j < 7) (u : Value) (s' : Pr), s'.cells = L[n].cells.set j u → (pcs L).set (n * 7 + j) u = pcs (L.set n s') := by
  induction L with
  | nil => intro n j hn; simp at hn
  | cons x r ih =>
    intro n j hn hj u s' hs
    have e : ∀ y z, pcs (y :: z) = y.cells ++ pcs z := by simp [pcs]
    have hl : x.cells.length = 7 := rfl
    cases n with
    | zero =>
      rw [e, Nat.zero_mul, Nat.zero_add, List.set_append_left _ _ (by omega), List.set_cons_zero, e]
      rw [hs]
      rfl
    | succ n =>
      rw [e, List.set_append_right _ _ (by omega), hl, show (n + 1) * 7 + j - 7 = n * 7 + j by omega, List.set_cons_succ, e]
      rw [ih n j (by simpa using hn) hj u s' hs]
theorem pcs_append (L M : List Pr) : pcs (L ++ M) = pcs L ++ pcs M := by simp [pcs]
theorem pcs_take (L : List Pr) : ∀ n, (pcs L).take (n * 7) = pcs (L.take n) := by
  induction L with
  | nil => intro n; simp [pcs]
  | cons x r ih =>
    intro n
    have e : pcs (x :: r) = x.cells ++ pcs r := by simp [pcs]
    have hl : x.cells.length = 7 := rfl
    cases n with
    | zero => simp [pcs]
    | succ n => rw [e, List.take_append, hl, List.take_of_length_le (by omega), show (n + 1) * 7 - 7 = n * 7 by omega, ih n]; simp [pcs]
theorem pcs_drop (L : List Pr) : ∀ n, (pcs L).drop (n * 7) = pcs (L.drop n) := by
  induction L with
  | nil => intro n; simp [pcs]
  | cons x r ih =>
    intro n
    have e : pcs (x :: r) = x.cells ++ pcs r := by simp [pcs]
    have hl : x.cells.length = 7 := rfl
    cases n with
    | zero => simp [pcs]
    | succ n => rw [e, List.drop_append, hl, List.drop_of_length_le (by omega), show (n + 1) * 7 - 7 = n * 7 by omega, ih n]; simp [pcs]
theorem pcs_one (L : List Pr) : ∀ u ∈ pcs L, u.oneCell' = true := by
  intro u hu
  obtain ⟨p, _, hp⟩ := List.mem_flatMap.1 hu
  simp only [Pr.cells, List.mem_cons, List.not_mem_nil, or_false] at hp
  rcases hp with rfl | rfl | rfl | rfl | rfl | rfl | rfl <;> rfl

/-- A slice of processes. -/
def PrsIs (w : World) (e : TypeId) (v : Value) (L : List Pr) : Prop := Own w e 7 v L.length (pcs L) 0
section
variable {w w' : World} {e : TypeId} {v : Value} {L : List Pr} {S : Nat → Prop}
theorem PrsIs.chg (h : PrsIs w e v L) (hc : Chg S w w') (hS : ∀ b, v.ownBlock = some b → ¬ S b) : PrsIs w' e v L := Own.chg h hc hS
theorem PrsIs.c (h : PrsIs w e v L) {g off cap : Nat} (hv : v = .slice (some ⟨g, off, none⟩) L.length cap) {n : Nat} (hn : n < L.length) {s : Pr} (hs : L[n]? = some s) :
    w.cell? ⟨g, off + n * 7, none⟩ = some (.int .i64 s.pid) ∧ w.cell? ⟨g, off + n * 7 + 1, none⟩ = some (.int .i64 s.par) ∧ w.cell? ⟨g, off + n * 7 + 2, none⟩ = some (.int .i64 s.usr) ∧
    w.cell? ⟨g, off + n * 7 + 3, none⟩ = some (.int .i64 s.ses) ∧ w.cell? ⟨g, off + n * 7 + 4, none⟩ = some (.int .i64 s.sta) ∧ w.cell? ⟨g, off + n * 7 + 5, none⟩ = some (.bool s.dead) ∧ w.cell? ⟨g, off + n * 7 + 6, none⟩ = some (.bool s.res) := by
  obtain ⟨g', off', cap', hv', _, _, hlt, hc⟩ := Own.some_ h (by omega)
  rw [hv] at hv'
  injection hv' with ha _ _
  injection ha with ha
  injection ha with e1 e2 _
  subst e1 e2
  have hs' : L[n] = s := by rw [List.getElem?_eq_getElem hn] at hs; injection hs
  have hj : ∀ j, j < 7 → w.cell? ⟨g, off + n * 7 + j, none⟩ = s.cells[j]? := fun j hj => by
    rw [Nat.add_assoc, hc _ (by omega), pcs_get L n j hn hj, hs']
  exact ⟨hj 0 (by omega), hj 1 (by omega), hj 2 (by omega), hj 3 (by omega), hj 4 (by omega), hj 5 (by omega), hj 6 (by omega)⟩
theorem PrsIs.set (h : PrsIs w e v L) {g off cap : Nat} (hv : v = .slice (some ⟨g, off, none⟩) L.length cap) {n : Nat} (hn : n < L.length) {s : Pr} (hs : L[n]? = some s) (j : Nat) (hj : j < 7) (u : Value) (s' : Pr) (he : s'.cells = s.cells.set j u) :
    PrsIs (w.setCell ⟨g, off + n * 7 + j, none⟩ u) e v (L.set n s') := by
  subst hv
  have hs' : L[n] = s := by rw [List.getElem?_eq_getElem hn] at hs; injection hs
  have := Own.set h (n * 7 + j) (by omega) u
  rw [pcs_set L n j hn hj u s' (by rw [hs', he]), ← Nat.add_assoc] at this
  unfold PrsIs
  rw [List.length_set]
  exact this
theorem PrsIs.z (h : PrsIs w e v L) {g off cap : Nat} (hv : v = .slice (some ⟨g, off, none⟩) L.length cap) (j : Nat) : w.frozen? ⟨g, off + j, none⟩ = false := by
  subst hv
  exact Own.frozen0 h j
theorem PrsIs.form (h : PrsIs w e v L) : ∃ a cap, v = .slice a L.length cap ∧ L.length ≤ cap ∧ cap ≤ maxLen := Own.form h
theorem PrsIs.at (h : PrsIs w e v L) (hn : 0 < L.length) : ∃ g off cap, v = .slice (some ⟨g, off, none⟩) L.length cap ∧ L.length ≤ cap ∧ cap ≤ maxLen ∧ g < w.heap.size := by
  obtain ⟨g, off, cap, h1, h2, h3, h4, _⟩ := Own.some_ h hn
  exact ⟨g, off, cap, h1, h2, h3, h4⟩
end

/-- Where a process stands, from k on. -/
def idxFrom (L : List Pr) (pid : Int) (k : Nat) : Option Nat := if h : k < L.length then if L[k].pid = pid then some k else idxFrom L pid (k + 1) else none
termination_by L.length - k
section
variable {L : List Pr} {pid : Int} {k n : Nat}
theorem idx_here (h : k < L.length) (hx : L[k].pid = pid) : idxFrom L pid k = some k := by rw [idxFrom, dif_pos h, if_pos hx]
theorem idx_next (h : k < L.length) (hx : L[k].pid ≠ pid) : idxFrom L pid k = idxFrom L pid (k + 1) := by rw [idxFrom, dif_pos h, if_neg hx]
theorem idx_end (h : ¬ k < L.length) : idxFrom L pid k = none := by rw [idxFrom, dif_neg h]
theorem idx_lt : ∀ (m k : Nat), L.length - k = m → idxFrom L pid k = some n → k ≤ n ∧ ∃ h : n < L.length, L[n].pid = pid := by
  intro m
  induction m with
  | zero => intro k hm h; rw [idx_end (by omega)] at h; cases h
  | succ m ih =>
    intro k hm h
    by_cases hx : L[k].pid = pid
    · rw [idx_here (by omega) hx] at h
      injection h with h
      subst h
      exact ⟨Nat.le_refl _, by omega, hx⟩
    · rw [idx_next (by omega) hx] at h
      obtain ⟨h1, h2⟩ := ih (k + 1) (by omega) h
      exact ⟨by omega, h2⟩
end
def oi (o : Option Nat) : Int := match o with | some n => n | none => -1
def idx (L : List Pr) (pid : Int) : Option Nat := idxFrom L pid 0
def liveN (L : List Pr) (pid : Int) : Option Nat := match idx L pid with | some n => if (L.getD n pr0).dead then none else some n | none => none
theorem idx_some {L : List Pr} {pid : Int} {n : Nat} (h : idx L pid = some n) : n < L.length ∧ ∃ s, L[n]? = some s ∧ s.pid = pid := by
  obtain ⟨_, h1, h2⟩ := idx_lt L.length 0 rfl h
  exact ⟨h1, _, List.getElem?_eq_getElem h1, h2⟩
theorem liveN_some {L : List Pr} {pid : Int} {n : Nat} (h : liveN L pid = some n) : idx L pid = some n ∧ n < L.length ∧ ∃ s, L[n]? = some s ∧ s.pid = pid ∧ s.dead = false := by
  unfold liveN at h
  split at h
  · rename_i n' hi
    obtain ⟨h1, s, h2, h3⟩ := idx_some hi
    split at h
    · cases h
    · injection h with h
      subst h
      rename_i hd
      rw [List.getD_eq_getElem?_getD, h2] at hd
      exact ⟨hi, h1, s, h2, h3, by simpa using hd⟩
  · cases h

set_option maxHeartbeats 400000 in
theorem lam_any (p : Pr) (cb : Nat) (pid : Int) (w : World) (hc : w.cell? ⟨cb, 0, none⟩ = some (.int .i64 pid)) (hlt : cb < w.heap.size) :
    Calls Try.prog 35 #[p.agg, .pointer (some ⟨cb, 0, none⟩)] w fun e w' => e = .returned (.bool (p.pid == pid)) ∧ w.grownBy w' none := by
  unfold Pr.agg
  go_enter Try.func35, Try.ntmps35
  go_wp2
  go_ret
  exact ⟨rfl, only_alloc (only_refl _ _) _⟩

end Go.Proofs.Ytljlbdbgocohlaa
