/- The document's processes as rows of nine cells; its table; the walk of at. -/
import Derived.Test.YtolmpejaakpikaaD
import Derived.Deep.MidRow
set_option linter.all false
namespace Go.Proofs.Ytolmpejaakpikaa
open Go.RowKit Go.Maps

structure Pr where
  pid : Int
  p : Pc
def Pr.cells (s : Pr) : List Value := [.int .i64 s.pid, .int .i64 s.p.c.r, .int .i64 s.p.c.e, .int .i64 s.p.c.s, .int .i64 s.p.c.g, .int .i64 s.p.c.h, .int .i64 s.p.why, .bool s.p.nt, .bool s.p.pv]
def Pr.agg (s : Pr) : Value := .agg #[.int .i64 s.pid, .int .i64 s.p.c.r, .int .i64 s.p.c.e, .int .i64 s.p.c.s, .int .i64 s.p.c.g, .int .i64 s.p.c.h, .int .i64 s.p.why, .bool s.p.nt, .bool s.p.pv]
def pcs (L : List Pr) : List Value := L.flatMap Pr.cells
theorem pcs_length (L : List Pr) : (pcs L).length = L.length * 9 := by
  induction L with
  | nil => rfl
  | cons x r ih => simp only [pcs, List.flatMap_cons, List.length_append, List.length_cons, Pr.cells, Pc.cells, List.length_nil] at ih ⊢; omega
theorem pcs_get (L : List Pr) : ∀ (n j : Nat) (hn : n < L.length) (_ : j < 9), (pcs L)[n * 9 + j]? = L[n].cells[j]? := by
  induction L with
  | nil => intro n j hn; simp at hn
  | cons x r ih =>
    intro n j hn hj
    have e : pcs (x :: r) = x.cells ++ pcs r := by simp [pcs]
    have hl : x.cells.length = 9 := rfl
    cases n with
    | zero => rw [e, Nat.zero_mul, Nat.zero_add, List.getElem?_append_left (by omega)]; rfl
    | succ n =>
      rw [e, List.getElem?_append_right (by omega), hl, show (n + 1) * 9 + j - 9 = n * 9 + j by omega]
      exact ih n j (by simpa using hn) hj
theorem pcs_set (L : List Pr) : ∀ (n j : Nat) (hn : n < L.length) (_ : j < 9) (u : Value) (s' : Pr), s'.cells = L[n].cells.set j u → (pcs L).set (n * 9 + j) u = pcs (L.set n s') := by
  induction L with
  | nil => intro n j hn; simp at hn
  | cons x r ih =>
    intro n j hn hj u s' hs
    have e : ∀ y z, pcs (y :: z) = y.cells ++ pcs z := by simp [pcs]
    have hl : x.cells.length = 9 := rfl
    cases n with
    | zero =>
      rw [e, Nat.zero_mul, Nat.zero_add, List.set_append_left _ _ (by omega), List.set_cons_zero, e]
      rw [hs]
      rfl
    | succ n =>
      rw [e, List.set_append_right _ _ (by omega), hl, show (n + 1) * 9 + j - 9 = n * 9 + j by omega, List.set_cons_succ, e]
      rw [ih n j (by simpa using hn) hj u s' hs]
theorem pcs_append (L M : List Pr) : pcs (L ++ M) = pcs L ++ pcs M := by simp [pcs]
theorem pcs_take (L : List Pr) : ∀ n, (pcs L).take (n * 9) = pcs (L.take n) := by
  induction L with
  | nil => intro n; simp [pcs]
  | cons x r ih =>
    intro n
    have e : pcs (x :: r) = x.cells ++ pcs r := by simp [pcs]
    have hl : x.cells.length = 9 := rfl
    cases n with
    | zero => simp [pcs]
    | succ n => rw [e, List.take_append, hl, List.take_of_length_le (by omega), show (n + 1) * 9 - 9 = n * 9 by omega, ih n]; simp [pcs]
theorem pcs_drop (L : List Pr) : ∀ n, (pcs L).drop (n * 9) = pcs (L.drop n) := by
  induction L with
  | nil => intro n; simp [pcs]
  | cons x r ih =>
    intro n
    have e : pcs (x :: r) = x.cells ++ pcs r := by simp [pcs]
    have hl : x.cells.length = 9 := rfl
    cases n with
    | zero => simp [pcs]
    | succ n => rw [e, List.drop_append, hl, List.drop_of_length_le (by omega), show (n + 1) * 9 - 9 = n * 9 by omega, ih n]; simp [pcs]
theorem pcs_one (L : List Pr) : ∀ u ∈ pcs L, u.oneCell' = true := by
  intro u hu
  obtain ⟨p, _, hp⟩ := List.mem_flatMap.1 hu
  simp only [Pr.cells, Pc.cells, List.mem_cons, List.not_mem_nil, or_false] at hp
  rcases hp with rfl | rfl | rfl | rfl | rfl | rfl | rfl | rfl | rfl <;> rfl

/-- A slice of processes. -/
def PrsIs (w : World) (e : TypeId) (v : Value) (L : List Pr) : Prop := Own w e 9 v L.length (pcs L) 0
section
variable {w w' : World} {e : TypeId} {v : Value} {L : List Pr} {S : Nat → Prop}
theorem PrsIs.chg (h : PrsIs w e v L) (hc : Chg S w w') (hS : ∀ b, v.ownBlock = some b → ¬ S b) : PrsIs w' e v L := Own.chg h hc hS
theorem PrsIs.c (h : PrsIs w e v L) {g off cap : Nat} (hv : v = .slice (some ⟨g, off, none⟩) L.length cap) {n : Nat} (hn : n < L.length) {s : Pr} (hs : L[n]? = some s) :
    w.cell? ⟨g, off + n * 9, none⟩ = some (.int .i64 s.pid) ∧ w.cell? ⟨g, off + n * 9 + 1, none⟩ = some (.int .i64 s.p.c.r) ∧ w.cell? ⟨g, off + n * 9 + 2, none⟩ = some (.int .i64 s.p.c.e) ∧ w.cell? ⟨g, off + n * 9 + 3, none⟩ = some (.int .i64 s.p.c.s) ∧ w.cell? ⟨g, off + n * 9 + 4, none⟩ = some (.int .i64 s.p.c.g) ∧ w.cell? ⟨g, off + n * 9 + 5, none⟩ = some (.int .i64 s.p.c.h) ∧ w.cell? ⟨g, off + n * 9 + 6, none⟩ = some (.int .i64 s.p.why) ∧ w.cell? ⟨g, off + n * 9 + 7, none⟩ = some (.bool s.p.nt) ∧ w.cell? ⟨g, off + n * 9 + 8, none⟩ = some (.bool s.p.pv) := by
  obtain ⟨g', off', cap', hv', _, _, hlt, hc⟩ := Own.some_ h (by omega)
  rw [hv] at hv'
  injection hv' with ha _ _
  injection ha with ha
  injection ha with e1 e2 _
  subst e1 e2
  have hs' : L[n] = s := by rw [List.getElem?_eq_getElem hn] at hs; injection hs
  have hj : ∀ j, j < 9 → w.cell? ⟨g, off + n * 9 + j, none⟩ = s.cells[j]? := fun j hj => by
    rw [Nat.add_assoc, hc _ (by omega), pcs_get L n j hn hj, hs']
  exact ⟨hj 0 (by omega), hj 1 (by omega), hj 2 (by omega), hj 3 (by omega), hj 4 (by omega), hj 5 (by omega), hj 6 (by omega), hj 7 (by omega), hj 8 (by omega)⟩
theorem PrsIs.set (h : PrsIs w e v L) {g off cap : Nat} (hv : v = .slice (some ⟨g, off, none⟩) L.length cap) {n : Nat} (hn : n < L.length) {s : Pr} (hs : L[n]? = some s) (j : Nat) (hj : j < 9) (u : Value) (s' : Pr) (he : s'.cells = s.cells.set j u) :
    PrsIs (w.setCell ⟨g, off + n * 9 + j, none⟩ u) e v (L.set n s') := by
  subst hv
  have hs' : L[n] = s := by rw [List.getElem?_eq_getElem hn] at hs; injection hs
  have := Own.set h (n * 9 + j) (by omega) u
  rw [pcs_set L n j hn hj u s' (by rw [hs', he]), ← Nat.add_assoc] at this
  unfold PrsIs
  rw [List.length_set]
  exact this
theorem PrsIs.z (h : PrsIs w e v L) {g off cap : Nat} (hv : v = .slice (some ⟨g, off, none⟩) L.length cap) (j : Nat) : w.frozen? ⟨g, off + j, none⟩ = false := by
  subst hv
  exact Own.frozen0 h j
theorem PrsIs.form (h : PrsIs w e v L) : ∃ a cap, v = .slice a L.length cap ∧ L.length ≤ cap ∧ cap ≤ maxLen := Own.form h
theorem PrsIs.at (h : PrsIs w e v L) (hn : 0 < L.length) : ∃ g off cap, v = .slice (some ⟨g, off, none⟩) L.length cap ∧ L.length ≤ cap ∧ cap ≤ maxLen ∧ g < w.heap.size := by
  obtain ⟨g, off, cap, h1, h2, h3, h4, _⟩ := Own.some_ h hn
  exact ⟨g, off, cap, h1, h2, h3, h4⟩
end

/-- Where a process stands, from k on. -/
def idxFrom (L : List Pr) (pid : Int) (k : Nat) : Option Nat := if h : k < L.length then if L[k].pid = pid then some k else idxFrom L pid (k + 1) else none
termination_by L.length - k
section
variable {L : List Pr} {pid : Int} {k n : Nat}
theorem idx_here (h : k < L.length) (hx : L[k].pid = pid) : idxFrom L pid k = some k := by rw [idxFrom, dif_pos h, if_pos hx]
theorem idx_next (h : k < L.length) (hx : L[k].pid ≠ pid) : idxFrom L pid k = idxFrom L pid (k + 1) := by rw [idxFrom, dif_pos h, if_neg hx]
theorem idx_end (h : ¬ k < L.length) : idxFrom L pid k = none := by rw [idxFrom, dif_neg h]
theorem idx_lt : ∀ (m k : Nat), L.length - k = m → idxFrom L pid k = some n → k ≤ n ∧ ∃ h : n < L.length, L[n].pid = pid := by
  intro m
  induction m with
  | zero => intro k hm h; rw [idx_end (by omega)] at h; cases h
  | succ m ih =>
    intro k hm h
    by_cases hx : L[k].pid = pid
    · rw [idx_here (by omega) hx] at h
      injection h with h
      subst h
      exact ⟨Nat.le_refl _, by omega, hx⟩
    · rw [idx_next (by omega) hx] at h
      obtain ⟨h1, h2⟩ := ih (k + 1) (by omega) h
      exact ⟨by omega, h2⟩
end
def oi (o : Option Nat) : Int := match o with | some n => n | none => -1
def idx (L : List Pr) (pid : Int) : Option Nat := idxFrom L pid 0
theorem idx_some {L : List Pr} {pid : Int} {n : Nat} (h : idx L pid = some n) : n < L.length ∧ ∃ s, L[n]? = some s ∧ s.pid = pid := by
  obtain ⟨_, h1, h2⟩ := idx_lt L.length 0 rfl h
  exact ⟨h1, _, List.getElem?_eq_getElem h1, h2⟩
theorem Own.typ {w : World} {e : TypeId} {size n k : Nat} {v : Value} {xs : List Value} (h : Own w e size v n xs k) {b : Nat} (hb : v.ownBlock = some b) : ∃ cur fz, w.heap[b]? = some (.cells cur e fz) := by
  rcases h.2 with ⟨rfl, _⟩ | ⟨g, off, cap, cur, fz, rfl, hg, _⟩
  · simp [Value.ownBlock] at hb
  · simp [Value.ownBlock] at hb
    subst hb
    exact ⟨_, _, hg⟩
theorem Own.ne {w : World} {e e' : TypeId} {size n k size' n' k' : Nat} {v v' : Value} {xs xs' : List Value} (h : Own w e size v n xs k) (h' : Own w e' size' v' n' xs' k') (he : e ≠ e') {b : Nat} (hb : v.ownBlock = some b) : v'.ownBlock ≠ some b := by
  intro hb'
  obtain ⟨_, _, h1⟩ := h.typ hb
  obtain ⟨_, _, h2⟩ := h'.typ hb'
  rw [h1] at h2
  injection h2 with h2
  injection h2 with _ h2 _
  exact he h2
theorem Own.neb {w : World} {e e' : TypeId} {size n k : Nat} {v : Value} {xs : List Value} {cs : Array Value} {b b' : Nat} (h : Own w e size v n xs k) (h' : Blk w b' e' cs) (he : e ≠ e') (hb : v.ownBlock = some b) : b ≠ b' := by
  rintro rfl
  obtain ⟨_, _, h1⟩ := h.typ hb
  unfold Blk at h'
  rw [h1] at h'
  injection h' with h2
  injection h2 with _ h2 _
  exact he h2


theorem setCells_whole {g : Nat} {e : TypeId} {fz : Nat × Nat} : ∀ (vs : List Value) (o : Nat) (cur : Array Value) (w : World), w.heap[g]? = some (.cells cur e fz) → o + vs.length ≤ cur.size →
    ∃ cur', (w.setCells g o vs).heap[g]? = some (.cells cur' e fz) ∧ cur'.size = cur.size ∧ (∀ j, j < vs.length → cur'[o + j]? = vs[j]?) ∧ ∀ i, (i < o ∨ o + vs.length ≤ i) → cur'[i]? = cur[i]?
  | [], o, cur, w, h, _ => ⟨cur, h, rfl, fun j hj => absurd hj (Nat.not_lt_zero _), fun _ _ => rfl⟩
  | v :: r, o, cur, w, h, hl => by
    have h1 : (w.setCell ⟨g, o, none⟩ v).heap[g]? = some (.cells (cur.setIfInBounds o v) e fz) := by simp [World.setCell, Array.getElem?_modify, h]
    simp only [List.length_cons] at hl
    obtain ⟨cur', a1, a2, a3, a4⟩ := setCells_whole (g := g) (e := e) (fz := fz) r (o + 1) _ _ h1 (by simp only [Array.size_setIfInBounds]; omega)
    refine ⟨cur', a1, by rw [a2, Array.size_setIfInBounds], fun j hj => ?_, fun i hi => ?_⟩
    · cases j with
      | zero => rw [Nat.add_zero, a4 o (by omega), Array.getElem?_setIfInBounds_self_of_lt (by omega)]; rfl
      | succ j =>
        have := a3 j (by simp only [List.length_cons] at hj; omega)
        rw [show o + (j + 1) = o + 1 + j by omega, this]; rfl
    · simp only [List.length_cons] at hi
      rw [a4 i (by omega), Array.getElem?_setIfInBounds_ne (by omega)]
theorem PrsIs.put {w : World} {e : TypeId} {v : Value} {L : List Pr} (h : PrsIs w e v L) {g off cap : Nat} (hv : v = .slice (some ⟨g, off, none⟩) L.length cap) {n : Nat} (hn : n < L.length) (s' : Pr) :
    PrsIs (w.setCells g (off + n * 9) s'.cells) e v (L.set n s') ∧ w.there g (off + n * 9) 9 := by
  subst hv
  rcases h.2 with ⟨h0, _⟩ | ⟨g', off', cap', cur, fz, hv, hg, h1, h2, h3, h4, h5⟩
  · cases h0
  · injection hv with ha _ hcap
    injection ha with ha
    injection ha with e1 e2 _
    subst e1 e2 hcap
    have hl9 : s'.cells.length = 9 := rfl
    have hcap9 : L.length * 9 ≤ cap * 9 := Nat.mul_le_mul_right _ h2
    refine ⟨⟨pcs_length _, ?_⟩, fun j hj => ⟨?_, Own.frozen0 h (n * 9 + j) |> fun q => by rw [Nat.add_assoc]; exact q⟩⟩
    · obtain ⟨cur', a1, a2, a3, a4⟩ := setCells_whole s'.cells (off + n * 9) cur w hg (by omega)
      refine .inr ⟨g, off, cap, cur', fz, by rw [List.length_set], a1, h1, by rw [List.length_set]; exact h2, h3, by omega, fun i hi => ?_⟩
      rw [List.length_set] at hi
      obtain ⟨m, j, hj, rfl⟩ : ∃ m j, j < 9 ∧ i = m * 9 + j := ⟨i / 9, i % 9, Nat.mod_lt _ (by omega), by omega⟩
      have hm : m < L.length := by omega
      rw [pcs_get _ m j (by rw [List.length_set]; exact hm) hj]
      by_cases hmn : m = n
      · subst hmn
        rw [List.getElem_set_self, ← Nat.add_assoc, a3 j (by omega)]
      · rw [List.getElem_set_ne (fun e => hmn e.symm), a4 _ (by omega), h5 _ (by omega), pcs_get L m j hm hj]
    · rw [cell_of_row w g _ cur e fz hg, Array.getElem?_eq_getElem (by omega)]
      rfl

structure RS where
  L : List Pr
  last : Int
structure RAt (w : World) (b : Nat) (v : Value) (r : RS) : Prop where
  blk : Blk w b 55 #[v, .int .i64 r.last]
  prs : PrsIs w 52 v r.L
  pos : 0 < r.L.length
  len : r.L.length ≤ 1000000
def rOwn (b : Nat) (v : Value) : Nat → Prop := fun k => k = b ∨ v.ownBlock = some k
theorem Blk.c2 {w : World} {g : Nat} {t : TypeId} {a b : Value} (h : Blk w g t #[a, b]) : w.cell? ⟨g, 0, none⟩ = some a ∧ w.cell? ⟨g, 1, none⟩ = some b := ⟨h.cell 0, h.cell 1⟩
section
variable {w w' : World} {b : Nat} {v v' : Value} {r : RS} {T : Nat → Prop}
theorem RAt.v_ne (h : RAt w b v r) {k : Nat} (hk : v.ownBlock = some k) : k ≠ b ∧ k < w.heap.size := ⟨Own.neb h.prs h.blk (by decide) hk, Own.lt h.prs hk⟩
theorem RAt.chg (h : RAt w b v r) (hc : Chg T w w') (hd : ∀ k, rOwn b v k → ¬ T k) : RAt w' b v r :=
  ⟨Blk.chg h.blk hc (hd b (.inl rfl)), h.prs.chg hc (fun k hk => hd k (.inr hk)), h.pos, h.len⟩
theorem RAt.gr (h : RAt w b v r) (hg : w.grownBy w' none) : RAt w' b v r := h.chg (Chg.of_grown hg (fun _ h => by cases h) : Chg nobody w w') (fun _ _ h => h)
theorem RAt.lt (h : RAt w b v r) {k : Nat} (hk : rOwn b v k) : k < w.heap.size := by
  rcases hk with rfl | hk
  · exact Blk.lt h.blk
  · exact (h.v_ne hk).2
theorem RAt.newL (h : RAt w b v r) (hc : Chg T w w') (hb : ¬ T b) (L : List Pr) (ho : PrsIs w' 52 v' L) (h0 : 0 < L.length) (h1 : L.length ≤ 1000000) :
    RAt (w'.setCell ⟨b, 0, none⟩ v') b v' { r with L := L } := by
  have hb' : Blk w' b 55 #[v, .int .i64 r.last] := h.blk.chg hc hb
  exact ⟨hb'.set_ 0 _, Own.far (p := ⟨b, 0, none⟩) ho (fun e => Own.neb ho hb' (by decide) e rfl) _, h0, h1⟩
theorem RAt.setLast (h : RAt w b v r) (x : Int) : RAt (w.setCell ⟨b, 1, none⟩ (.int .i64 x)) b v { r with last := x } :=
  ⟨h.blk.set_ 1 _, Own.far (p := ⟨b, 1, none⟩) h.prs (fun e => (h.v_ne e).1 rfl) _, h.pos, h.len⟩
end
theorem info52 : (Try.prog.info? 52).map (fun i => (i.zero, i.size, i.bytes)) = some (some (Pr.agg ⟨0, ⟨zero, 0, false, false⟩⟩), 9, 64) := by kernel_rfl

set_option maxHeartbeats 1000000 in
theorem rat_any (b : Nat) (v : Value) (r : RS) (pid : Int) (w : World) (h : RAt w b v r) :
    Calls Try.prog 14 #[.pointer (some ⟨b, 0, none⟩), .int .i64 pid] w fun e w' => e = .returned (.int .i64 (oi (idx r.L pid))) ∧ w = w' := by
  obtain ⟨g, off, cap, hv, hcap, hcm, hg⟩ := h.prs.at h.pos
  subst hv
  obtain ⟨a0, a1⟩ := h.blk.c2
  have hl := h.len
  have H := hide h
  clear h hcap hcm
  go_enter Try.func14, Try.ntmps14
  go_wp2_with fail
  go_loopw [5] (fun u wr => ∃ k : Nat, u = .int .i64 k ∧ k ≤ r.L.length ∧ idxFrom r.L pid k = idx r.L pid ∧ w = wr) (fun u _ => r.L.length - (intOf u).toNat)
  case atStart => exact ⟨0, rfl, by omega, rfl, rfl⟩
  case round =>
    obtain ⟨k, rfl, hk, hff, rfl⟩ := hrel
    by_cases hlt : k < r.L.length
    · obtain ⟨s, hs⟩ : ∃ s, r.L[k]? = some s := ⟨_, List.getElem?_eq_getElem hlt⟩
      have hs' : r.L[k] = s := by rw [List.getElem?_eq_getElem hlt] at hs; injection hs
      obtain ⟨c0, c1, c2, c3, c4, c5, c6, c7, c8⟩ := H.out.prs.c rfl hlt hs
      have q0 : decide ((k : Int) < (r.L.length : Int)) = true := by simp; omega
      have hi : (0 : Int) ≤ k ∧ (k : Int) < (r.L.length : Int) := by omega
      by_cases h0 : s.pid = pid
      · have hr : idx r.L pid = some k := by rw [← hff, idx_here hlt (by rw [hs', h0])]
        have Hr := hide hr
        have q : (s.pid == pid) = true := by simpa using h0
        clear h0 hff hs' hr hs
        go_wp2_with fail
        go_ret
        rw [Hr.out]
        exact ⟨rfl, rfl⟩
      · have hr : idxFrom r.L pid (k + 1) = idx r.L pid := by rw [← hff, idx_next hlt (by rw [hs']; exact h0)]
        have Hr := hide hr
        have q : (s.pid == pid) = false := by simpa using h0
        clear h0 hff hs' hr hs
        go_wp2_with fail
        go_roundw
        case rel => exact ⟨k + 1, by go_num, by omega, Hr.out, (by first | rfl | trivial)⟩
        case measure => simp [intOf]; omega
    · have hr : idx r.L pid = none := by rw [← hff, idx_end (by omega)]
      have Hr := hide hr
      have q0 : decide ((k : Int) < (r.L.length : Int)) = false := by simp; omega
      clear hr hff
      go_wp2
      go_ret
      rw [Hr.out]
      exact ⟨rfl, rfl⟩


end Go.Proofs.Ytolmpejaakpikaa
