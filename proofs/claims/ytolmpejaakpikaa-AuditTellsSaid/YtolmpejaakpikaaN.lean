/- Audit as a plain function: what one event does to the list of processes; the program's map is the list, looked up by pid. -/
import Derived.Test.YtolmpejaakpikaaJ
import Derived.Test.YtolmpejaakpikaaS
set_option linter.all false
namespace Go.Proofs.Ytolmpejaakpikaa
open Go.RowKit Go.Maps

def pr0 : Pr := ⟨0, ⟨zero, 0, false, false⟩⟩
inductive Dec where
  | no
  | keep
  | fork (q : Pc)
  | drop
  | put (q : Pc)
def sameC (a b : Cr) : Prop := a.r = b.r ∧ a.e = b.e ∧ a.s = b.s ∧ a.g = b.g ∧ a.h = b.h
instance (a b : Cr) : Decidable (sameC a b) := by unfold sameC; infer_instance
theorem sameC.eq {a b : Cr} (h : sameC a b) : a = b := by
  obtain ⟨h1, h2, h3, h4, h5⟩ := h
  cases a
  cases b
  simp_all
/-- What an event asks for. -/
def dec (p : Pc) (last : Int) (e : Ev) : Dec :=
  if ¬ sameC p.c e.cr then .no
  else if p.c.e = 0 ∧ p.why = 0 ∧ p.pv = false then .no
  else if e.err ≠ 0 then .keep
  else if e.cl.op = 18 then (if e.an < 2 ∨ e.an ≤ last then .no else .fork ⟨p.c, forkWhy e.pid p.why, false, p.pv⟩)
  else if e.cl.op = 20 then (if e.pid = 1 then .no else .drop)
  else if e.cl.op = 19 then (if (execF p.c (e.i 2) (e.i 3)).2 ≠ 0 then .no else .put (execPc p (e.i 2) (e.i 3)))
  else if e.cl.op = 23 then (if badBecome p e.cl = true then .no else .put (becomePc p e.cl))
  else if e.cl.op = 26 then (if e.cr.e ≠ 0 then .no else .put ⟨p.c, p.why, p.nt || (e.cl.n == 1), p.pv⟩)
  else if e.cl.op = 25 then (if e.cr.e ≠ 0 then .no else .put p)
  else .put p
/-- The next list; is the event well? -/
def stepR (r : RS) (e : Ev) : RS × Bool := match idx r.L e.pid with
  | none => (r, false)
  | some n => match dec (r.L.getD n pr0).p r.last e with
    | .no => (r, false)
    | .keep => (r, true)
    | .fork q => (⟨r.L ++ [⟨e.an, q⟩], e.an⟩, true)
    | .drop => (⟨del r.L n, r.last⟩, true)
    | .put q => (⟨r.L.set n ⟨e.pid, q⟩, r.last⟩, true)
def res : List Ev → RS → Int → Int
  | [], _, _ => -1
  | e :: es, r, k => if (stepR r e).2 = true then res es (stepR r e).1 (k + 1) else k
def r0 : RS := ⟨[⟨1, ⟨zero, 1, false, false⟩⟩], 1⟩

theorem idxFrom_cons (x : Pr) (L : List Pr) (k : Int) : ∀ m j, L.length - j = m → idxFrom (x :: L) k (j + 1) = (idxFrom L k j).map (· + 1) := by
  intro m
  induction m with
  | zero => intro j hj; rw [idx_end (by simp; omega), idx_end (by omega)]; rfl
  | succ m ih =>
    intro j hj
    have hlt : j < L.length := by omega
    by_cases hx : L[j].pid = k
    · rw [idx_here (by simp; omega) (by simpa using hx), idx_here hlt hx]; rfl
    · rw [idx_next (by simp; omega) (by simpa using hx), idx_next hlt hx, ih (j + 1) (by omega)]
theorem idx_nil (k : Int) : idx [] k = none := by unfold idx; rw [idx_end (by simp)]
theorem idx_cons (x : Pr) (L : List Pr) (k : Int) : idx (x :: L) k = if x.pid = k then some 0 else (idx L k).map (· + 1) := by
  unfold idx
  by_cases hx : x.pid = k
  · rw [if_pos hx, idx_here (by simp) (by simpa using hx)]
  · rw [if_neg hx, idx_next (by simp) (by simpa using hx), idxFrom_cons x L k _ 0 rfl]
def look (L : List Pr) (k : Int) : Option Pc := (idx L k).map fun n => (L.getD n pr0).p
theorem look_nil (k : Int) : look [] k = none := by unfold look; rw [idx_nil]; rfl
theorem look_cons (x : Pr) (L : List Pr) (k : Int) : look (x :: L) k = if x.pid = k then some x.p else look L k := by
  unfold look
  rw [idx_cons]
  by_cases hx : x.pid = k
  · rw [if_pos hx, if_pos hx]; rfl
  · rw [if_neg hx, if_neg hx]
    cases idx L k with
    | none => rfl
    | some n => simp [List.getD]
theorem look_none {L : List Pr} {k : Int} (h : ∀ s ∈ L, s.pid ≠ k) : look L k = none := by
  induction L with
  | nil => exact look_nil k
  | cons x r ih => rw [look_cons, if_neg (h x (by simp)), ih (fun s hs => h s (by simp [hs]))]
theorem look_app (L : List Pr) (a : Int) (q : Pc) (h : ∀ s ∈ L, s.pid ≠ a) (k : Int) : look (L ++ [⟨a, q⟩]) k = if k = a then some q else look L k := by
  induction L with
  | nil => rw [List.nil_append, look_cons, look_nil]; simp only [eq_comm]
  | cons x r ih =>
    rw [List.cons_append, look_cons, look_cons, ih (fun s hs => h s (by simp [hs]))]
    have := h x (by simp)
    by_cases e : k = a
    · subst e
      simp [this]
    · simp [e]
theorem look_set (L : List Pr) : ∀ (n : Nat) (pid : Int) (q : Pc), idx L pid = some n → ∀ k, look (L.set n ⟨pid, q⟩) k = if k = pid then some q else look L k := by
  induction L with
  | nil => intro n pid q h; rw [idx_nil] at h; cases h
  | cons x r ih =>
    intro n pid q h k
    rw [idx_cons] at h
    by_cases hx : x.pid = pid
    · rw [if_pos hx] at h
      injection h with h
      subst h
      rw [List.set_cons_zero, look_cons, look_cons]
      by_cases e : k = pid
      · subst e; simp
      · have e1 : ¬ pid = k := fun h => e h.symm
        simp only [if_neg e, if_neg e1, hx]
    · rw [if_neg hx] at h
      cases hi : idx r pid with
      | none => rw [hi] at h; cases h
      | some m =>
        rw [hi] at h
        injection h with h
        subst h
        rw [List.set_cons_succ, look_cons, look_cons, ih m pid q hi k]
        by_cases e : k = pid
        · subst e; simp [hx]
        · simp [e]
theorem del_cons_succ (x : Pr) (L : List Pr) (n : Nat) : del (x :: L) (n + 1) = x :: del L n := by simp [del]
theorem look_del (L : List Pr) : ∀ (n : Nat) (pid : Int), (L.map Pr.pid).Nodup → idx L pid = some n → ∀ k, look (del L n) k = if k = pid then none else look L k := by
  induction L with
  | nil => intro n pid _ h; rw [idx_nil] at h; cases h
  | cons x r ih =>
    intro n pid hnd h k
    rw [idx_cons] at h
    simp only [List.map_cons, List.nodup_cons] at hnd
    by_cases hx : x.pid = pid
    · rw [if_pos hx] at h
      injection h with h
      subst h
      have e0 : del (x :: r) 0 = r := by simp [del]
      rw [e0, look_cons]
      by_cases e : k = pid
      · rw [if_pos e, look_none (fun s hs e' => hnd.1 (by rw [hx, ← e, ← e']; exact List.mem_map_of_mem hs))]
      · have e1 : ¬ x.pid = k := fun h => e (by rw [← h, hx])
        rw [if_neg e, if_neg e1]
    · rw [if_neg hx] at h
      cases hi : idx r pid with
      | none => rw [hi] at h; cases h
      | some m =>
        rw [hi] at h
        injection h with h
        subst h
        rw [del_cons_succ, look_cons, look_cons, ih m pid hnd.2 hi k]
        by_cases e : k = pid
        · subst e; simp [hx]
        · simp [e]

def RS.bk (r : RS) : Bk := ⟨look r.L, r.last⟩
structure Inv (r : RS) : Prop where
  nd : (r.L.map Pr.pid).Nodup
  le : ∀ s ∈ r.L, s.pid ≤ r.last
  one : ∃ s ∈ r.L, s.pid = 1
theorem Inv.last {r : RS} (h : Inv r) : 1 ≤ r.last := by
  obtain ⟨s, hs, e⟩ := h.one
  have := h.le s hs
  omega
theorem Inv.pos {r : RS} (h : Inv r) : 0 < r.L.length := by
  obtain ⟨s, hs, _⟩ := h.one
  exact List.length_pos_of_mem hs
theorem inv0 : Inv r0 := ⟨by simp [r0], by simp [r0], by simp [r0]⟩
theorem mem_del {L : List Pr} {n : Nat} {s : Pr} (h : s ∈ del L n) : s ∈ L := by
  unfold del at h
  rcases List.mem_append.1 h with h | h
  · exact List.mem_of_mem_take h
  · exact List.mem_of_mem_drop h
theorem del_nd (L : List Pr) : ∀ n, (L.map Pr.pid).Nodup → ((del L n).map Pr.pid).Nodup := fun n h => by
  unfold del
  rw [← List.eraseIdx_eq_take_drop_succ]
  exact h.sublist ((List.eraseIdx_sublist L n).map _)
theorem mem_del_of {L : List Pr} {n : Nat} {s : Pr} (h : s ∈ L) (hn : L[n]? ≠ some s) : s ∈ del L n := by
  obtain ⟨i, hi, rfl⟩ := List.getElem_of_mem h
  have hne : i ≠ n := fun e => hn (by subst e; exact List.getElem?_eq_getElem hi)
  unfold del
  rw [List.mem_append]
  rcases Nat.lt_or_gt_of_ne hne with hlt | hgt
  · exact .inl (List.mem_iff_getElem?.2 ⟨i, by rw [List.getElem?_take_of_lt hlt, List.getElem?_eq_getElem hi]⟩)
  · exact .inr (List.mem_iff_getElem?.2 ⟨i - (n + 1), by rw [List.getElem?_drop, show n + 1 + (i - (n + 1)) = i by omega, List.getElem?_eq_getElem hi]⟩)

theorem dec_fork {p : Pc} {last : Int} {e : Ev} {q : Pc} (h : dec p last e = .fork q) : last < e.an := by
  by_cases hc : last < e.an
  · exact hc
  · exfalso
    have h1 : e.an < 2 ∨ e.an ≤ last := .inr (by omega)
    unfold dec at h
    simp only [h1, if_true] at h
    revert h
    (repeat' split) <;> (intro h; cases h)
theorem dec_drop {p : Pc} {last : Int} {e : Ev} (h : dec p last e = .drop) : e.pid ≠ 1 := by
  intro hc
  unfold dec at h
  simp only [hc, if_true] at h
  revert h
  (repeat' split) <;> (intro h; cases h)
set_option maxHeartbeats 1000000 in
theorem stepR_inv {r : RS} (h : Inv r) (e : Ev) (hk : (stepR r e).2 = true) : Inv (stepR r e).1 ∧ (stepR r e).1.L.length ≤ r.L.length + 1 := by
  unfold stepR at hk ⊢
  cases hi : idx r.L e.pid with
  | none => rw [hi] at hk; cases hk
  | some n =>
    rw [hi] at hk
    obtain ⟨hn, s, hs, hp⟩ := idx_some hi
    simp only at hk ⊢
    cases hd : dec (r.L.getD n pr0).p r.last e with
    | no => rw [hd] at hk; cases hk
    | keep => exact ⟨h, by simp⟩
    | fork q =>
      have hlt : r.last < e.an := dec_fork hd
      refine ⟨⟨?_, ?_, ?_⟩, by simp⟩
      · simp only [List.map_append, List.map_cons, List.map_nil, List.nodup_append]
        refine ⟨h.nd, List.nodup_cons.2 ⟨List.not_mem_nil, List.nodup_nil⟩, fun a ha c hc => ?_⟩
        obtain ⟨x, hx, rfl⟩ := List.mem_map.1 ha
        have := h.le x hx
        simp at hc
        omega
      · intro x hx
        rcases List.mem_append.1 hx with hx | hx
        · have := h.le x hx
          show x.pid ≤ e.an
          omega
        · simp at hx
          subst hx
          exact Int.le_refl _
      · obtain ⟨x, hx, h1⟩ := h.one
        exact ⟨x, List.mem_append.2 (.inl hx), h1⟩
    | drop =>
      have hne : e.pid ≠ 1 := dec_drop hd
      refine ⟨⟨del_nd _ _ h.nd, fun x hx => h.le x (mem_del hx), ?_⟩, by simp [del]; omega⟩
      obtain ⟨x, hx, h1⟩ := h.one
      refine ⟨x, mem_del_of hx (fun e' => ?_), h1⟩
      rw [hs] at e'
      injection e' with e'
      subst e'
      exact hne (by omega)
    | put q =>
      have hm : (r.L.set n ⟨e.pid, q⟩).map Pr.pid = r.L.map Pr.pid := by
        rw [List.map_set]
        apply List.ext_getElem?
        intro i
        by_cases hin : n = i
        · subst hin
          rw [List.getElem?_set_self (by simpa using hn), List.getElem?_map, hs]
          simp [hp]
        · rw [List.getElem?_set_ne hin]
      have hmem : ∀ x ∈ r.L.set n ⟨e.pid, q⟩, ∃ y ∈ r.L, y.pid = x.pid := by
        intro x hx
        have : x.pid ∈ (r.L.set n ⟨e.pid, q⟩).map Pr.pid := List.mem_map_of_mem hx
        rw [hm] at this
        exact List.mem_map.1 this
      refine ⟨⟨by simp only; rw [hm]; exact h.nd, fun x hx => ?_, ?_⟩, by simp⟩
      · obtain ⟨y, hy, e1⟩ := hmem x hx
        have := h.le y hy
        show x.pid ≤ r.last
        omega
      · obtain ⟨x, hx, h1⟩ := h.one
        have : x.pid ∈ (r.L.set n ⟨e.pid, q⟩).map Pr.pid := by rw [hm]; exact List.mem_map_of_mem hx
        obtain ⟨y, hy, e1⟩ := List.mem_map.1 this
        exact ⟨y, hy, by omega⟩

theorem bk_at {r : RS} {k : Int} : r.bk.m k = (idx r.L k).map fun n => (r.L.getD n pr0).p := rfl
set_option maxHeartbeats 1000000 in
/-- The map is the list: what well does to the one is what it does to the other. -/
theorem well_step {r : RS} (h : Inv r) (e : Ev) : ((stepR r e).2 = false → (wellRes r.bk e).2 = false) ∧ ((stepR r e).2 = true → wellRes r.bk e = ((stepR r e).1.bk, true)) := by
  have hlast := h.last
  unfold stepR wellRes
  have hm : r.bk.m e.pid = look r.L e.pid := rfl
  rw [hm]
  unfold look
  cases hi : idx r.L e.pid with
  | none => simp
  | some n =>
    obtain ⟨hn, s, hs, hp⟩ := idx_some hi
    simp only [Option.map_some]
    obtain ⟨p, hpp⟩ : ∃ p, (r.L.getD n pr0).p = p := ⟨_, rfl⟩
    have hlk : look r.L e.pid = some p := by unfold look; rw [hi, ← hpp]; rfl
    have hself : ∀ q : Pc, q = p → putB r.bk e.pid q = r.bk := by
      rintro q rfl
      unfold putB RS.bk updB
      simp only [Bk.mk.injEq, and_true]
      funext x
      by_cases e1 : x = e.pid
      · subst e1; rw [if_pos rfl, hlk]
      · rw [if_neg e1]
    have hset : ∀ q : Pc, putB r.bk e.pid q = RS.bk ⟨r.L.set n ⟨e.pid, q⟩, r.last⟩ := by
      intro q
      unfold putB RS.bk updB
      simp only [Bk.mk.injEq, and_true]
      funext x
      rw [look_set r.L n e.pid q hi x]
    rw [hpp]
    have hg : gate r.bk e = (decide (sameC p.c e.cr) && !(decide (p.c.e = 0) && (decide (p.why = 0) && !p.pv))) := by
      unfold gate
      rw [hm, hlk]
      rfl
    rw [hg]
    unfold dec
    by_cases hc : sameC p.c e.cr
    · by_cases hr : p.c.e = 0 ∧ p.why = 0 ∧ p.pv = false
      · simp [hc, hr]
      · have hg1 : (decide (sameC p.c e.cr) && !(decide (p.c.e = 0) && (decide (p.why = 0) && !p.pv))) = true := by
          rw [decide_eq_true hc, Bool.true_and]
          by_cases a1 : p.c.e = 0
          · by_cases a2 : p.why = 0
            · cases a3 : p.pv with
              | true => simp
              | false => exact absurd ⟨a1, a2, a3⟩ hr
            · simp [a2]
          · simp [a1]
        rw [hg1]
        simp only [hc, not_true_eq_false, if_false, hr, Bool.true_eq_false]
        by_cases he : e.err = 0
        · simp only [he, ne_eq, not_true_eq_false, if_false]
          by_cases o1 : e.cl.op = 18
          · simp only [o1, if_true]
            by_cases hl : e.an ≤ r.last
            · have h1 : e.an < 2 ∨ e.an ≤ r.last := .inr hl
              have h2 : e.an ≤ r.bk.last := hl
              simp [h1, h2]
            · have h1 : ¬ (e.an < 2 ∨ e.an ≤ r.last) := by omega
              have h2 : ¬ e.an ≤ r.bk.last := hl
              simp only [h1, h2, if_false]
              refine ⟨fun h => by simp at h, fun _ => ?_⟩
              simp only [Prod.mk.injEq, and_true]
              unfold RS.bk updB forkWhy
              simp only [Bk.mk.injEq, and_true]
              funext x
              rw [look_app r.L e.an _ (fun y hy e1 => by have := h.le y hy; omega) x]
          · simp only [o1, if_false]
            by_cases o2 : e.cl.op = 20
            · simp only [o2, if_true]
              by_cases hp1 : e.pid = 1
              · simp [hp1]
              · simp only [hp1, if_false]
                refine ⟨fun h => by simp at h, fun _ => ?_⟩
                have : (e.pid != 1) = true := by simpa using hp1
                rw [this]
                simp only [Prod.mk.injEq, and_true]
                unfold RS.bk updB
                simp only [Bk.mk.injEq, and_true]
                funext x
                rw [look_del r.L n e.pid h.nd hi x]
            · simp only [o2, if_false]
              by_cases o3 : e.cl.op = 19
              · simp only [o3, if_true]
                by_cases hx : (execF p.c (e.i 2) (e.i 3)).2 = 0
                · simp [hx, hset]
                · simp [hx]
              · simp only [o3, if_false]
                by_cases o4 : e.cl.op = 23
                · simp only [o4, if_true]
                  by_cases hb : badBecome p e.cl = true
                  · simp [hb]
                  · simp [hb, hset]
                · simp only [o4, if_false]
                  by_cases o5 : e.cl.op = 26
                  · simp only [o5, if_true]
                    by_cases hr2 : e.cr.e = 0
                    · simp [hr2, hset]
                    · simp [hr2]
                  · simp only [o5, if_false]
                    by_cases o6 : e.cl.op = 25
                    · simp only [o6, if_true]
                      by_cases hr2 : e.cr.e = 0
                      · simp only [hr2, not_true_eq_false, if_false]
                        refine ⟨fun h => by simp at h, fun _ => ?_⟩
                        rw [← hset p, hself p rfl]
                        rfl
                      · simp [hr2]
                    · simp only [o6, if_false]
                      simp [hset]
        · simp [he]
    · simp [hc]

end Go.Proofs.Ytolmpejaakpikaa
