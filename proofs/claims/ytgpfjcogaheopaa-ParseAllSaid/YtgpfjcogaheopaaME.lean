/- Several texts in one. -/
import Derived.Test.YtgpfjcogaheopaaQA
import Derived.Test.YtgpfjcogaheopaaPC
import Derived.BigQuiet
import Derived.Deep.LoopGhost
import Derived.Test.YtgpfjcogaheopaaPerm
set_option linter.all false
section
/- Which signs and words the lexer's tokens are; what stands behind a descriptor's number. -/
namespace Go.Proofs.Ytgpfjcogaheopaa
open Lx
set_option maxRecDepth 100000
/-- Words are no signs, signs are signs, and a redirection stands behind its number. -/
def Wl : List Tok → Prop
 | [] => True
 | t :: r => (t.k = 1 → t.t ∉ sgs) ∧ (t.k = 2 → t.t ∈ sgs) ∧ (t.k = 3 → ∃ o q, r = o :: q ∧ rdrB o = true) ∧ Wl r
theorem Wl.tail {ts : List Tok} (h : Wl ts) : Wl ts.tail := by
 cases ts with
 | nil => exact h
 | cons t r => exact h.2.2.2
theorem Wl.sgn {ts : List Tok} (h : Wl ts) {s : List UInt8} (hs : s ∈ sgs) : isB ts s = sgnB ts s := by
 unfold isB
 cases ts with
 | nil => rfl
 | cons t r =>
  have : wrdB (t :: r) s = false := by
   cases hw : wrdB (t :: r) s with
   | false => rfl
   | true =>
    obtain ⟨h1, h2⟩ := wrd_k hw
    exact absurd (h2 ▸ hs) (h.1 h1)
  rw [this, Bool.or_false]
theorem Wl.wrd {ts : List Tok} (h : Wl ts) {s : List UInt8} (hs : s ∉ sgs) : isB ts s = wrdB ts s := by
 unfold isB
 cases ts with
 | nil => rfl
 | cons t r =>
  have : sgnB (t :: r) s = false := by
   cases hw : sgnB (t :: r) s with
   | false => rfl
   | true =>
    obtain ⟨h1, h2⟩ := sgn_k hw
    exact absurd (h2 ▸ h.2.1 h1) hs
  rw [this, Bool.false_or]
theorem Wl.drop {ts : List Tok} (h : Wl ts) : ∀ n, Wl (ts.drop n)
 | 0 => by rw [List.drop_zero]; exact h
 | n + 1 => by
  rw [← List.drop_drop, List.drop_one]
  exact (h.drop n).tail
theorem sgs_rdr : ∀ s ∈ sgs, s ≠ [] ∧ ((s.headD 0 = 60 ∨ s.headD 0 = 62) → rdrW.contains s = true) := by decide
theorem sgs_stop : ∀ s ∈ sgs, isIn stopB (s.headD 0) = true := by decide
theorem next_rdr {c : UInt8} {r : List UInt8} (hc : c = 60 ∨ c = 62) : ∃ s, nextF (c :: r) = .tok 2 s ∧ rdrW.contains s = true := by
 cases hf : sgs.find? (hasSign (c :: r)) with
 | none =>
  rw [List.find?_eq_none] at hf
  exfalso
  rcases hc with rfl | rfl
  ·exact hf [60] (by decide) (by simp [hasSign])
  ·exact hf [62] (by decide) (by simp [hasSign])
 | some s =>
  have hm := List.mem_of_find?_eq_some hf
  have hh := List.find?_some hf
  have hs : signF (c :: r) = s := by unfold signF; rw [hf]; rfl
  obtain ⟨hne, hr⟩ := sgs_rdr s hm
  have h0 : s.headD 0 = c := by
   unfold hasSign at hh
   rw [decide_eq_true_eq] at hh
   cases s with
   | nil => exact absurd rfl hne
   | cons x q =>
    rw [List.length_cons, List.take_succ_cons] at hh
    injection hh with hh _
    exact hh.symm
  refine ⟨s, ?_, hr (by rw [h0]; exact hc)⟩
  unfold nextF
  rw [hs, if_pos hne]
/-- Behind each number stands a redirection's sign. -/
def IoN : List Tok → Prop
 | [] => True
 | t :: r => (t.k = 3 → ∃ o q, r = o :: q ∧ rdrB o = true) ∧ IoN r
theorem blank_rdr {c : UInt8} {r : List UInt8} (hc : c = 60 ∨ c = 62) : blankF (c :: r) = 0 := by
 rw [blank_cons]
 have h1 : ¬ (c = 32 ∨ c = 9) := by rcases hc with rfl | rfl <;> decide
 have h2 : ¬ c = 35 := by rcases hc with rfl | rfl <;> decide
 rw [if_neg h1, if_neg, if_neg h2]
 intro e
 have : c = 92 := by
  cases r with
  | nil => simp at e
  | cons d r => injection e with e _
 rcases hc with rfl | rfl <;> exact absurd this (by decide)
theorem go_io {l : List UInt8} (hl : l.length ≤ 4096) (E : Tok) (hE : E.k = 4) : ∀ (f i : Nat) (acc ts : List Tok), blankF (l.drop i) = 0 → allGo l f i acc = .ok ts → l.length < i + f → ∃ us, ts = acc ++ us ∧ IoN (us ++ [E]) ∧ (i < l.length → ∃ k s q, us = ⟨k, s, i⟩ :: q ∧ nextF (l.drop i) = .tok k s) := by
 intro f
 induction f with
 | zero =>
  intro i acc ts _ h hi
  rw [allGo] at h
  injection h with h
  exact ⟨[], by simp [h], ⟨fun h => by omega, trivial⟩, fun h => by omega⟩
 | succ f ih =>
  intro i acc ts hb h hi
  rw [allGo] at h
  split at h
  ·rename_i hlt
   split at h
   ·cases h
   ·split at h
    ·rename_i k s hn
     have hw := next_w hl hlt hb hn
     have hpos : 1 ≤ s.length := by
      rcases hw.kk with h | h | h
      ·obtain ⟨c, r, e, _⟩ := hw.wd h
       rw [show s = c :: r from e]; simp
      ·exact (sgs_len _ (hw.sg h)).1
      ·obtain ⟨c, e, _⟩ := hw.io h
       rw [show s = [c] from e]; simp
     have hbl : blankF (l.drop (i + s.length + blankF (l.drop (i + s.length)))) = 0 := by
      have := blank_idem _ (l.drop (i + s.length)) rfl
      rwa [List.drop_drop] at this
     obtain ⟨us, e1, e2, e3⟩ := ih _ _ _ hbl h (by omega)
     refine ⟨⟨k, s, i⟩ :: us, by rw [e1, List.append_assoc]; rfl, ⟨fun hk => ?_, e2⟩, fun _ => ⟨k, s, us, rfl, hn⟩⟩
     simp only [] at hk
     subst hk
     obtain ⟨c, hc, _⟩ := hw.io rfl
     simp only [] at hc
     subst hc
     have hio : ioB (l.drop i) 1 = true := by
      unfold nextF at hn
      split at hn
      ·cases hn
      ·split at hn
       ·rename_i n hwd
        injection hn with h3 h4
        have h5 : ioB (l.drop i) n = true := by
         cases hh : ioB (l.drop i) n with
         | true => rfl
         | false => rw [hh] at h3; simp at h3
        have h6 := h5
        unfold ioB at h6
        rw [decide_eq_true_eq] at h6
        rw [h6.1] at h5
        exact h5
       ·cases hn
       ·cases hn
     unfold ioB at hio
     rw [decide_eq_true_eq] at hio
     obtain ⟨_, _, _, h4, h5⟩ := hio
     rw [List.length_drop] at h4
     have hd : l.drop (i + 1) = l[i + 1]'(by omega) :: l.drop (i + 1 + 1) := List.drop_eq_getElem_cons (by omega)
     have h6 : (l.drop i).getD 1 0 = l[i + 1]'(by omega) := by
      rw [List.getD_eq_getElem?_getD, List.getElem?_drop, List.getElem?_eq_getElem (by omega)]
      rfl
     rw [h6] at h5
     have hbr : blankF (l.drop (i + 1)) = 0 := by rw [hd]; exact blank_rdr h5
     have e4 := e3
     simp only [List.length_cons, List.length_nil, Nat.zero_add] at e4
     rw [hbr, Nat.add_zero] at e4
     obtain ⟨k2, s2, q, hq, hn2⟩ := e4 (by omega)
     rw [hd] at hn2
     obtain ⟨s3, h7, h8⟩ := next_rdr (r := l.drop (i + 1 + 1)) h5
     rw [h7] at hn2
     injection hn2 with h9 h10
     subst h9 h10
     refine ⟨⟨2, s3, i + 1⟩, q ++ [E], by rw [hq]; rfl, ?_⟩
     show ((2 : Nat) == 2 && rdrW.contains s3) = true
     rw [h8]
     rfl
    ·cases h
    ·cases h
  ·injection h with h
   exact ⟨[], by simp [h], ⟨fun h => by omega, trivial⟩, fun h => by omega⟩
theorem wl_of : ∀ ts : List Tok, (∀ t ∈ ts, (t.k = 1 → t.t ∉ sgs) ∧ (t.k = 2 → t.t ∈ sgs)) → IoN ts → Wl ts
 | [], _, _ => trivial
 | t :: r, h, hi => ⟨(h t (List.mem_cons_self ..)).1, (h t (List.mem_cons_self ..)).2, hi.1, wl_of r (fun x hx => h x (List.mem_cons_of_mem _ hx)) hi.2⟩
theorem all_wl {l : List UInt8} {ts : List Tok} (h : allF l = .ok ts) : Wl ts := by
 obtain ⟨hl, out, e, hw, _⟩ := all_w h
 have hio : IoN ts := by
  unfold allF at h
  rw [if_neg (by omega)] at h
  split at h
  ·rename_i acc ha
   injection h with h
   obtain ⟨us, e1, e2, _⟩ := go_io hl ⟨4, [], l.length⟩ rfl _ _ _ _ (blank_idem _ l rfl) ha (by omega)
   rw [List.nil_append] at e1
   subst e1
   rw [← h]
   exact e2
  ·cases h
 refine wl_of ts (fun t ht => ?_) hio
 rw [e, List.mem_append] at ht
 rcases ht with ht | ht
 ·have := hw t ht
  refine ⟨fun hk hm => ?_, this.sg⟩
  obtain ⟨c, r, e, h2⟩ := this.wd hk
  have h3 := sgs_stop _ hm
  rw [e] at h3
  rw [show (c :: r).headD 0 = c from rfl, h2] at h3
  cases h3
 ·rw [List.mem_singleton] at ht
  subst ht
  exact ⟨fun h => (by cases h), fun h => (by cases h)⟩
end Go.Proofs.Ytgpfjcogaheopaa

end
section
/- What the document's reader holds in memory; sign, word, fail. -/
namespace Go.Proofs.Ytgpfjcogaheopaa
open Go.RowKit Lx
set_option maxRecDepth 100000
theorem retb {a b : Bool} (h : a = b) : Ending.returned (.bool a) = .returned (.bool b) := by rw [h]
theorem reti {a b : Int} (h : a = b) : Ending.returned (.int .i64 a) = .returned (.int .i64 b) := by rw [h]
/-- What is known of all tokens. -/
structure Tg (T : List Tok) : Prop where
 good : Good T
 wl : Wl T
 txt : ∀ t ∈ T, TokOk t
 len : T.length ≤ 500
/-- The reader's cells: it stands at token a. -/
structure DAt (w : World) (rb : Nat) (T : List Tok) (vt : Value) (a : Nat) (d e f : Int) : Prop where
 blk : Blk w rb 50 #[vt, .int .i64 a, .int .i64 d, .int .i64 e, .int .i64 f]
 tok : Own w 41 3 vt T.length (tcs T) 0
 lt : a < T.length
 tg : Tg T
 old : ∀ g, vt.ownBlock = some g → g < rb
/-- It reads on, or has met an error. -/
inductive DS
 | ok (ts : List Tok) (d : Nat)
 | er (a e : Int)
def DIs (w : World) (rb : Nat) (T : List Tok) : DS → Prop
 | .ok ts d => ∃ vt a f, DAt w rb T vt a d 0 f ∧ T.drop a = ts ∧ d ≤ 26
 | .er a e => ∃ vt i d, DAt w rb T vt i d e a ∧ e ≠ 0
section
variable {w w' : World} {rb a : Nat} {T : List Tok} {vt : Value} {d e f : Int} {s : DS}
theorem DAt.grown (h : DAt w rb T vt a d e f) (hg : w.grownBy w' none) : DAt w' rb T vt a d e f := ⟨Blk.grown h.blk hg (by simp), old_own hg h.tok, h.lt, h.tg, h.old⟩
theorem DIs.grown (h : DIs w rb T s) (hg : w.grownBy w' none) : DIs w' rb T s := by
 cases s with
 | ok ts d =>
  obtain ⟨vt, a, f, h, h2⟩ := h
  exact ⟨vt, a, f, h.grown hg, h2⟩
 | er x k =>
  obtain ⟨vt, i, d, h, h2⟩ := h
  exact ⟨vt, i, d, h.grown hg, h2⟩
theorem DAt.cells (h : DAt w rb T vt a d e f) : w.cell? ⟨rb, 0, none⟩ = some vt ∧ w.cell? ⟨rb, 1, none⟩ = some (.int .i64 a) ∧ w.cell? ⟨rb, 2, none⟩ = some (.int .i64 d) ∧ w.cell? ⟨rb, 3, none⟩ = some (.int .i64 e) ∧ w.cell? ⟨rb, 4, none⟩ = some (.int .i64 f) := ⟨Blk.cell h.blk 0, Blk.cell h.blk 1, Blk.cell h.blk 2, Blk.cell h.blk 3, Blk.cell h.blk 4⟩
theorem dtoks_at {w : World} {v : Value} {T : List Tok} (h : Own w 41 3 v T.length (tcs T) 0) (hp : 0 < T.length) : ∃ g off cap, v = .slice (some ⟨g, off, none⟩) T.length cap ∧ T.length ≤ cap ∧ g < w.heap.size ∧ ∀ i (hi : i < T.length), w.cell? ⟨g, off + i * 3, none⟩ = some (.int .i64 (T[i]).k) ∧ w.cell? ⟨g, off + i * 3 + 1, none⟩ = some (.string ⟨(T[i]).t.toArray⟩) ∧ w.cell? ⟨g, off + i * 3 + 2, none⟩ = some (.int .i64 (T[i]).a) := by
 obtain ⟨g, off, cap, rfl, hc, _, hg, hcs⟩ := h.some_ hp
 refine ⟨g, off, cap, rfl, hc, hg, fun i hi => ⟨?_, ?_, ?_⟩⟩
 ·have := hcs (i * 3) (by omega)
  rw [this, show i * 3 = i * 3 + 0 from rfl, tcs_get T i 0 hi (by omega)]; rfl
 ·have := hcs (i * 3 + 1) (by omega)
  rw [Nat.add_assoc, this, tcs_get T i 1 hi (by omega)]; rfl
 ·have := hcs (i * 3 + 2) (by omega)
  rw [Nat.add_assoc, this, tcs_get T i 2 hi (by omega)]; rfl
/-- The token at which it stands. -/
theorem DAt.tok_ (h : DAt w rb T vt a d e f) : ∃ g off cap t r, vt = .slice (some ⟨g, off, none⟩) T.length cap ∧ T.length ≤ cap ∧ g < w.heap.size ∧ T.drop a = t :: r ∧ w.cell? ⟨g, off + a * 3, none⟩ = some (.int .i64 t.k) ∧ w.cell? ⟨g, off + a * 3 + 1, none⟩ = some (.string ⟨t.t.toArray⟩) ∧ w.cell? ⟨g, off + a * 3 + 2, none⟩ = some (.int .i64 t.a) := by
 obtain ⟨g, off, cap, e, hc, hg, hcs⟩ := dtoks_at h.tok (Nat.lt_of_le_of_lt (Nat.zero_le _) h.lt)
 exact ⟨g, off, cap, _, _, e, hc, hg, List.drop_eq_getElem_cons h.lt, hcs a h.lt⟩
theorem DAt.lb (h : DAt w rb T vt a d e f) : rb < w.heap.size := Blk.lt h.blk
/-- A store into a newer block. -/
theorem DAt.fresh {B : Nat} (h : DAt w rb T vt a d e f) (hB : rb < B) (j : Nat) (u : Value) : DAt (w.setCell ⟨B, j, none⟩ u) rb T vt a d e f := by
 refine ⟨Blk.far h.blk (p := ⟨B, j, none⟩) (show rb ≠ B by omega) _, h.tok.far (p := ⟨B, j, none⟩) (fun e => ?_) _, h.lt, h.tg, h.old⟩
 have := h.old _ e
 simp only [] at this
 omega
theorem DIs.fresh {B : Nat} (h : DIs w rb T s) (hB : rb < B) (j : Nat) (u : Value) : DIs (w.setCell ⟨B, j, none⟩ u) rb T s := by
 cases s with
 | ok ts d =>
  obtain ⟨vt, a, f, h, h2⟩ := h
  exact ⟨vt, a, f, h.fresh hB j u, h2⟩
 | er x k =>
  obtain ⟨vt, i, d, h, h2⟩ := h
  exact ⟨vt, i, d, h.fresh hB j u, h2⟩
theorem DIs.lb (h : DIs w rb T s) : rb < w.heap.size := by
 cases s with
 | ok ts d => obtain ⟨vt, a, f, h, _⟩ := h; exact h.lb
 | er x k => obtain ⟨vt, i, d, h, _⟩ := h; exact h.lb
theorem good_drop {T : List Tok} (h : Good T) : ∀ a, a < T.length → Good (T.drop a) ∧ ∀ i (hi : i < T.length), i < a → T[i].k ≠ 4 := by
 intro a ha
 obtain ⟨p, e, rfl, he, hp⟩ := h
 rw [List.length_append, List.length_singleton] at ha
 refine ⟨⟨p.drop a, e, by rw [List.drop_append_of_le_length (by omega)], he, fun t ht => hp t (List.mem_of_mem_drop ht)⟩, fun i hi hia => ?_⟩
 rw [List.getElem_append_left (by omega)]
 exact hp _ (List.getElem_mem _)
theorem DIs.good {ts : List Tok} {d : Nat} (h : DIs w rb T (.ok ts d)) : Good ts ∧ Wl ts ∧ (∀ t ∈ ts, TokOk t) ∧ ts.length ≤ 500 ∧ d ≤ 26 := by
 obtain ⟨vt, a, f, h, rfl, hd⟩ := h
 exact ⟨(good_drop h.tg.good a h.lt).1, h.tg.wl.drop a, fun t ht => h.tg.txt t (List.mem_of_mem_drop ht), by rw [List.length_drop]; have := h.tg.len; omega, hd⟩
/-- One token on. -/
theorem DAt.step {t : Tok} {r : List Tok} (h : DAt w rb T vt a d e f) (hd : T.drop a = t :: r) (hk : t.k ≠ 4) : DAt (w.setCell ⟨rb, 1, none⟩ (.int .i64 ((a + 1 : Nat) : Int))) rb T vt (a + 1) d e f ∧ T.drop (a + 1) = r := by
 have hr : T.drop (a + 1) = r := by rw [← List.drop_drop, hd]; rfl
 refine ⟨⟨Blk.set_ h.blk 1 _, h.tok.far (p := ⟨rb, 1, none⟩) (fun e => ?_) _, ?_, h.tg, h.old⟩, hr⟩
 ·have := (h.tok.hasT e).uniq h.blk.hasT
  exact absurd this (by decide)
 ·have hg := (good_drop h.tg.good a h.lt).1
  rw [hd] at hg
  have := (hg.tail hk).pos
  rw [← hr, List.length_drop] at this
  omega
theorem DAt.set (h : DAt w rb T vt a d e f) (j : Nat) (hj : j = 2 ∨ j = 3 ∨ j = 4) (x : Int) : DAt (w.setCell ⟨rb, j, none⟩ (.int .i64 x)) rb T vt a (if j = 2 then x else d) (if j = 3 then x else e) (if j = 4 then x else f) := by
 refine ⟨?_, h.tok.far (p := ⟨rb, j, none⟩) (fun e => ?_) _, h.lt, h.tg, h.old⟩
 ·have := Blk.set_ h.blk j (.int .i64 x)
  rcases hj with rfl | rfl | rfl <;> exact this
 ·have := (h.tok.hasT e).uniq h.blk.hasT
  exact absurd this (by decide)
end
def sgnD : DS → List UInt8 → Bool
 | .ok ts _, s => sgnB ts s
 | .er _ _, _ => false
def wrdD : DS → List UInt8 → Bool
 | .ok ts _, s => wrdB ts s
 | .er _ _, _ => false
def Qb (b : Bool) (w : World) (e : Ending) (w' : World) : Prop := e = .returned (.bool b) ∧ w.grownBy w' none
set_option maxHeartbeats 4000000 in
theorem dsign_any (rb : Nat) (T : List Tok) (st : DS) (s : List UInt8) (w : World) (h : DIs w rb T st) : Calls Try.prog 29 #[.pointer (some ⟨rb, 0, none⟩), sv s] w (Qb (sgnD st s) w) := by
 cases st with
 | er x k =>
  obtain ⟨vt, i, d, h, hk⟩ := h
  obtain ⟨c0, c1, c2, c3, c4⟩ := h.cells
  have lb := h.lb
  have q : (k == 0) = false := beq_eq_false_iff_ne.2 hk
  unfold sv Qb sgnD
  clear h
  go_enter Try.func29, Try.ntmps29
  go_wp2_with fail
  go_quiet (fail)
  go_wp2_with fail
  go_ret
  exact ⟨rfl, only_drewN (only_refl w none) nq⟩
 | ok ts d =>
  obtain ⟨vt, a, f, h, hd, _⟩ := h
  obtain ⟨c0, c1, c2, c3, c4⟩ := h.cells
  obtain ⟨g, off, cap, t, r, rfl, hc, hg, hd2, t0, t1, t2⟩ := h.tok_
  have lb := h.lb
  have hlt := h.lt
  have hib : (0 : Int) ≤ (a : Int) ∧ (a : Int) < ((T.length : Nat) : Int) := by omega
  have hs : sgnD (.ok ts d) s = (t.k == 2 && t.t == s) := by rw [← hd, hd2]; rfl
  have HS := hide hs
  obtain ⟨L, hL⟩ : ∃ L, T.length = L := ⟨_, rfl⟩
  rw [hL] at c0 hib hc
  clear h hlt hd hd2 hs hL
  obtain ⟨tk, tt, ta⟩ := t
  simp only [] at t0 t1 t2
  unfold sv Qb
  by_cases hk : tk = 2
  ·subst hk
   go_enter Try.func29, Try.ntmps29
   go_wp2_with fail
   go_quiet (fail)
   go_wp2_with fail
   go_ret
   exact ⟨retb (a := tt == s) (by rw [HS.out]; simp), only_drewN (only_refl w none) nq⟩
  ·have q : ((tk : Int) == 2) = false := by rw [beq_eq_false_iff_ne]; omega
   have HQ := hide (show (tk == 2) = false by rw [beq_eq_false_iff_ne]; exact hk)
   go_enter Try.func29, Try.ntmps29
   go_wp2_with fail
   go_quiet (fail)
   go_wp2_with fail
   go_ret
   exact ⟨retb (a := false) (by rw [HS.out]; simp only [HQ.out, Bool.false_and]), only_drewN (only_refl w none) nq⟩
set_option maxHeartbeats 4000000 in
theorem dword_any (rb : Nat) (T : List Tok) (st : DS) (s : List UInt8) (w : World) (h : DIs w rb T st) : Calls Try.prog 60 #[.pointer (some ⟨rb, 0, none⟩), sv s] w (Qb (wrdD st s) w) := by
 cases st with
 | er x k =>
  obtain ⟨vt, i, d, h, hk⟩ := h
  obtain ⟨c0, c1, c2, c3, c4⟩ := h.cells
  have lb := h.lb
  have q : (k == 0) = false := beq_eq_false_iff_ne.2 hk
  unfold sv Qb wrdD
  clear h
  go_enter Try.func60, Try.ntmps60
  go_wp2_with fail
  go_quiet (fail)
  go_wp2_with fail
  go_ret
  exact ⟨rfl, only_drewN (only_refl w none) nq⟩
 | ok ts d =>
  obtain ⟨vt, a, f, h, hd, _⟩ := h
  obtain ⟨c0, c1, c2, c3, c4⟩ := h.cells
  obtain ⟨g, off, cap, t, r, rfl, hc, hg, hd2, t0, t1, t2⟩ := h.tok_
  have lb := h.lb
  have hlt := h.lt
  have hib : (0 : Int) ≤ (a : Int) ∧ (a : Int) < ((T.length : Nat) : Int) := by omega
  have hs : wrdD (.ok ts d) s = (t.k == 1 && t.t == s) := by rw [← hd, hd2]; rfl
  have HS := hide hs
  obtain ⟨L, hL⟩ : ∃ L, T.length = L := ⟨_, rfl⟩
  rw [hL] at c0 hib hc
  clear h hlt hd hd2 hs hL
  obtain ⟨tk, tt, ta⟩ := t
  simp only [] at t0 t1 t2
  unfold sv Qb
  by_cases hk : tk = 1
  ·subst hk
   go_enter Try.func60, Try.ntmps60
   go_wp2_with fail
   go_quiet (fail)
   go_wp2_with fail
   go_ret
   exact ⟨retb (a := tt == s) (by rw [HS.out]; simp), only_drewN (only_refl w none) nq⟩
  ·have q : ((tk : Int) == 1) = false := by rw [beq_eq_false_iff_ne]; omega
   have HQ := hide (show (tk == 1) = false by rw [beq_eq_false_iff_ne]; exact hk)
   go_enter Try.func60, Try.ntmps60
   go_wp2_with fail
   go_quiet (fail)
   go_wp2_with fail
   go_ret
   exact ⟨retb (a := false) (by rw [HS.out]; simp only [HQ.out, Bool.false_and]), only_drewN (only_refl w none) nq⟩
def vUnitE : Ending := .returned (.tuple #[])
def failD (x k : Int) : DS → DS
 | .ok _ _ => .er x k
 | .er a e => .er a e
/-- A call that answers nothing, and changes the reader alone. -/
def Qu (rb : Nat) (T : List Tok) (st : DS) (w : World) (e : Ending) (w' : World) : Prop := e = .returned (.tuple #[]) ∧ DIs w' rb T st ∧ w.grownBy w' (some rb)
set_option maxHeartbeats 4000000 in
theorem dfail_any (rb : Nat) (T : List Tok) (st : DS) (x k : Int) (hk0 : k ≠ 0) (w : World) (h : DIs w rb T st) : Calls Try.prog 33 #[.pointer (some ⟨rb, 0, none⟩), .int .i64 x, .int .i64 k] w (Qu rb T (failD x k st) w) := by
 cases st with
 | er a e =>
  have HH := hide h
  obtain ⟨vt, i, d, h, hk⟩ := h
  obtain ⟨c0, c1, c2, c3, c4⟩ := h.cells
  have lb := h.lb
  have q : (e == 0) = false := beq_eq_false_iff_ne.2 hk
  unfold Qu failD
  clear h
  go_enter Try.func33, Try.ntmps33
  go_wp2_with fail
  refine bodyPost_end (results_none rfl _ _ _) rfl ⟨rfl, HH.out, only_refl w _⟩
 | ok ts d =>
  obtain ⟨vt, a, f, h, hd, _⟩ := h
  obtain ⟨c0, c1, c2, c3, c4⟩ := h.cells
  have lb := h.lb
  have z3 := Blk.frozen h.blk 3
  have z4 := Blk.frozen h.blk 4
  have HF := hide ((h.set 3 (.inr (.inl rfl)) k).set 4 (.inr (.inr rfl)) x)
  have HK := hide hk0
  unfold Qu failD
  clear h hd hk0
  go_enter Try.func33, Try.ntmps33
  go_wp2_with fail
  refine bodyPost_end (results_none rfl _ _ _) rfl ⟨rfl, ⟨vt, a, _, HF.out, HK.out⟩, ?_⟩
  exact only_setCell (only_setCell (only_refl w (some rb)) (p := ⟨rb, 3, none⟩) (.inl rfl) _) (p := ⟨rb, 4, none⟩) (.inl rfl) _
end Go.Proofs.Ytgpfjcogaheopaa

end
section
/- The document's small functions on texts. -/
namespace Go.Proofs.Ytgpfjcogaheopaa
open Go.RowKit Lx
set_option maxRecDepth 100000
set_option maxHeartbeats 4000000 in
theorem dreserved_any (s : List UInt8) (w : World) : Calls Try.prog 15 #[sv s] w (Qb (resB s) w) := by
 unfold sv Qb
 by_cases h0 : s = [33]
 ·subst h0
  go_enter Try.func15, Try.ntmps15
  go_wp2_with fail
  go_ret
  exact ⟨retb (a := true) (by decide), only_refl w none⟩
 have b0 : (s == [33]) = false := beq_eq_false_iff_ne.2 h0
 by_cases h1 : s = [123]
 ·subst h1
  go_enter Try.func15, Try.ntmps15
  go_wp2_with fail
  go_ret
  exact ⟨retb (a := true) (by decide), only_refl w none⟩
 have b1 : (s == [123]) = false := beq_eq_false_iff_ne.2 h1
 by_cases h2 : s = [125]
 ·subst h2
  go_enter Try.func15, Try.ntmps15
  go_wp2_with fail
  go_ret
  exact ⟨retb (a := true) (by decide), only_refl w none⟩
 have b2 : (s == [125]) = false := beq_eq_false_iff_ne.2 h2
 by_cases h3 : s = [99, 97, 115, 101]
 ·subst h3
  go_enter Try.func15, Try.ntmps15
  go_wp2_with fail
  go_ret
  exact ⟨retb (a := true) (by decide), only_refl w none⟩
 have b3 : (s == [99, 97, 115, 101]) = false := beq_eq_false_iff_ne.2 h3
 by_cases h4 : s = [100, 111]
 ·subst h4
  go_enter Try.func15, Try.ntmps15
  go_wp2_with fail
  go_ret
  exact ⟨retb (a := true) (by decide), only_refl w none⟩
 have b4 : (s == [100, 111]) = false := beq_eq_false_iff_ne.2 h4
 by_cases h5 : s = [100, 111, 110, 101]
 ·subst h5
  go_enter Try.func15, Try.ntmps15
  go_wp2_with fail
  go_ret
  exact ⟨retb (a := true) (by decide), only_refl w none⟩
 have b5 : (s == [100, 111, 110, 101]) = false := beq_eq_false_iff_ne.2 h5
 by_cases h6 : s = [101, 108, 105, 102]
 ·subst h6
  go_enter Try.func15, Try.ntmps15
  go_wp2_with fail
  go_ret
  exact ⟨retb (a := true) (by decide), only_refl w none⟩
 have b6 : (s == [101, 108, 105, 102]) = false := beq_eq_false_iff_ne.2 h6
 by_cases h7 : s = [101, 108, 115, 101]
 ·subst h7
  go_enter Try.func15, Try.ntmps15
  go_wp2_with fail
  go_ret
  exact ⟨retb (a := true) (by decide), only_refl w none⟩
 have b7 : (s == [101, 108, 115, 101]) = false := beq_eq_false_iff_ne.2 h7
 by_cases h8 : s = [101, 115, 97, 99]
 ·subst h8
  go_enter Try.func15, Try.ntmps15
  go_wp2_with fail
  go_ret
  exact ⟨retb (a := true) (by decide), only_refl w none⟩
 have b8 : (s == [101, 115, 97, 99]) = false := beq_eq_false_iff_ne.2 h8
 by_cases h9 : s = [102, 105]
 ·subst h9
  go_enter Try.func15, Try.ntmps15
  go_wp2_with fail
  go_ret
  exact ⟨retb (a := true) (by decide), only_refl w none⟩
 have b9 : (s == [102, 105]) = false := beq_eq_false_iff_ne.2 h9
 by_cases h10 : s = [102, 111, 114]
 ·subst h10
  go_enter Try.func15, Try.ntmps15
  go_wp2_with fail
  go_ret
  exact ⟨retb (a := true) (by decide), only_refl w none⟩
 have b10 : (s == [102, 111, 114]) = false := beq_eq_false_iff_ne.2 h10
 by_cases h11 : s = [105, 102]
 ·subst h11
  go_enter Try.func15, Try.ntmps15
  go_wp2_with fail
  go_ret
  exact ⟨retb (a := true) (by decide), only_refl w none⟩
 have b11 : (s == [105, 102]) = false := beq_eq_false_iff_ne.2 h11
 by_cases h12 : s = [105, 110]
 ·subst h12
  go_enter Try.func15, Try.ntmps15
  go_wp2_with fail
  go_ret
  exact ⟨retb (a := true) (by decide), only_refl w none⟩
 have b12 : (s == [105, 110]) = false := beq_eq_false_iff_ne.2 h12
 by_cases h13 : s = [116, 104, 101, 110]
 ·subst h13
  go_enter Try.func15, Try.ntmps15
  go_wp2_with fail
  go_ret
  exact ⟨retb (a := true) (by decide), only_refl w none⟩
 have b13 : (s == [116, 104, 101, 110]) = false := beq_eq_false_iff_ne.2 h13
 by_cases h14 : s = [117, 110, 116, 105, 108]
 ·subst h14
  go_enter Try.func15, Try.ntmps15
  go_wp2_with fail
  go_ret
  exact ⟨retb (a := true) (by decide), only_refl w none⟩
 have b14 : (s == [117, 110, 116, 105, 108]) = false := beq_eq_false_iff_ne.2 h14
 by_cases h15 : s = [119, 104, 105, 108, 101]
 ·subst h15
  go_enter Try.func15, Try.ntmps15
  go_wp2_with fail
  go_ret
  exact ⟨retb (a := true) (by decide), only_refl w none⟩
 have b15 : (s == [119, 104, 105, 108, 101]) = false := beq_eq_false_iff_ne.2 h15
 have hno : resB s = false := by
  unfold resB resW
  simp only [List.contains_cons, List.contains_nil, Bool.or_false]
  simp only [wBang, wOpen, wClose, wCase, wDo, wDone, wElif, wElse, wEsac, wFi, wFor, wIf, wIn, wThen, wUntil, wWhile, b0, b1, b2, b3, b4, b5, b6, b7, b8, b9, b10, b11, b12, b13, b14, b15, Bool.or_false]
 have HN := hide hno
 clear hno
 go_enter Try.func15, Try.ntmps15
 go_wp2_with fail
 go_ret
 exact ⟨retb (a := false) (by rw [HN.out]), only_refl w none⟩
def rdsB (s : List UInt8) : Bool := rdrW.contains s
set_option maxHeartbeats 4000000 in
theorem dredirSign_any (s : List UInt8) (w : World) : Calls Try.prog 49 #[sv s] w (Qb (rdsB s) w) := by
 unfold sv Qb
 by_cases h0 : s = [60]
 ·subst h0
  go_enter Try.func49, Try.ntmps49
  go_wp2_with fail
  go_ret
  exact ⟨retb (a := true) (by decide), only_refl w none⟩
 have b0 : (s == [60]) = false := beq_eq_false_iff_ne.2 h0
 by_cases h1 : s = [62]
 ·subst h1
  go_enter Try.func49, Try.ntmps49
  go_wp2_with fail
  go_ret
  exact ⟨retb (a := true) (by decide), only_refl w none⟩
 have b1 : (s == [62]) = false := beq_eq_false_iff_ne.2 h1
 by_cases h2 : s = [62, 62]
 ·subst h2
  go_enter Try.func49, Try.ntmps49
  go_wp2_with fail
  go_ret
  exact ⟨retb (a := true) (by decide), only_refl w none⟩
 have b2 : (s == [62, 62]) = false := beq_eq_false_iff_ne.2 h2
 by_cases h3 : s = [60, 38]
 ·subst h3
  go_enter Try.func49, Try.ntmps49
  go_wp2_with fail
  go_ret
  exact ⟨retb (a := true) (by decide), only_refl w none⟩
 have b3 : (s == [60, 38]) = false := beq_eq_false_iff_ne.2 h3
 by_cases h4 : s = [62, 38]
 ·subst h4
  go_enter Try.func49, Try.ntmps49
  go_wp2_with fail
  go_ret
  exact ⟨retb (a := true) (by decide), only_refl w none⟩
 have b4 : (s == [62, 38]) = false := beq_eq_false_iff_ne.2 h4
 by_cases h5 : s = [60, 62]
 ·subst h5
  go_enter Try.func49, Try.ntmps49
  go_wp2_with fail
  go_ret
  exact ⟨retb (a := true) (by decide), only_refl w none⟩
 have b5 : (s == [60, 62]) = false := beq_eq_false_iff_ne.2 h5
 by_cases h6 : s = [62, 124]
 ·subst h6
  go_enter Try.func49, Try.ntmps49
  go_wp2_with fail
  go_ret
  exact ⟨retb (a := true) (by decide), only_refl w none⟩
 have b6 : (s == [62, 124]) = false := beq_eq_false_iff_ne.2 h6
 have hno : rdsB s = false := by
  unfold rdsB rdrW
  simp only [List.contains_cons, List.contains_nil, Bool.or_false]
  simp only [b0, b1, b2, b3, b4, b5, b6, Bool.or_false]
 have HN := hide hno
 clear hno
 go_enter Try.func49, Try.ntmps49
 go_wp2_with fail
 go_ret
 exact ⟨retb (a := false) (by rw [HN.out]), only_refl w none⟩
theorem nmy {f : Bool} {c : UInt8} {r : List UInt8} (h : (letB c || (!f && digB c)) = true) : nmGo f (c :: r) = nmGo false r + 1 := by
 show (if _ then _ else _) = _
 rw [if_pos h]
theorem nmn {f : Bool} {c : UInt8} {r : List UInt8} (h : ¬ (letB c || (!f && digB c)) = true) : nmGo f (c :: r) = 0 := by
 show (if _ then _ else _) = _
 rw [if_neg h]
set_option maxHeartbeats 8000000 in
theorem dname_any (s : List UInt8) (w : World) (hs : s.length ≤ 9223372036854775807) : Calls Try.prog 68 #[sv s] w fun e w' => e = .returned (.int .i64 (nameF s)) ∧ w' = w := by
 have h1 := sz s
 unfold sv nameF
 go_enter Try.func68, Try.ntmps68
 go_wp2_with fail
 go_loopg [3, 4] s.length (fun g v3 v4 wr => ∃ k : Nat, v3 = .int .i64 k ∧ k ≤ s.length ∧ s.length - k ≤ g ∧ nmGo true s = k + nmGo (decide (k = 0)) (s.drop k) ∧ wr = w)
 case atStart => exact ⟨0, rfl, Nat.zero_le _, Nat.le_refl _, by simp, rfl⟩
 case round =>
  obtain ⟨k, rfl, hk, hg, hinv, rfl⟩ := hrel
  have HG := hide hg
  clear hg
  by_cases hlt : k < s.length
  ·have q0 : decide ((k : Int) < (s.length : Int)) = true := decide_eq_true (by omega)
   have hat := str_at' s k hlt
   have hib : (0 : Int) ≤ k ∧ (k : Int) < (s.length : Int) := by omega
   have hdr := drop_at hlt
   obtain ⟨c, hc⟩ : ∃ c, s[k] = c := ⟨_, rfl⟩
   rw [hc] at hat hdr
   rw [hdr] at hinv
   have yes := hide (fun h : (letB c || (!decide (k = 0) && digB c)) = true => (show nmGo true s = (k + 1) + nmGo (decide (k + 1 = 0)) (s.drop (k + 1)) by
    rw [hinv, nmy h, show decide (k + 1 = 0) = false from rfl]; omega))
   have no := hide (fun h : ¬ (letB c || (!decide (k = 0) && digB c)) = true => (show nmGo true s = k by
    rw [nmn h] at hinv
    omega))
   clear hc hdr hinv
   by_cases z0 : 97 ≤ c.toNat ∧ c.toNat ≤ 122
   ·have f1 : decide ((97 : Int) ≤ (c.toNat : Int)) = true := decide_eq_true (by omega)
    have f2 : decide ((c.toNat : Int) ≤ 122) = true := decide_eq_true (by omega)
    have Hy := hide (yes.out (by rw [show letB c = true by unfold letB; simp only [Bool.or_eq_true, decide_eq_true_eq]; omega]; rfl))
    go_wp2_with fail
    go_roundg (gk - 1)
    case rel => exact ⟨k + 1, by go_num, by omega, by have := HG.out; omega, Hy.out, rfl⟩
    case measure => have := HG.out; omega
   ·skip
    by_cases z1 : 65 ≤ c.toNat ∧ c.toNat ≤ 90
    ·have f1 : decide ((97 : Int) ≤ (c.toNat : Int)) = false := decide_eq_false (by omega)
     have f3 : decide ((65 : Int) ≤ (c.toNat : Int)) = true := decide_eq_true (by omega)
     have f4 : decide ((c.toNat : Int) ≤ 90) = true := decide_eq_true (by omega)
     have Hy := hide (yes.out (by rw [show letB c = true by unfold letB; simp only [Bool.or_eq_true, decide_eq_true_eq]; omega]; rfl))
     go_wp2_with fail
     go_roundg (gk - 1)
     case rel => exact ⟨k + 1, by go_num, by omega, by have := HG.out; omega, Hy.out, rfl⟩
     case measure => have := HG.out; omega
    ·skip
     by_cases z2 : c.toNat = 95
     ·have f1 : decide ((97 : Int) ≤ (c.toNat : Int)) = false := decide_eq_false (by omega)
      have f3 : decide ((65 : Int) ≤ (c.toNat : Int)) = true := decide_eq_true (by omega)
      have f4 : decide ((c.toNat : Int) ≤ 90) = false := decide_eq_false (by omega)
      have e95 : ((c.toNat : Int) == 95) = true := by rw [beq_iff_eq]; omega
      have Hy := hide (yes.out (by rw [show letB c = true by unfold letB; simp only [Bool.or_eq_true, decide_eq_true_eq]; omega]; rfl))
      go_wp2_with fail
      go_roundg (gk - 1)
      case rel => exact ⟨k + 1, by go_num, by omega, by have := HG.out; omega, Hy.out, rfl⟩
      case measure => have := HG.out; omega
     ·skip
      by_cases z3 : 122 < c.toNat
      ·have f1 : decide ((97 : Int) ≤ (c.toNat : Int)) = true := decide_eq_true (by omega)
       have f2 : decide ((c.toNat : Int) ≤ 122) = false := decide_eq_false (by omega)
       have f3 : decide ((65 : Int) ≤ (c.toNat : Int)) = true := decide_eq_true (by omega)
       have f4 : decide ((c.toNat : Int) ≤ 90) = false := decide_eq_false (by omega)
       have e95 : ((c.toNat : Int) == 95) = false := by rw [beq_eq_false_iff_ne]; omega
       have hl0 : letB c = false := by unfold letB; simp only [Bool.or_eq_false_iff, decide_eq_false_iff_not]; omega
       by_cases ak : k = 0
       ·subst ak
        have bk : (((0 : Nat) : Int) == 0) = true := rfl
        have Hno := hide (no.out (by rw [hl0]; simp))
        clear hl0
        go_wp2_with fail
        go_ret
        exact ⟨reti (by have := Hno.out; omega), rfl⟩
       ·have bk : ((k : Int) == 0) = false := by rw [beq_eq_false_iff_ne]; omega
        have bk2 : decide (k = 0) = false := decide_eq_false ak
        have c48 : decide ((c.toNat : Int) < 48) = false := decide_eq_false (by omega)
        have c57 : decide ((57 : Int) < (c.toNat : Int)) = true := decide_eq_true (by omega)
        have Hno := hide (no.out (by rw [hl0, bk2, show digB c = false from decide_eq_false (by omega)]; simp))
        clear hl0 bk2
        go_wp2_with fail
        go_ret
        exact ⟨reti (by have := Hno.out; omega), rfl⟩
      ·skip
       by_cases z4 : 90 < c.toNat
       ·have f1 : decide ((97 : Int) ≤ (c.toNat : Int)) = false := decide_eq_false (by omega)
        have f3 : decide ((65 : Int) ≤ (c.toNat : Int)) = true := decide_eq_true (by omega)
        have f4 : decide ((c.toNat : Int) ≤ 90) = false := decide_eq_false (by omega)
        have e95 : ((c.toNat : Int) == 95) = false := by rw [beq_eq_false_iff_ne]; omega
        have hl0 : letB c = false := by unfold letB; simp only [Bool.or_eq_false_iff, decide_eq_false_iff_not]; omega
        by_cases ak : k = 0
        ·subst ak
         have bk : (((0 : Nat) : Int) == 0) = true := rfl
         have Hno := hide (no.out (by rw [hl0]; simp))
         clear hl0
         go_wp2_with fail
         go_ret
         exact ⟨reti (by have := Hno.out; omega), rfl⟩
        ·have bk : ((k : Int) == 0) = false := by rw [beq_eq_false_iff_ne]; omega
         have bk2 : decide (k = 0) = false := decide_eq_false ak
         have c48 : decide ((c.toNat : Int) < 48) = false := decide_eq_false (by omega)
         have c57 : decide ((57 : Int) < (c.toNat : Int)) = true := decide_eq_true (by omega)
         have Hno := hide (no.out (by rw [hl0, bk2, show digB c = false from decide_eq_false (by omega)]; simp))
         clear hl0 bk2
         go_wp2_with fail
         go_ret
         exact ⟨reti (by have := Hno.out; omega), rfl⟩
       ·skip
        have f1 : decide ((97 : Int) ≤ (c.toNat : Int)) = false := decide_eq_false (by omega)
        have f3 : decide ((65 : Int) ≤ (c.toNat : Int)) = false := decide_eq_false (by omega)
        have e95 : ((c.toNat : Int) == 95) = false := by rw [beq_eq_false_iff_ne]; omega
        have hl0 : letB c = false := by unfold letB; simp only [Bool.or_eq_false_iff, decide_eq_false_iff_not]; omega
        by_cases ak : k = 0
        ·subst ak
         have bk : (((0 : Nat) : Int) == 0) = true := rfl
         have Hno := hide (no.out (by rw [hl0]; simp))
         clear hl0
         go_wp2_with fail
         go_ret
         exact ⟨reti (by have := Hno.out; omega), rfl⟩
        ·have bk : ((k : Int) == 0) = false := by rw [beq_eq_false_iff_ne]; omega
         have bk2 : decide (k = 0) = false := decide_eq_false ak
         by_cases d48 : c.toNat < 48
         ·have c48 : decide ((c.toNat : Int) < 48) = true := decide_eq_true (by omega)
          have Hno := hide (no.out (by rw [hl0, bk2, show digB c = false from decide_eq_false (by omega)]; simp))
          clear hl0 bk2
          go_wp2_with fail
          go_ret
          exact ⟨reti (by have := Hno.out; omega), rfl⟩
         ·by_cases d57 : 57 < c.toNat
          ·have c48 : decide ((c.toNat : Int) < 48) = false := decide_eq_false (by omega)
           have c57 : decide ((57 : Int) < (c.toNat : Int)) = true := decide_eq_true (by omega)
           have Hno := hide (no.out (by rw [hl0, bk2, show digB c = false from decide_eq_false (by omega)]; simp))
           clear hl0 bk2
           go_wp2_with fail
           go_ret
           exact ⟨reti (by have := Hno.out; omega), rfl⟩
          ·have c48 : decide ((c.toNat : Int) < 48) = false := decide_eq_false (by omega)
           have c57 : decide ((57 : Int) < (c.toNat : Int)) = false := decide_eq_false (by omega)
           have Hy := hide (yes.out (by rw [hl0, bk2, show digB c = true from decide_eq_true (by omega)]; rfl))
           clear hl0 bk2
           go_wp2_with fail
           go_roundg (gk - 1)
           case rel => exact ⟨k + 1, by go_num, by omega, by have := HG.out; omega, Hy.out, rfl⟩
           case measure => have := HG.out; omega
  ·obtain rfl : k = s.length := by omega
   have q0 : decide ((s.length : Int) < (s.length : Int)) = false := decide_eq_false (by omega)
   have hn : nmGo true s = s.length := by rw [hinv, List.drop_eq_nil_of_le (Nat.le_refl _)]; show s.length + 0 = _; omega
   clear hinv
   have Hno := hide hn
   clear hn
   go_wp2_with fail
   go_ret
   exact ⟨reti (by have := Hno.out; omega), rfl⟩
set_option maxHeartbeats 4000000 in
theorem dset_any (s : List UInt8) (w : World) (hs : s.length ≤ 9223372036854775807) : Calls Try.prog 88 #[sv s] w (Qb (setB s) w) := by
 have h1 := sz s
 have HN := hide (fun W => dname_any s W hs)
 have HB := hide (show setB s = (decide (0 < nameF s) && decide (nameF s < s.length) && (s.getD (nameF s) 0 == 61)) from rfl)
 obtain ⟨k, hk⟩ : ∃ k, nameF s = k := ⟨_, rfl⟩
 rw [hk] at HN HB
 unfold sv at HN ⊢
 unfold Qb
 clear hk
 by_cases h0 : 0 < k
 ·have q0 : decide ((0 : Int) < (k : Int)) = true := decide_eq_true (by omega)
  by_cases h2 : k < s.length
  ·have q1 : decide ((k : Int) < (s.length : Int)) = true := decide_eq_true (by omega)
   have hat := str_at' s k h2
   have hib : (0 : Int) ≤ k ∧ (k : Int) < (s.length : Int) := by omega
   have hg : s.getD k 0 = s[k] := by rw [List.getD_eq_getElem?_getD, List.getElem?_eq_getElem h2]; rfl
   rw [hg, decide_eq_true h0, decide_eq_true h2] at HB
   obtain ⟨c, hc⟩ : ∃ c, s[k] = c := ⟨_, rfl⟩
   rw [hc] at hat HB
   clear hc hg
   by_cases h61 : c = 61
   ·have q2 : ((c.toNat : Int) == 61) = true := by rw [h61]; rfl
    have HB2 := hide (show setB s = true by rw [HB.out, h61]; rfl)
    clear h61
    go_enter Try.func88, Try.ntmps88
    go_wp2_with fail
    refine (HN.out _).mono ?_
    rintro e w1 ⟨rfl, rfl⟩
    go_wp2_with fail
    go_ret
    exact ⟨retb (a := true) HB2.out.symm, only_refl _ none⟩
   ·have q2 : ((c.toNat : Int) == 61) = false := by
     rw [beq_eq_false_iff_ne]
     intro e
     exact h61 (UInt8.toNat_inj.1 (show c.toNat = (61 : UInt8).toNat by rw [show (61 : UInt8).toNat = 61 from rfl]; omega))
    have HB2 := hide (show setB s = false by rw [HB.out, beq_eq_false_iff_ne.2 h61]; rfl)
    clear h61
    go_enter Try.func88, Try.ntmps88
    go_wp2_with fail
    refine (HN.out _).mono ?_
    rintro e w1 ⟨rfl, rfl⟩
    go_wp2_with fail
    go_ret
    exact ⟨retb (a := false) HB2.out.symm, only_refl _ none⟩
  ·have q1 : decide ((k : Int) < (s.length : Int)) = false := decide_eq_false (by omega)
   have HB2 := hide (show setB s = false by rw [HB.out, decide_eq_false h2]; simp)
   go_enter Try.func88, Try.ntmps88
   go_wp2_with fail
   refine (HN.out _).mono ?_
   rintro e w1 ⟨rfl, rfl⟩
   go_wp2_with fail
   go_ret
   exact ⟨retb (a := false) HB2.out.symm, only_refl _ none⟩
 ·obtain rfl : k = 0 := by omega
  have q0 : decide ((0 : Int) < ((0 : Nat) : Int)) = false := rfl
  have HB2 := hide (show setB s = false by rw [HB.out]; rfl)
  go_enter Try.func88, Try.ntmps88
  go_wp2_with fail
  refine (HN.out _).mono ?_
  rintro e w1 ⟨rfl, rfl⟩
  go_wp2_with fail
  go_ret
  exact ⟨retb (a := false) HB2.out.symm, only_refl _ none⟩
end Go.Proofs.Ytgpfjcogaheopaa

end
section
/- The document's reader: wrong, need, breaks, begins, open. -/
namespace Go.Proofs.Ytgpfjcogaheopaa
open Go.RowKit Lx
set_option maxRecDepth 100000
def wrongD : DS → DS
 | .ok (t :: _r) _d => .er t.a (if t.k = 4 then 23 else 17)
 | .ok [] d => .ok [] d
 | .er a e => .er a e
theorem DIs.wr {w : World} {rb : Nat} {T : List Tok} {st : DS} (h : DIs w rb T st) : ∃ vt a d e f, DAt w rb T vt a d e f ∧ ∀ t r, T.drop a = t :: r → wrongD st = failD t.a (if t.k = 4 then 23 else 17) st := by
 cases st with
 | ok ts d =>
  obtain ⟨vt, a, f, h, hd, _⟩ := h
  exact ⟨vt, a, d, 0, f, h, fun t r e => by rw [← hd, e]; rfl⟩
 | er x k =>
  obtain ⟨vt, i, d, h, _⟩ := h
  exact ⟨vt, i, d, _, _, h, fun t r _ => rfl⟩
set_option maxHeartbeats 4000000 in
theorem dwrong_any (rb : Nat) (T : List Tok) (st : DS) (w : World) (h : DIs w rb T st) : Calls Try.prog 19 #[.pointer (some ⟨rb, 0, none⟩)] w (Qu rb T (wrongD st) w) := by
 have HF := hide (fun x k W (hk : k ≠ 0) (hW : w.grownBy W none) => dfail_any rb T st x k hk W (h.grown hW))
 obtain ⟨vt, a, d, e, f, h, hwr⟩ := h.wr
 obtain ⟨c0, c1, c2, c3, c4⟩ := h.cells
 obtain ⟨g, off, cap, t, r, rfl, hc, hg, hd2, t0, t1, t2⟩ := h.tok_
 have lb := h.lb
 have hlt := h.lt
 have hib : (0 : Int) ≤ (a : Int) ∧ (a : Int) < ((T.length : Nat) : Int) := by omega
 have hTl := h.tg.len
 obtain ⟨L, hL⟩ : ∃ L, T.length = L := ⟨_, rfl⟩
 rw [hL] at c0 hib hc hTl
 have HW := hide (hwr t r hd2)
 clear h hlt hd2 hL hwr hTl
 obtain ⟨tk, tt, ta⟩ := t
 simp only [] at t0 t1 t2 HW
 obtain ⟨R, hR⟩ : ∃ R, wrongD st = R := ⟨_, rfl⟩
 rw [hR] at HW ⊢
 clear hR
 unfold Qu at HF ⊢
 go_enter Try.func19, Try.ntmps19
 go_upto_region 0 with (fail)
 have Hk : Hid (∀ W : World, w.grownBy W none → (W.cell? ⟨rb, 0, none⟩ = some (.slice (some ⟨g, off, none⟩) L cap) ∧ W.cell? ⟨rb, 1, none⟩ = some (.int .i64 a) ∧ W.cell? ⟨g, off + a * 3, none⟩ = some (.int .i64 tk) ∧ W.cell? ⟨g, off + a * 3 + 1, none⟩ = some (.string ⟨tt.toArray⟩) ∧ W.cell? ⟨g, off + a * 3 + 2, none⟩ = some (.int .i64 ta))) :=
  hide (fun W hw => ⟨old_cell hw lb c0, old_cell hw lb c1, old_cell hw hg t0, old_cell hw hg t1, old_cell hw hg t2⟩)
 go_region_held3 (fun W => W.cell? ⟨rb, 0, none⟩ = some (.slice (some ⟨g, off, none⟩) L cap) ∧ W.cell? ⟨rb, 1, none⟩ = some (.int .i64 a) ∧ W.cell? ⟨g, off + a * 3, none⟩ = some (.int .i64 tk) ∧ W.cell? ⟨g, off + a * 3 + 1, none⟩ = some (.string ⟨tt.toArray⟩) ∧ W.cell? ⟨g, off + a * 3 + 2, none⟩ = some (.int .i64 ta))
  (first | go_keep | exact Hk.out _ (by repeat' (first | (with_reducible exact only_refl _ _) | (with_reducible refine none_setCell ?_ ?_ _) | (with_reducible refine none_trans ?_ hg) | (with_reducible refine only_drew ?_) | (with_reducible refine only_alloc ?_ _) | omega | (simp; done))))
  (fail)
 have hg2 := only_drew (only_alloc (only_refl w none) (.cells #[.int .i64 tk, .string ⟨tt.toArray⟩, .int .i64 ta] 41))
 by_cases hk : tk = 4
 ·subst hk
  go_wp2_with fail
  refine (HF.out _ _ _ (by decide) hg2).mono ?_
  rintro e w1 ⟨rfl, h1, h2⟩
  go_wp2_with fail
  refine bodyPost_end (results_none rfl _ _ _) rfl ⟨rfl, by rw [HW.out]; simpa using h1, only_trans (only_of_none hg2 _) h2⟩
 ·have q : ((tk : Int) == 4) = false := by rw [beq_eq_false_iff_ne]; omega
  go_wp2_with fail
  refine (HF.out _ _ _ (by decide) hg2).mono ?_
  rintro e w1 ⟨rfl, h1, h2⟩
  go_wp2_with fail
  refine bodyPost_end (results_none rfl _ _ _) rfl ⟨rfl, by rw [HW.out]; simpa [hk] using h1, only_trans (only_of_none hg2 _) h2⟩
def needD (s : List UInt8) : DS → DS
 | .ok ts d => if isB ts s = true then .ok ts.tail d else wrongD (.ok ts d)
 | .er a e => .er a e
theorem gr_rb {a b : World} {rb : Nat} (h : a.grownBy b none) : a.grownBy b (some rb) := only_of_none h _
theorem DIs.next {w : World} {rb : Nat} {T : List Tok} {ts : List Tok} {d : Nat} {vt : Value} {a : Nat} {f : Int} (h : DAt w rb T vt a d 0 f) (hd : T.drop a = ts) (hdd : d ≤ 26) {t : Tok} {r : List Tok} (ht : ts = t :: r) (hk : t.k ≠ 4) : DIs (w.setCell ⟨rb, 1, none⟩ (.int .i64 ((a : Int) + 1))) rb T (.ok r d) := by
 obtain ⟨h1, h2⟩ := h.step (hd.trans ht) hk
 exact ⟨vt, a + 1, f, h1, h2, hdd⟩
set_option maxHeartbeats 4000000 in
theorem dneed_any (rb : Nat) (T : List Tok) (st : DS) (s : List UInt8) (w : World) (h : DIs w rb T st) : Calls Try.prog 70 #[.pointer (some ⟨rb, 0, none⟩), sv s] w (Qu rb T (needD s st) w) := by
 have Hs := hide (fun W (hW : DIs W rb T st) => dsign_any rb T st s W hW)
 have Hw := hide (fun W (hW : DIs W rb T st) => dword_any rb T st s W hW)
 have Hx := hide (fun W (hW : DIs W rb T st) => dwrong_any rb T st W hW)
 have HH := hide h
 unfold Qb sv at Hs Hw
 unfold Qu at Hx ⊢
 unfold sv
 obtain ⟨x, hx⟩ : ∃ x, sgnD st s = x := ⟨_, rfl⟩
 obtain ⟨y, hy⟩ : ∃ y, wrdD st s = y := ⟨_, rfl⟩
 have HXY := hide (And.intro hx hy)
 rw [hx] at Hs
 rw [hy] at Hw
 clear h hx hy
 by_cases hxy : x = false ∧ y = false
 ·obtain ⟨rfl, rfl⟩ := hxy
  have HN := hide (show needD s st = wrongD st by
   cases st with
   | er a e => rfl
   | ok ts d =>
    have h1 : sgnB ts s = false := HXY.out.1
    have h2 : wrdB ts s = false := HXY.out.2
    show (if isB ts s = true then _ else _) = _
    unfold isB
    rw [h1, h2]
    rfl)
  rw [HN.out]
  go_enter Try.func70, Try.ntmps70
  go_wp2_with fail
  refine (Hs.out _ HH.out).mono ?_
  rintro e w1 ⟨rfl, g1⟩
  have H1 := hide (HH.out.grown g1)
  have G1 := hide g1
  clear g1
  go_wp2_with fail
  refine (Hw.out _ H1.out).mono ?_
  rintro e w2 ⟨rfl, g2⟩
  have H2 := hide (H1.out.grown g2)
  have G2 := hide (none_trans G1.out g2)
  clear g2
  go_wp2_with fail
  refine (Hx.out _ H2.out).mono ?_
  rintro e w3 ⟨rfl, h3, g3⟩
  go_wp2_with fail
  refine bodyPost_ret (results_none rfl _ _ _) rfl ⟨rfl, h3, only_trans (gr_rb G2.out) g3⟩
 ·cases st with
  | er a e => exact absurd ⟨HXY.out.1.symm, HXY.out.2.symm⟩ hxy
  | ok ts d =>
   have hi : isB ts s = true := by
    unfold isB
    rw [show sgnB ts s = x from HXY.out.1, show wrdB ts s = y from HXY.out.2]
    cases x <;> cases y <;> first | rfl | exact absurd ⟨rfl, rfl⟩ hxy
   have HN := hide (show needD s (.ok ts d) = .ok ts.tail d from if_pos hi)
   rw [HN.out]
   have HI := hide hi
   clear hi
   go_enter Try.func70, Try.ntmps70
   go_wp2_with fail
   refine (Hs.out _ HH.out).mono ?_
   rintro e w1 ⟨rfl, g1⟩
   have H1 := hide (HH.out.grown g1)
   have G1 := hide g1
   clear g1
   go_wp2_with fail
   refine (Hw.out _ H1.out).mono ?_
   rintro e w2 ⟨rfl, g2⟩
   obtain ⟨vt, a, f, h, hd, hdd⟩ := H1.out.grown g2
   have G2 := hide (none_trans G1.out g2)
   obtain ⟨t, r, hts⟩ := (DIs.good (w := w2) (rb := rb) (T := T) ⟨vt, a, f, h, hd, hdd⟩).1.ne
   have HF := hide (DIs.next h hd hdd hts (is_k (hts ▸ HI.out)).1)
   have HT := hide (show ts.tail = r by rw [hts]; rfl)
   obtain ⟨c0, c1, c2, c3, c4⟩ := h.cells
   have lb := h.lb
   have z1 := Blk.frozen h.blk 1
   have hal : (a : Int) ≤ 500 := by have := h.lt; have := h.tg.len; omega
   clear g2 h hd hdd hts
   have fin : ∀ (K : Prop), (x = true → K) → (x = false → y = true → K) → K := fun K k1 k2 => by
    cases x with
    | true => exact k1 rfl
    | false =>
     cases y with
     | true => exact k2 rfl rfl
     | false => exact absurd ⟨rfl, rfl⟩ hxy
   clear hxy
   refine fin _ (fun e1 => ?_) (fun e1 e2 => ?_)
   ·subst e1
    go_wp2_with fail
    refine bodyPost_end (results_none rfl _ _ _) rfl ⟨rfl, by rw [HT.out]; exact HF.out, only_setCell (gr_rb G2.out) (p := ⟨rb, 1, none⟩) (.inl rfl) _⟩
   ·subst e1 e2
    go_wp2_with fail
    refine bodyPost_end (results_none rfl _ _ _) rfl ⟨rfl, by rw [HT.out]; exact HF.out, only_setCell (gr_rb G2.out) (p := ⟨rb, 1, none⟩) (.inl rfl) _⟩
def breaksD : DS → DS
 | .ok ts d => .ok (breaksF ts) d
 | .er a e => .er a e
set_option maxHeartbeats 4000000 in
theorem dbreaks_any (rb : Nat) (T : List Tok) (st : DS) (w : World) (h : DIs w rb T st) : Calls Try.prog 17 #[.pointer (some ⟨rb, 0, none⟩)] w (Qu rb T (breaksD st) w) := by
 have Hs := hide (fun W st (hW : DIs W rb T st) => dsign_any rb T st sLf W hW)
 have HH := hide h
 unfold Qb sv sLf at Hs
 unfold Qu
 cases st with
 | er x k =>
  have Hs1 := hide (fun W hW => Hs.out W (.er x k) hW)
  unfold sgnD at Hs1
  simp only [] at Hs1
  unfold breaksD
  clear h
  go_enter Try.func17, Try.ntmps17
  go_wp2_with fail
  go_loopg [] 0 (fun g wr => wr = w)
  case atStart => rfl
  case round =>
   subst hrel
   go_wp2_with fail
   refine (Hs1.out _ HH.out).mono ?_
   rintro e w1 ⟨rfl, g1⟩
   go_wp2_with fail
   refine bodyPost_end (results_none rfl _ _ _) rfl ⟨rfl, HH.out.grown g1, gr_rb g1⟩
 | ok ts d =>
  unfold breaksD
  simp only []
  obtain ⟨B, hB⟩ : ∃ B, breaksF ts = B := ⟨_, rfl⟩
  rw [hB]
  have HB := hide hB
  clear h hB
  go_enter Try.func17, Try.ntmps17
  go_wp2_with fail
  go_loopg [] ts.length (fun g wr => ∃ Z, breaksF Z = B ∧ Z.length ≤ g ∧ DIs wr rb T (.ok Z d) ∧ w.grownBy wr (some rb))
  case atStart => exact ⟨ts, HB.out, Nat.le_refl _, HH.out, only_refl w _⟩
  case round =>
   obtain ⟨Z, hZ, hg, hr, hf⟩ := hrel
   obtain ⟨t, r, rfl⟩ := hr.good.1.ne
   have HT := hide hZ
   have HR := hide hr
   have HFr := hide hf
   have HG := hide hg
   clear hZ hr hf hg
   obtain ⟨c, hc⟩ : ∃ c, sgnB (t :: r) [10] = c := ⟨_, rfl⟩
   have Hs1 := hide (fun W hW => by have := Hs.out W (.ok (t :: r) d) hW; unfold sgnD at this; simp only [] at this; rw [hc] at this; exact this)
   cases c with
   | true =>
    have HK := hide (sgn_k hc).1
    have HT2 := hide (show breaksF r = B by
     rw [← HT.out]
     show _ = (if _ then _ else _)
     rw [if_pos (show (t.k == 2 && t.t == sLf) = true from hc)])
    clear hc
    go_wp2_with fail
    refine (Hs1.out _ HR.out).mono ?_
    rintro e w1 ⟨rfl, g1⟩
    obtain ⟨vt, a, f, h, hd, hdd⟩ := HR.out.grown g1
    have G1 := hide (only_trans HFr.out (gr_rb g1))
    have HF := hide (DIs.next h hd hdd rfl (by have := HK.out; omega))
    obtain ⟨c0, c1, c2, c3, c4⟩ := h.cells
    have lb := h.lb
    have z1 := Blk.frozen h.blk 1
    have hal : (a : Int) ≤ 500 := by have := h.lt; have := h.tg.len; omega
    clear g1 h hd hdd
    go_wp2_with fail
    go_roundg (gk - 1)
    case rel => exact ⟨r, HT2.out, by have := HG.out; simp only [List.length_cons] at this; omega, HF.out, only_setCell G1.out (p := ⟨rb, 1, none⟩) (.inl rfl) _⟩
    case measure => have := HG.out; simp only [List.length_cons] at this; omega
   | false =>
    have HT2 := hide (show t :: r = B by
     rw [← HT.out]
     show _ = (if _ then _ else _)
     rw [if_neg (show ¬ (t.k == 2 && t.t == sLf) = true from by rw [show (t.k == 2 && t.t == sLf) = false from hc]; decide)])
    clear hc
    go_wp2_with fail
    refine (Hs1.out _ HR.out).mono ?_
    rintro e w1 ⟨rfl, g1⟩
    have HR1 := hide (HR.out.grown g1)
    have HF1 := hide (only_trans HFr.out (gr_rb g1))
    clear g1
    go_wp2_with fail
    refine bodyPost_end (results_none rfl _ _ _) rfl ⟨rfl, by rw [← HT2.out]; exact HR1.out, HF1.out⟩
def beginsD : DS → Bool
 | .ok ts _ => beginsB ts
 | .er _ _ => false
set_option maxHeartbeats 8000000 in
theorem dbegins_any (rb : Nat) (T : List Tok) (st : DS) (w : World) (h : DIs w rb T st) : Calls Try.prog 32 #[.pointer (some ⟨rb, 0, none⟩)] w (Qb (beginsD st) w) := by
 cases st with
 | er x k =>
  obtain ⟨vt, i, d, h, hk⟩ := h
  obtain ⟨c0, c1, c2, c3, c4⟩ := h.cells
  have lb := h.lb
  have q : (k != 0) = true := bne_iff_ne.2 hk
  unfold Qb beginsD
  clear h
  go_enter Try.func32, Try.ntmps32
  go_wp2_with fail
  go_ret
  exact ⟨rfl, only_refl w none⟩
 | ok ts d =>
  obtain ⟨vt, a, f, h, hd, _⟩ := h
  obtain ⟨c0, c1, c2, c3, c4⟩ := h.cells
  obtain ⟨g, off, cap, t, r, rfl, hc, hg, hd2, t0, t1, t2⟩ := h.tok_
  have lb := h.lb
  have hlt := h.lt
  have hib : (0 : Int) ≤ (a : Int) ∧ (a : Int) < ((T.length : Nat) : Int) := by omega
  have hTl := h.tg.len
  obtain ⟨L, hL⟩ : ∃ L, T.length = L := ⟨_, rfl⟩
  rw [hL] at c0 hib hc hTl
  have HB := hide (show beginsD (.ok ts d) = (cmpB t || rdrB t || t.k == 3 || (t.k == 1 && (t.t == wBang || t.t == wIn || !resB t.t))) by rw [← hd, hd2]; rfl)
  have Hr := hide (fun W => dredirSign_any t.t W)
  have Hs := hide (fun W => dreserved_any t.t W)
  clear h hlt hd hd2 hL hTl
  obtain ⟨tk, tt, ta⟩ := t
  simp only [] at t0 t1 t2 HB Hr Hs
  have HB2 := hide (HB.out.trans (show _ = ((tk == 2 && (tt == [40] || rdsB tt)) || (tk == 3) || (tk == 1 && (cmpW.contains tt || tt == [33] || tt == [105, 110] || !resB tt))) by
   unfold cmpB rdrB wBang wIn sPar rdsB
   simp only []
   generalize (tk == 1) = x1, (tk == 2) = x2, (tk == 3) = x3, (tt == [40]) = x4, rdrW.contains tt = x5, cmpW.contains tt = x6, (tt == [33]) = x7, (tt == [105, 110]) = x8, resB tt = x9
   revert x1 x2 x3 x4 x5 x6 x7 x8 x9
   decide))
  unfold Qb sv at Hr Hs
  obtain ⟨b1, hb1⟩ : ∃ b, rdsB tt = b := ⟨_, rfl⟩
  obtain ⟨b2, hb2⟩ : ∃ b, resB tt = b := ⟨_, rfl⟩
  rw [hb1] at Hr HB2
  rw [hb2] at Hs HB2
  have HR2 := hide hb2
  clear hb1 hb2
  unfold Qb
  go_enter Try.func32, Try.ntmps32
  go_upto_region 3 with (fail)
  have Hk : Hid (∀ W : World, w.grownBy W none → (W.cell? ⟨rb, 0, none⟩ = some (.slice (some ⟨g, off, none⟩) L cap) ∧ W.cell? ⟨rb, 1, none⟩ = some (.int .i64 a) ∧ W.cell? ⟨g, off + a * 3, none⟩ = some (.int .i64 tk) ∧ W.cell? ⟨g, off + a * 3 + 1, none⟩ = some (.string ⟨tt.toArray⟩) ∧ W.cell? ⟨g, off + a * 3 + 2, none⟩ = some (.int .i64 ta))) :=
   hide (fun W hw => ⟨old_cell hw lb c0, old_cell hw lb c1, old_cell hw hg t0, old_cell hw hg t1, old_cell hw hg t2⟩)
  go_region_held3 (fun W => W.cell? ⟨rb, 0, none⟩ = some (.slice (some ⟨g, off, none⟩) L cap) ∧ W.cell? ⟨rb, 1, none⟩ = some (.int .i64 a) ∧ W.cell? ⟨g, off + a * 3, none⟩ = some (.int .i64 tk) ∧ W.cell? ⟨g, off + a * 3 + 1, none⟩ = some (.string ⟨tt.toArray⟩) ∧ W.cell? ⟨g, off + a * 3 + 2, none⟩ = some (.int .i64 ta))
   (first | go_keep | exact Hk.out _ (by repeat' (first | (with_reducible exact only_refl _ _) | (with_reducible refine none_setCell ?_ ?_ _) | (with_reducible refine none_trans ?_ hg) | (with_reducible refine only_drew ?_) | (with_reducible refine only_alloc ?_ _) | omega | (simp; done))))
   (fail)
  have G2 := hide (only_drew (only_alloc (only_refl w none) (.cells #[.int .i64 tk, .string ⟨tt.toArray⟩, .int .i64 ta] 41)))
  by_cases k2 : tk = 2
  ·subst k2
   by_cases e1 : tt = [40]
   ·subst e1
    go_wp2_with fail
    go_ret
    exact ⟨retb (a := true) (by rw [HB2.out]; rfl), G2.out⟩
   ·have q1 : (tt == [40]) = false := beq_eq_false_iff_ne.2 e1
    have HB3 := hide (show beginsD (.ok ts d) = b1 by rw [HB2.out, q1]; simp)
    clear e1
    go_wp2_with fail
    refine (Hr.out _).mono ?_
    rintro e w3 ⟨rfl, g3⟩
    go_wp2_with fail
    go_ret
    exact ⟨retb (a := b1) HB3.out.symm, none_trans G2.out g3⟩
  ·have q2 : ((tk : Int) == 2) = false := by rw [beq_eq_false_iff_ne]; omega
   have Q2 := hide (show (tk == 2) = false by rw [beq_eq_false_iff_ne]; exact k2)
   by_cases k3 : tk = 3
   ·subst k3
    go_wp2_with fail
    go_ret
    exact ⟨retb (a := true) (by rw [HB2.out]; rfl), G2.out⟩
   ·have q3 : ((tk : Int) == 3) = false := by rw [beq_eq_false_iff_ne]; omega
    have Q3 := hide (show (tk == 3) = false by rw [beq_eq_false_iff_ne]; exact k3)
    by_cases k1 : tk = 1
    ·subst k1
     have HB3 := hide (show beginsD (.ok ts d) = (cmpW.contains tt || tt == [33] || tt == [105, 110] || !b2) by rw [HB2.out]; simp)
     by_cases e0 : tt = [33]
     ·subst e0
      go_wp2_with fail
      go_ret
      exact ⟨retb (a := true) (by rw [HB3.out]; rfl), G2.out⟩
     have p0 : (tt == [33]) = false := beq_eq_false_iff_ne.2 e0
     by_cases e1 : tt = [123]
     ·subst e1
      go_wp2_with fail
      go_ret
      exact ⟨retb (a := true) (by rw [HB3.out]; rfl), G2.out⟩
     have p1 : (tt == [123]) = false := beq_eq_false_iff_ne.2 e1
     by_cases e2 : tt = [99, 97, 115, 101]
     ·subst e2
      go_wp2_with fail
      go_ret
      exact ⟨retb (a := true) (by rw [HB3.out]; rfl), G2.out⟩
     have p2 : (tt == [99, 97, 115, 101]) = false := beq_eq_false_iff_ne.2 e2
     by_cases e3 : tt = [102, 111, 114]
     ·subst e3
      go_wp2_with fail
      go_ret
      exact ⟨retb (a := true) (by rw [HB3.out]; rfl), G2.out⟩
     have p3 : (tt == [102, 111, 114]) = false := beq_eq_false_iff_ne.2 e3
     by_cases e4 : tt = [105, 102]
     ·subst e4
      go_wp2_with fail
      go_ret
      exact ⟨retb (a := true) (by rw [HB3.out]; rfl), G2.out⟩
     have p4 : (tt == [105, 102]) = false := beq_eq_false_iff_ne.2 e4
     by_cases e5 : tt = [105, 110]
     ·subst e5
      go_wp2_with fail
      go_ret
      exact ⟨retb (a := true) (by rw [HB3.out]; rfl), G2.out⟩
     have p5 : (tt == [105, 110]) = false := beq_eq_false_iff_ne.2 e5
     by_cases e6 : tt = [117, 110, 116, 105, 108]
     ·subst e6
      go_wp2_with fail
      go_ret
      exact ⟨retb (a := true) (by rw [HB3.out]; rfl), G2.out⟩
     have p6 : (tt == [117, 110, 116, 105, 108]) = false := beq_eq_false_iff_ne.2 e6
     by_cases e7 : tt = [119, 104, 105, 108, 101]
     ·subst e7
      go_wp2_with fail
      go_ret
      exact ⟨retb (a := true) (by rw [HB3.out]; rfl), G2.out⟩
     have p7 : (tt == [119, 104, 105, 108, 101]) = false := beq_eq_false_iff_ne.2 e7
     have HB4 := hide (show beginsD (.ok ts d) = !b2 by
      rw [HB3.out]
      unfold cmpW
      simp only [List.contains_cons, List.contains_nil, wOpen, wIf, wWhile, wUntil, wFor, wCase, p0, p1, p2, p3, p4, p5, p6, p7, Bool.or_false, Bool.false_or])
     go_wp2_with fail
     refine (Hs.out _).mono ?_
     rintro e w3 ⟨rfl, g3⟩
     go_wp2_with fail
     go_ret
     exact ⟨retb (a := !b2) HB4.out.symm, none_trans G2.out g3⟩
    ·have q1 : ((tk : Int) == 1) = false := by rw [beq_eq_false_iff_ne]; omega
     have Q1 := hide (show (tk == 1) = false by rw [beq_eq_false_iff_ne]; exact k1)
     go_wp2_with fail
     go_ret
     exact ⟨retb (a := false) (by rw [HB2.out, Q1.out, Q2.out, Q3.out]; rfl), G2.out⟩
def openD : DS → DS
 | .ok ts d => if 24 < d then (match ts with | t :: _ => .er t.a 17 | [] => .er 0 17) else .ok ts (d + 1)
 | .er a e => .er a e
set_option maxHeartbeats 8000000 in
theorem dopen_any (rb : Nat) (T : List Tok) (ts : List Tok) (d : Nat) (w : World) (h : DIs w rb T (.ok ts d)) : Calls Try.prog 69 #[.pointer (some ⟨rb, 0, none⟩)] w (Qu rb T (openD (.ok ts d)) w) := by
 have HF := hide (fun x k W (hk : k ≠ 0) (hW : DIs W rb T (.ok ts d)) => dfail_any rb T (.ok ts d) x k hk W hW)
 have HD := hide h
 obtain ⟨vt, a, f, h, hd, hdd⟩ := h
 have HH := hide h
 obtain ⟨c0, c1, c2, c3, c4⟩ := h.cells
 obtain ⟨g, off, cap, t, r, rfl, hc, hg, hd2, t0, t1, t2⟩ := h.tok_
 have lb := h.lb
 have hlt := h.lt
 have hib : (0 : Int) ≤ (a : Int) ∧ (a : Int) < ((T.length : Nat) : Int) := by omega
 have hTl := h.tg.len
 obtain ⟨L, hL⟩ : ∃ L, T.length = L := ⟨_, rfl⟩
 rw [hL] at c0 hib hc hTl
 have HT := hide (show ts = t :: r from hd.symm.trans hd2)
 have hd26 : (d : Int) ≤ 26 := by omega
 have HFI := hide (And.intro hd hdd)
 clear hlt hd hd2 hL hTl hdd
 obtain ⟨tk, tt, ta⟩ := t
 simp only [] at t0 t1 t2
 unfold Qu at HF ⊢
 unfold failD at HF
 simp only [] at HF
 by_cases h24 : 24 < d
 ·have q : decide ((24 : Int) < (d : Int)) = true := decide_eq_true (by omega)
  have HO := hide (show openD (.ok ts d) = .er ta 17 by unfold openD; simp only []; rw [if_pos h24, HT.out])
  rw [HO.out]
  clear h h24
  go_enter Try.func69, Try.ntmps69
  go_upto_region 1 with (fail)
  have Hk : Hid (∀ n : Nat, DIs (w.drewN n) rb T (.ok ts d) ∧ w.grownBy (w.drewN n) none) := hide (fun n => ⟨HD.out.grown (only_drewN (only_refl w none) n), only_drewN (only_refl w none) n⟩)
  refine wp_region_qtail 12 (by kernel_rfl) (by kernel_rfl) ?_
  simp only [List.take_succ_cons, List.take_zero, List.drop_succ_cons, List.drop_zero]
  repeat (go_big_quiet_step (fail))
  refine wpQuiet_nil ?_
  rintro _ ⟨nq, rfl⟩
  clear c0 c1 c2 c3 c4 t0 t1 t2 hg lb
  go_wp2_with fail
  refine (HF.out _ 17 _ (by decide) (Hk.out nq).1).mono ?_
  rintro e w1 ⟨rfl, h1, g1⟩
  have G1 := hide (only_trans (gr_rb (Hk.out nq).2) g1)
  clear g1
  obtain ⟨vt, i, d2, hx, hx0⟩ := h1
  obtain ⟨c0, c1, c2, c3, c4⟩ := hx.cells
  have lb := hx.lb
  have z2 := Blk.frozen hx.blk 2
  have HX := hide hx
  clear hx Hk
  go_wp2_with fail
  refine bodyPost_end (results_none rfl _ _ _) rfl ⟨rfl, ⟨_, i, _, HX.out.set 2 (.inl rfl) _, hx0⟩, only_setCell G1.out (p := ⟨rb, 2, none⟩) (.inl rfl) _⟩
 ·have q : decide ((24 : Int) < (d : Int)) = false := decide_eq_false (by omega)
  have HO := hide (show openD (.ok ts d) = .ok ts (d + 1) from if_neg h24)
  rw [HO.out]
  have z2 := Blk.frozen HH.out.blk 2
  have HS := hide (HH.out.set 2 (.inl rfl) ((d : Int) + 1))
  have hd24 : (d : Int) ≤ 24 := by omega
  have Hd24 := hide hd24
  clear h h24
  go_enter Try.func69, Try.ntmps69
  go_wp2_with fail
  refine bodyPost_end (results_none rfl _ _ _) rfl ⟨rfl, ⟨_, a, f, HS.out, HFI.out.1, by have := Hd24.out; omega⟩, only_setCell (only_refl w (some rb)) (p := ⟨rb, 2, none⟩) (.inl rfl) _⟩
end Go.Proofs.Ytgpfjcogaheopaa

end
