/- What the plain parser leaves: fewer tokens, not too many nodes. -/
import Derived.Test.YtgpfjcogaheopaaPA
set_option linter.all false
namespace Go.Proofs.Ytgpfjcogaheopaa
open Lx
/-- Tokens that end with the one that ends a text. -/
def Good (ts : List Tok) : Prop := ∃ p e, ts = p ++ [e] ∧ e.k = 4 ∧ ∀ t ∈ p, t.k ≠ 4
theorem Good.tail {t : Tok} {r : List Tok} (h : Good (t :: r)) (hk : t.k ≠ 4) : Good r := by
 obtain ⟨p, e, hp, he, ha⟩ := h
 cases p with
 | nil => simp at hp; exact absurd (hp.1 ▸ he) hk
 | cons q p =>
  simp at hp
  exact ⟨p, e, hp.2, he, fun t ht => ha t (List.mem_cons_of_mem _ ht)⟩
theorem Good.ne {ts : List Tok} (h : Good ts) : ∃ t r, ts = t :: r := by
 obtain ⟨p, e, rfl, _, _⟩ := h
 cases p with
 | nil => exact ⟨e, [], rfl⟩
 | cons q p => exact ⟨q, p ++ [e], rfl⟩
theorem Good.pos {ts : List Tok} (h : Good ts) : 0 < ts.length := by
 obtain ⟨t, r, rfl⟩ := h.ne
 simp
theorem sgn_k {t : Tok} {r : List Tok} {s : List UInt8} (h : sgnB (t :: r) s = true) : t.k = 2 ∧ t.t = s := by
 unfold sgnB at h
 simpa using h
theorem wrd_k {t : Tok} {r : List Tok} {s : List UInt8} (h : wrdB (t :: r) s = true) : t.k = 1 ∧ t.t = s := by
 unfold wrdB at h
 simpa using h
theorem is_k {t : Tok} {r : List Tok} {s : List UInt8} (h : isB (t :: r) s = true) : t.k ≠ 4 ∧ t.t = s := by
 unfold isB at h
 rw [Bool.or_eq_true] at h
 rcases h with h | h
 ·have := sgn_k h; exact ⟨by omega, this.2⟩
 ·have := wrd_k h; exact ⟨by omega, this.2⟩
theorem is_tail {ts : List Tok} {s : List UInt8} (hg : Good ts) (h : isB ts s = true) : Good ts.tail ∧ ts.tail.length + 1 = ts.length := by
 obtain ⟨t, r, rfl⟩ := hg.ne
 exact ⟨hg.tail (is_k h).1, rfl⟩
theorem take_good {ts : List Tok} {s : List UInt8} (hg : Good ts) : Good (takeT ts s) ∧ (takeT ts s).length ≤ ts.length := by
 unfold takeT
 split
 ·have := is_tail hg (by assumption); exact ⟨this.1, by omega⟩
 ·exact ⟨hg, Nat.le_refl _⟩
theorem breaks_good : ∀ {ts : List Tok}, Good ts → Good (breaksF ts) ∧ (breaksF ts).length ≤ ts.length
 | [], h => ⟨h, Nat.le_refl _⟩
 | t :: r, h => by
  unfold breaksF
  split
  ·rename_i hb
   have hk : t.k ≠ 4 := by simp at hb; omega
   have := breaks_good (h.tail hk)
   exact ⟨this.1, by simp only [List.length_cons]; omega⟩
  ·exact ⟨h, Nat.le_refl _⟩
theorem bind_eq {α β : Type} {r : PR α} {f : α → List Tok → List Nd → PR β} {y : β} {ts' : List Tok} {ns' : List Nd} (h : r.bind f = .ok y ts' ns') : ∃ x ts ns, r = .ok x ts ns ∧ f x ts ns = .ok y ts' ns' := by
 cases r with
 | ok x ts ns => exact ⟨x, ts, ns, rfl, h⟩
 | bad a e => cases h
theorem wrong_ok {α : Type} {ts : List Tok} {y : α} {ts' : List Tok} {ns' : List Nd} (h : wrongR ts = .ok y ts' ns') : False := by
 unfold wrongR at h
 split at h <;> cases h
theorem need_ok {s : List UInt8} {ts : List Tok} {ns : List Nd} {u : Unit} {ts' : List Tok} {ns' : List Nd} (hg : Good ts) (h : needR s ts ns = .ok u ts' ns') : Good ts' ∧ ts'.length + 1 = ts.length ∧ ns' = ns ∧ isB ts s = true ∧ ts' = ts.tail := by
 unfold needR at h
 split at h
 ·rename_i hb
  injection h with _ h1 h2
  subst h1 h2
  have := is_tail hg hb
  exact ⟨this.1, this.2, rfl, hb, rfl⟩
 ·exact (wrong_ok h).elim
/-- What a reader leaves. -/
structure Left (c : Nat) (ts : List Tok) (ns : List Nd) (x : Int) (ts' : List Tok) (ns' : List Nd) : Prop where
 good : Good ts'
 len : ts'.length + 1 ≤ ts.length
 few : ns'.length + 10 * ts'.length + c ≤ ns.length + 10 * ts.length
 more : ns.length < ns'.length
 last : x = (ns'.length : Int) - 1
def Dec (c : Nat) (f : Rdr) : Prop := ∀ ts ns x ts' ns', Good ts → f ts ns = .ok x ts' ns' → Left c ts ns x ts' ns'
def DecD (c : Nat) (f : Drd) : Prop := ∀ d, Dec c (f d)
theorem lay_ok {n : Nd} {ts : List Tok} {ns : List Nd} {x : Int} {ts' : List Tok} {ns' : List Nd} (h : layR n ts ns = .ok x ts' ns') : x = ns.length ∧ ts' = ts ∧ ns' = ns ++ [n] := by
 unfold layR at h
 injection h with h1 h2 h3
 exact ⟨h1.symm, h2.symm, h3.symm⟩
theorem list_loop {item : Rdr} (hi : Dec 3 item) : ∀ (f : Nat) (kids : List Int) (back : Bool) (ts : List Tok) (ns : List Nd) (k : List Int × Bool) (ts' : List Tok) (ns' : List Nd), Good ts → listL item f kids back ts ns = .ok k ts' ns' →
  Good ts' ∧ ts'.length + 1 ≤ ts.length ∧ ns'.length + 10 * ts'.length + 3 ≤ ns.length + 10 * ts.length ∧ ns.length < ns'.length ∧ (k.1.length + ts'.length ≤ kids.length + ts.length) ∧ kids.length < k.1.length ∧ k.1.getLastD 0 = (ns'.length : Int) - 1 := by
 intro f
 induction f with
 | zero => intro kids back ts ns k ts' ns' _ h; cases h
 | succ f ih =>
  intro kids back ts ns k ts' ns' hg h
  rw [listL] at h
  obtain ⟨x, t1, n1, he, hh⟩ := bind_eq h
  clear h
  have h := hh
  clear hh
  have hl := hi _ _ _ _ _ hg he
  have l1 := hl.len
  have l2 := hl.few
  have l3 := hl.more
  have l4 := hl.last
  simp only [] at h
  by_cases ha : isB t1 sAmp = true
  ·have ht : takeT t1 sAmp = t1.tail := if_pos ha
   have ht2 := is_tail hl.good ha
   have hb := breaks_good ht2.1
   simp only [ha, ht, Bool.true_or, if_true] at h
   by_cases hbg : beginsB (breaksF t1.tail) = true
   ·rw [if_pos hbg] at h
    have := ih _ _ _ _ _ _ _ hb.1 h
    simp only [List.length_append, List.length_singleton] at this
    exact ⟨this.1, by omega, by omega, by omega, by omega, by omega, this.2.2.2.2.2.2⟩
   ·rw [if_neg hbg] at h
    injection h with h1 h2 h3
    subst h1 h2 h3
    simp only [List.length_append, List.length_singleton]
    exact ⟨hb.1, by omega, by omega, by omega, by omega, by omega, by simp⟩
  ·have ha : isB t1 sAmp = false := by simpa using ha
   have ht : takeT t1 sAmp = t1 := by unfold takeT; rw [ha]; rfl
   simp only [ha, ht, Bool.false_or] at h
   by_cases hs : (isB t1 sSemi || isB t1 sLf) = true
   ·simp only [hs, if_true] at h
    have ht2 : Good t1.tail ∧ t1.tail.length + 1 = t1.length := by
     rw [Bool.or_eq_true] at hs
     rcases hs with hs | hs <;> exact is_tail hl.good hs
    have hb := breaks_good ht2.1
    simp only [Bool.false_eq_true, if_false] at h
    by_cases hbg : beginsB (breaksF t1.tail) = true
    ·rw [if_pos hbg] at h
     have := ih _ _ _ _ _ _ _ hb.1 h
     simp only [List.length_append, List.length_singleton] at this
     exact ⟨this.1, by omega, by omega, by omega, by omega, by omega, this.2.2.2.2.2.2⟩
    ·rw [if_neg hbg] at h
     injection h with h1 h2 h3
     subst h1 h2 h3
     simp only [List.length_append, List.length_singleton]
     exact ⟨hb.1, by omega, by omega, by omega, by omega, by omega, by simp; omega⟩
   ·have hs : (isB t1 sSemi || isB t1 sLf) = false := by simpa using hs
    simp only [hs, Bool.false_eq_true, if_false] at h
    injection h with h1 h2 h3
    subst h1 h2 h3
    simp only [List.length_append, List.length_singleton]
    exact ⟨hl.good, by omega, by omega, by omega, by omega, by omega, by simp; omega⟩
theorem list_dec {item : Rdr} (hi : Dec 3 item) : Dec 2 (listF item) := by
 intro ts ns x ts' ns' hg h
 unfold listF at h
 obtain ⟨k, t1, n1, he, hh⟩ := bind_eq h
 clear h
 have h := hh
 clear hh
 have hb := breaks_good hg
 obtain ⟨g1, a1, a2, a3, a4, a5, a6⟩ := list_loop hi _ _ _ _ _ _ _ _ hb.1 he
 have hb1 := breaks_good g1
 split at h
 ·rename_i x0 hk
  split at h
  ·obtain ⟨rfl, rfl, rfl⟩ := lay_ok h
   exact ⟨hb1.1, by omega, by simp; omega, by simp; omega, by simp⟩
  ·injection h with h1 h2 h3
   subst h1 h2 h3
   rw [hk] at a6
   exact ⟨hb1.1, by omega, by omega, by omega, a6⟩
 ·obtain ⟨rfl, rfl, rfl⟩ := lay_ok h
  exact ⟨hb1.1, by omega, by simp; omega, by simp; omega, by simp⟩
theorem item_loop {pipe : Rdr} (hi : Dec 3 pipe) : ∀ (f : Nat) (x : Int) (ts : List Tok) (ns : List Nd) (y : Int) (ts' : List Tok) (ns' : List Nd), Good ts → x = (ns.length : Int) - 1 → itemL pipe f x ts ns = .ok y ts' ns' →
  Good ts' ∧ ts'.length ≤ ts.length ∧ ns'.length + 10 * ts'.length ≤ ns.length + 10 * ts.length ∧ ns.length ≤ ns'.length ∧ y = (ns'.length : Int) - 1 := by
 intro f
 induction f with
 | zero => intro x ts ns y ts' ns' _ _ h; cases h
 | succ f ih =>
  intro x ts ns y ts' ns' hg hx h
  rw [itemL] at h
  split at h
  ·rename_i ha
   have ht2 := is_tail hg ha
   have hb := breaks_good ht2.1
   obtain ⟨z, t1, n1, he, hh⟩ := bind_eq h
   clear h
   have h := hh
   clear hh
   have hl := hi _ _ _ _ _ hb.1 he
   have l1 := hl.len
   have l2 := hl.few
   have l3 := hl.more
   have := ih _ _ _ _ _ _ hl.good (by simp) h
   simp only [List.length_append, List.length_singleton] at this
   exact ⟨this.1, by omega, by omega, by omega, this.2.2.2.2⟩
  ·split at h
   ·rename_i ha
    have ht2 := is_tail hg ha
    have hb := breaks_good ht2.1
    obtain ⟨z, t1, n1, he, hh⟩ := bind_eq h
    clear h
    have h := hh
    clear hh
    have hl := hi _ _ _ _ _ hb.1 he
    have l1 := hl.len
    have l2 := hl.few
    have l3 := hl.more
    have := ih _ _ _ _ _ _ hl.good (by simp) h
    simp only [List.length_append, List.length_singleton] at this
    exact ⟨this.1, by omega, by omega, by omega, this.2.2.2.2⟩
   ·injection h with h1 h2 h3
    subst h1 h2 h3
    exact ⟨hg, Nat.le_refl _, Nat.le_refl _, Nat.le_refl _, hx⟩
theorem item_dec {pipe : Rdr} (hi : Dec 3 pipe) : Dec 3 (itemF pipe) := by
 intro ts ns x ts' ns' hg h
 unfold itemF at h
 obtain ⟨k, t1, n1, he, hh⟩ := bind_eq h
 clear h
 have h := hh
 clear hh
 have hl := hi _ _ _ _ _ hg he
 have l1 := hl.len
 have l2 := hl.few
 have l3 := hl.more
 obtain ⟨g1, a1, a2, a3, a4⟩ := item_loop hi _ _ _ _ _ _ _ hl.good hl.last h
 exact ⟨g1, by omega, by omega, by omega, a4⟩
theorem pipe_loop {cmd : Rdr} (hi : Dec 5 cmd) : ∀ (f : Nat) (kids : List Int) (ts : List Tok) (ns : List Nd) (k : List Int) (ts' : List Tok) (ns' : List Nd), Good ts → kids.getLastD 0 = (ns.length : Int) - 1 → pipeL cmd f kids ts ns = .ok k ts' ns' →
  Good ts' ∧ ts'.length ≤ ts.length ∧ ns'.length + 10 * ts'.length ≤ ns.length + 10 * ts.length ∧ ns.length ≤ ns'.length ∧ kids.length ≤ k.length ∧ k.length + ts'.length ≤ kids.length + ts.length ∧ k.getLastD 0 = (ns'.length : Int) - 1 ∧ k.headD 0 = (if kids = [] then k.headD 0 else kids.headD 0) := by
 intro f
 induction f with
 | zero => intro kids ts ns k ts' ns' _ _ h; cases h
 | succ f ih =>
  intro kids ts ns k ts' ns' hg hk h
  rw [pipeL] at h
  split at h
  ·rename_i ha
   have ht2 := is_tail hg ha
   have hb := breaks_good ht2.1
   obtain ⟨z, t1, n1, he, hh⟩ := bind_eq h
   clear h
   have h := hh
   clear hh
   have hl := hi _ _ _ _ _ hb.1 he
   have l1 := hl.len
   have l2 := hl.few
   have l3 := hl.more
   have := ih _ _ _ _ _ _ hl.good (by simp; exact hl.last) h
   simp only [List.length_append, List.length_singleton] at this
   refine ⟨this.1, by omega, by omega, by omega, by omega, by omega, this.2.2.2.2.2.2.1, ?_⟩
   have h8 := this.2.2.2.2.2.2.2
   cases kids with
   | nil => rfl
   | cons q l => rw [if_neg (by simp)] at h8 ⊢; exact h8
  ·injection h with h1 h2 h3
   subst h1 h2 h3
   refine ⟨hg, Nat.le_refl _, Nat.le_refl _, Nat.le_refl _, Nat.le_refl _, Nat.le_refl _, hk, by split <;> rfl⟩
theorem not_dec {b : Bool} {x y : Int} {ts ts' : List Tok} {ns ns' : List Nd} (hx : x = (ns.length : Int) - 1) (h : notR b x ts ns = .ok y ts' ns') : ts' = ts ∧ ns'.length ≤ ns.length + 1 ∧ ns.length ≤ ns'.length ∧ y = (ns'.length : Int) - 1 := by
 unfold notR at h
 split at h
 ·obtain ⟨rfl, rfl, rfl⟩ := lay_ok h
  exact ⟨rfl, by simp, by simp, by simp⟩
 ·injection h with h1 h2 h3
  subst h1 h2 h3
  exact ⟨rfl, by omega, Nat.le_refl _, hx⟩
theorem pipe_dec {cmd : Rdr} (hi : Dec 5 cmd) : Dec 3 (pipeF cmd) := by
 intro ts ns x ts' ns' hg h
 unfold pipeF at h
 obtain ⟨y, t1, n1, he, hh⟩ := bind_eq h
 clear h
 have h := hh
 clear hh
 have hb := take_good (s := wBang) hg
 have hl := hi _ _ _ _ _ hb.1 he
 have l1 := hl.len
 have l2 := hl.few
 have l3 := hl.more
 obtain ⟨k, t2, n2, he2, hh⟩ := bind_eq h
 clear h
 have h := hh
 clear hh
 obtain ⟨g1, a1, a2, a3, a4, a5, a6, a7⟩ := pipe_loop hi _ _ _ _ _ _ _ hl.good (by simp; exact hl.last) he2
 split at h
 ·obtain ⟨rfl, b1, b2, b3⟩ := not_dec (by simp) h
  simp only [List.length_append, List.length_singleton] at b1 b2
  exact ⟨g1, by omega, by omega, by omega, b3⟩
 ·rename_i h1
  have hk1 : k.length = 1 := by simp only [List.length_singleton] at a4; omega
  obtain ⟨z, rfl⟩ := List.length_eq_one_iff.1 hk1
  obtain ⟨rfl, b1, b2, b3⟩ := not_dec (by simpa using a6) h
  exact ⟨g1, by omega, by omega, by omega, b3⟩
theorem redir_good : ∀ (f : Nat) (acc : List Rd) (ts : List Tok) (ns : List Nd) (l : List Rd) (ts' : List Tok) (ns' : List Nd), Good ts → redirL f acc ts ns = .ok l ts' ns' →
  Good ts' ∧ ns' = ns ∧ acc.length ≤ l.length ∧ l.length + ts'.length ≤ acc.length + ts.length := by
 intro f
 induction f with
 | zero => intro acc ts ns l ts' ns' _ h; cases h
 | succ f ih =>
  intro acc ts ns l ts' ns' hg h
  obtain ⟨t, r, rfl⟩ := hg.ne
  rw [redirL] at h
  split at h
  ·rename_i h3
   rw [Bool.and_eq_true] at h3
   have hk : t.k = 3 := by simpa using h3.1
   have g1 := hg.tail (by omega)
   obtain ⟨o, r, rfl⟩ := g1.ne
   have ho : o.k = 2 := by
    have h4 := h3.2
    unfold rdrB at h4
    rw [Bool.and_eq_true] at h4
    simpa using h4.1
   have g2 := g1.tail (by omega)
   obtain ⟨w, r, rfl⟩ := g2.ne
   split at h
   ·rename_i hw
    have g3 := g2.tail (by unfold wkB at hw; simp at hw; omega)
    have := ih _ _ _ _ _ _ g3 h
    simp only [List.length_append, List.length_singleton, List.tail_cons] at this
    simp only [List.length_cons]
    exact ⟨this.1, this.2.1, by omega, by omega⟩
   ·exact (wrong_ok h).elim
  ·split at h
   ·rename_i h4
    unfold rdrB at h4
    rw [Bool.and_eq_true] at h4
    have ho : t.k = 2 := by simpa using h4.1
    have g2 := hg.tail (by omega)
    obtain ⟨w, r, rfl⟩ := g2.ne
    split at h
    ·rename_i hw
     have g3 := g2.tail (by unfold wkB at hw; simp at hw; omega)
     have := ih _ _ _ _ _ _ g3 h
     simp only [List.length_append, List.length_singleton] at this
     simp only [List.length_cons]
     exact ⟨this.1, this.2.1, by omega, by omega⟩
    ·exact (wrong_ok h).elim
   ·injection h with h1 h2 h3
    subst h1 h2 h3
    exact ⟨hg, rfl, Nat.le_refl _, Nat.le_refl _⟩
theorem redirF_good {ts : List Tok} {ns : List Nd} {l : List Rd} {ts' : List Tok} {ns' : List Nd} (hg : Good ts) (h : redirF ts ns = .ok l ts' ns') : Good ts' ∧ ns' = ns ∧ l.length + ts'.length ≤ ts.length := by
 have := redir_good _ _ _ _ _ _ _ hg h
 exact ⟨this.1, this.2.1, by simpa using this.2.2.2⟩
theorem sim_good : ∀ (f : Nat) (n : Nd) (ts : List Tok) (ns : List Nd) (m : Nd) (ts' : List Tok) (ns' : List Nd), Good ts → simL f n ts ns = .ok m ts' ns' →
  Good ts' ∧ ns' = ns ∧ m.sets.length + m.words.length + m.redirs.length + ts'.length ≤ n.sets.length + n.words.length + n.redirs.length + ts.length := by
 intro f
 induction f with
 | zero => intro n ts ns l ts' ns' _ h; cases h
 | succ f ih =>
  intro n ts ns m ts' ns' hg h
  rw [simL] at h
  obtain ⟨l, t1, n1, he, hh⟩ := bind_eq h
  clear h
  have h := hh
  clear hh
  obtain ⟨g1, rfl, c1⟩ := redirF_good hg he
  obtain ⟨t, r, rfl⟩ := g1.ne
  simp only [List.length_cons] at c1
  simp only [] at h
  have fin : ∀ {m : Nd} {ts' : List Tok} {ns' : List Nd}, PR.ok { n with redirs := n.redirs ++ l } (t :: r) n1 = .ok m ts' ns' → Good ts' ∧ ns' = n1 ∧ m.sets.length + m.words.length + m.redirs.length + ts'.length ≤ n.sets.length + n.words.length + n.redirs.length + ts.length := by
   intro m ts' ns' h
   injection h with h1 h2 h3
   subst h1 h2 h3
   simp only [List.length_append, List.length_cons]
   exact ⟨g1, by trivial, by omega⟩
  split at h
  ·exact fin h
  ·rename_i hk
   have g2 := g1.tail (by omega)
   split at h
   ·have := ih _ _ _ _ _ _ g2 h
    simp only [List.length_append, List.length_singleton] at this
    exact ⟨this.1, this.2.1, by omega⟩
   ·split at h
    ·have := ih _ _ _ _ _ _ g2 h
     simp only [List.length_append, List.length_singleton] at this
     exact ⟨this.1, this.2.1, by omega⟩
    ·split at h
     ·exact fin h
     ·have := ih _ _ _ _ _ _ g2 h
      simp only [List.length_append, List.length_singleton] at this
      exact ⟨this.1, this.2.1, by omega⟩
theorem sim_dec : Dec 5 simF := by
 intro ts ns x ts' ns' hg h
 unfold simF at h
 obtain ⟨m, t1, n1, he, hh⟩ := bind_eq h
 clear h
 have h := hh
 clear hh
 obtain ⟨g1, rfl, c1⟩ := sim_good _ _ _ _ _ _ _ hg he
 simp only [List.length_nil] at c1
 split at h
 ·exact (wrong_ok h).elim
 ·obtain ⟨rfl, rfl, rfl⟩ := lay_ok h
  exact ⟨g1, by omega, by simp; omega, by simp, by simp⟩
theorem within_dec {c : Nat} {f : Drd} (hf : DecD c f) : DecD c (withinF f) := by
 intro d ts ns x ts' ns' hg h
 unfold withinF at h
 split at h
 ·cases h
 ·exact hf _ _ _ _ _ _ hg h
theorem setRd_len (ns : List Nd) (x : Int) (l : List Rd) : (setRd ns x l).length = ns.length := by unfold setRd; simp
theorem cmp_dec {core : Drd} (hc : DecD 5 core) : DecD 5 (cmpF core) := by
 intro d ts ns x ts' ns' hg h
 unfold cmpF at h
 obtain ⟨y, t1, n1, he, hh⟩ := bind_eq h
 clear h
 have h := hh
 clear hh
 have hl := within_dec hc d _ _ _ _ _ hg he
 obtain ⟨l, t2, n2, he2, hh⟩ := bind_eq h
 clear h
 have h := hh
 clear hh
 obtain ⟨g1, rfl, c1⟩ := redirF_good hl.good he2
 injection h with h1 h2 h3
 subst h1 h2 h3
 have l1 := hl.len
 have l2 := hl.few
 have l3 := hl.more
 exact ⟨g1, by omega, by rw [setRd_len]; omega, by rw [setRd_len]; omega, by rw [setRd_len]; exact hl.last⟩
theorem fun_dec {cmp : Drd} (hc : DecD 5 cmp) (d : Nat) (ts : List Tok) (ns : List Nd) (x : Int) (ts' : List Tok) (ns' : List Nd) (_hg : Good ts) (ht : Good ts.tail) (h : funF cmp d ts ns = .ok x ts' ns') : Left 5 ts ns x ts' ns' := by
 unfold funF at h
 obtain ⟨_, t1, n1, he, hh⟩ := bind_eq h
 clear h
 have h := hh
 clear hh
 obtain ⟨g1, c1, rfl, _, _⟩ := need_ok ht he
 obtain ⟨_, t2, n2, he2, hh⟩ := bind_eq h
 clear h
 have h := hh
 clear hh
 obtain ⟨g2, c2, rfl, _, _⟩ := need_ok g1 he2
 have hb := breaks_good g2
 have c0 : ts.tail.length ≤ ts.length := by simp
 split at h
 ·obtain ⟨y, t3, n3, he3, hh⟩ := bind_eq h
  clear h
  have h := hh
  clear hh
  have hl := hc d _ _ _ _ _ hb.1 he3
  have l1 := hl.len
  have l2 := hl.few
  have l3 := hl.more
  obtain ⟨rfl, rfl, rfl⟩ := lay_ok h
  exact ⟨hl.good, by omega, by simp; omega, by simp; omega, by simp⟩
 ·exact (wrong_ok h).elim
theorem cmd_dec {cmp : Drd} (hc : DecD 5 cmp) : DecD 5 (cmdF cmp) := by
 intro d ts ns x ts' ns' hg h
 unfold cmdF at h
 split at h
 ·exact hc d _ _ _ _ _ hg h
 ·split at h
  ·rename_i hf
   obtain ⟨t, r, rfl⟩ := hg.ne
   have ht : Good r := by
    cases r with
    | nil => cases hf
    | cons u r =>
     refine hg.tail ?_
     unfold funB namedB at hf
     simp at hf
     omega
   unfold withinF at h
   split at h
   ·cases h
   ·exact fun_dec hc _ _ _ _ _ _ hg ht h
  ·exact sim_dec _ _ _ _ _ hg h
theorem lst_dec {cmp : Drd} (hc : DecD 5 cmp) : DecD 2 (lstF cmp) := fun d => list_dec (item_dec (pipe_dec (cmd_dec hc d)))
theorem ifs_dec {lst : Rdr} (hl : Dec 2 lst) : ∀ f, Dec 1 (ifsF lst f) := by
 intro f
 induction f with
 | zero => intro ts ns x ts' ns' _ h; cases h
 | succ f ih =>
  intro ts ns x ts' ns' hg h
  rw [ifsF] at h
  obtain ⟨a, t1, n1, e1, hh⟩ := bind_eq h
  clear h
  have h := hh
  clear hh
  have d1 := hl _ _ _ _ _ hg e1
  have d1a := d1.len; have d1b := d1.few; have d1c := d1.more
  obtain ⟨_, t2, n2, e2, hh⟩ := bind_eq h
  clear h
  have h := hh
  clear hh
  obtain ⟨g2, c2, rfl, _, _⟩ := need_ok d1.good e2
  obtain ⟨b, t3, n3, e3, hh⟩ := bind_eq h
  clear h
  have h := hh
  clear hh
  have d3 := hl _ _ _ _ _ g2 e3
  have d3a := d3.len; have d3b := d3.few; have d3c := d3.more
  split at h
  ·rename_i hi
   have g4 := is_tail d3.good hi
   obtain ⟨c, t4, n4, e4, hh⟩ := bind_eq h
   clear h
   have h := hh
   clear hh
   have d4 := ih _ _ _ _ _ g4.1 e4
   have d4a := d4.len; have d4b := d4.few; have d4c := d4.more
   obtain ⟨rfl, rfl, rfl⟩ := lay_ok h
   exact ⟨d4.good, by omega, by simp; omega, by simp; omega, by simp⟩
  ·split at h
   ·rename_i hi
    have g4 := is_tail d3.good hi
    obtain ⟨c, t4, n4, e4, hh⟩ := bind_eq h
    clear h
    have h := hh
    clear hh
    have d4 := hl _ _ _ _ _ g4.1 e4
    have d4a := d4.len; have d4b := d4.few; have d4c := d4.more
    obtain ⟨_, t5, n5, e5, hh⟩ := bind_eq h
    clear h
    have h := hh
    clear hh
    obtain ⟨g5, c5, rfl, _, _⟩ := need_ok d4.good e5
    obtain ⟨rfl, rfl, rfl⟩ := lay_ok h
    exact ⟨g5, by omega, by simp; omega, by simp; omega, by simp⟩
   ·obtain ⟨_, t5, n5, e5, hh⟩ := bind_eq h
    clear h
    have h := hh
    clear hh
    obtain ⟨g5, c5, rfl, _, _⟩ := need_ok d3.good e5
    obtain ⟨rfl, rfl, rfl⟩ := lay_ok h
    exact ⟨g5, by omega, by simp; omega, by simp; omega, by simp⟩
theorem words_good : ∀ {ts : List Tok}, Good ts → Good (wordsR ts) ∧ (wordsT ts).length + (wordsR ts).length = ts.length
 | [], h => ⟨h, rfl⟩
 | t :: r, h => by
  unfold wordsR wordsT
  split
  ·rename_i hk
   have := words_good (h.tail (by omega))
   exact ⟨this.1, by simp only [List.length_cons]; omega⟩
  ·exact ⟨h, by simp⟩
theorem fors_ok {ts : List Tok} {ns : List Nd} {n : Nd} {ts' : List Tok} {ns' : List Nd} (hg : Good ts) (h : forsF ts ns = .ok n ts' ns') : Good ts' ∧ ts'.length + 2 ≤ ts.length ∧ ns' = ns := by
 obtain ⟨t, r, rfl⟩ := hg.ne
 unfold forsF at h
 simp only [] at h
 split at h
 ·rename_i hn
  have hk : t.k ≠ 4 := by unfold namedB at hn; simp at hn; omega
  have hb := breaks_good (hg.tail hk)
  simp only [List.length_cons]
  split at h
  ·rename_i hi
   have g1 := is_tail hb.1 hi
   have g2 := words_good g1.1
   split at h
   ·rename_i hs
    rw [Bool.or_eq_true] at hs
    have g3 : Good (wordsR (breaksF r).tail.tail).tail ∨ True := .inr trivial
    have g3 : Good (wordsR (breaksF r).tail).tail ∧ (wordsR (breaksF r).tail).tail.length + 1 = (wordsR (breaksF r).tail).length := by
     rcases hs with hs | hs <;> exact is_tail g2.1 hs
    have g4 := breaks_good g3.1
    obtain ⟨_, t5, n5, e5, hh⟩ := bind_eq h
    clear h
    have h := hh
    clear hh
    obtain ⟨g5, c5, rfl, _, _⟩ := need_ok g4.1 e5
    injection h with h1 h2 h3
    subst h1 h2 h3
    exact ⟨g5, by omega, rfl⟩
   ·exact (wrong_ok h).elim
  ·have g3 := take_good (s := sSemi) hb.1
   have g4 := breaks_good g3.1
   obtain ⟨_, t5, n5, e5, hh⟩ := bind_eq h
   clear h
   have h := hh
   clear hh
   obtain ⟨g5, c5, rfl, _, _⟩ := need_ok g4.1 e5
   injection h with h1 h2 h3
   subst h1 h2 h3
   exact ⟨g5, by omega, rfl⟩
 ·exact (wrong_ok h).elim
theorem any_ok {ts : List Tok} {ns : List Nd} {s : List UInt8} {ts' : List Tok} {ns' : List Nd} (hg : Good ts) (h : anyR ts ns = .ok s ts' ns') : Good ts' ∧ ts'.length + 1 = ts.length ∧ ns' = ns ∧ ts' = ts.tail := by
 obtain ⟨t, r, rfl⟩ := hg.ne
 unfold anyR at h
 simp only [] at h
 split at h
 ·rename_i hk
  injection h with h1 h2 h3
  subst h1 h2 h3
  exact ⟨hg.tail (by omega), rfl, rfl, rfl⟩
 ·exact (wrong_ok h).elim
theorem pats_ok : ∀ (f : Nat) (acc : List (List UInt8)) (ts : List Tok) (ns : List Nd) (l : List (List UInt8)) (ts' : List Tok) (ns' : List Nd), Good ts → patsL f acc ts ns = .ok l ts' ns' → Good ts' ∧ l.length + ts'.length ≤ acc.length + ts.length ∧ ns' = ns ∧ ts'.length ≤ ts.length := by
 intro f
 induction f with
 | zero => intro acc ts ns l ts' ns' _ h; cases h
 | succ f ih =>
  intro acc ts ns l ts' ns' hg h
  rw [patsL] at h
  split at h
  ·rename_i hi
   have g1 := is_tail hg hi
   obtain ⟨s, t1, n1, e1, hh⟩ := bind_eq h
   clear h
   have h := hh
   clear hh
   obtain ⟨g2, c2, rfl, _⟩ := any_ok g1.1 e1
   have := ih _ _ _ _ _ _ g2 h
   simp only [List.length_append, List.length_singleton] at this
   exact ⟨this.1, by omega, this.2.2.1, by omega⟩
  ·injection h with h1 h2 h3
   subst h1 h2 h3
   exact ⟨hg, Nat.le_refl _, rfl, Nat.le_refl _⟩
theorem body_ok {lst : Rdr} (hl : Dec 2 lst) {ts : List Tok} {ns : List Nd} {x : Int} {ts' : List Tok} {ns' : List Nd} (hg : Good ts) (h : (if beginsB (breaksF ts) = true then lst (breaksF ts) ns else .ok (-1) (breaksF ts) ns) = .ok x ts' ns') : Good ts' ∧ ts'.length ≤ ts.length ∧ ns'.length + 10 * ts'.length ≤ ns.length + 10 * ts.length ∧ ns.length ≤ ns'.length := by
 have hb := breaks_good hg
 split at h
 ·have d := hl _ _ _ _ _ hb.1 h
  have da := d.len; have db := d.few; have dc := d.more
  exact ⟨d.good, by omega, by omega, by omega⟩
 ·injection h with h1 h2 h3
  subst h1 h2 h3
  exact ⟨hb.1, hb.2, by omega, Nat.le_refl _⟩
theorem par_good {ts : List Tok} (hg : Good ts) : Good (if sgnB ts sPar = true then ts.tail else ts) ∧ (if sgnB ts sPar = true then ts.tail else ts).length ≤ ts.length := by
 split
 ·rename_i h
  have := is_tail (s := sPar) hg (by unfold isB; rw [h]; rfl)
  exact ⟨this.1, by omega⟩
 ·exact ⟨hg, Nat.le_refl _⟩
theorem case_loop {lst : Rdr} (hl : Dec 2 lst) : ∀ (f : Nat) (n : Nd) (ts : List Tok) (ns : List Nd) (m : Nd) (ts' : List Tok) (ns' : List Nd), Good ts → caseL lst f n ts ns = .ok m ts' ns' →
  Good ts' ∧ ts'.length ≤ ts.length ∧ ns'.length + 10 * ts'.length ≤ ns.length + 10 * ts.length ∧ ns.length ≤ ns'.length := by
 intro f
 induction f with
 | zero => intro n ts ns m ts' ns' _ h; cases h
 | succ f ih =>
  intro n ts ns m ts' ns' hg h
  rw [caseL] at h
  split at h
  ·injection h with h1 h2 h3
   subst h1 h2 h3
   exact ⟨hg, Nat.le_refl _, Nat.le_refl _, Nat.le_refl _⟩
  ·have gp := par_good hg
   obtain ⟨s, t1, n1, e1, hh⟩ := bind_eq h
   clear h
   have h := hh
   clear hh
   obtain ⟨g1, c1, rfl, _⟩ := any_ok gp.1 e1
   obtain ⟨p, t2, n2, e2, hh⟩ := bind_eq h
   clear h
   have h := hh
   clear hh
   obtain ⟨g2, _, rfl, c2⟩ := pats_ok _ _ _ _ _ _ _ g1 e2
   obtain ⟨_, t3, n3, e3, hh⟩ := bind_eq h
   clear h
   have h := hh
   clear hh
   obtain ⟨g3, c3, rfl, _, _⟩ := need_ok g2 e3
   obtain ⟨x, t4, n4, e4, hh⟩ := bind_eq h
   clear h
   have h := hh
   clear hh
   obtain ⟨g4, c4, d4, k4⟩ := body_ok hl g3 e4
   split at h
   ·rename_i hi
    have g5 := is_tail g4 hi
    have g6 := breaks_good g5.1
    have := ih _ _ _ _ _ _ g6.1 h
    exact ⟨this.1, by omega, by omega, by omega⟩
   ·injection h with h1 h2 h3
    subst h1 h2 h3
    exact ⟨g4, by omega, by omega, by omega⟩
theorem case_ok {lst : Rdr} (hl : Dec 2 lst) {ts : List Tok} {ns : List Nd} {m : Nd} {ts' : List Tok} {ns' : List Nd} (hg : Good ts) (h : caseF lst ts ns = .ok m ts' ns') : Good ts' ∧ ts'.length + 1 ≤ ts.length ∧ ns'.length + 10 * ts'.length + 10 ≤ ns.length + 10 * ts.length ∧ ns.length ≤ ns'.length := by
 unfold caseF at h
 obtain ⟨s, t1, n1, e1, hh⟩ := bind_eq h
 clear h
 have h := hh
 clear hh
 obtain ⟨g1, c1, rfl, _⟩ := any_ok hg e1
 have b1 := breaks_good g1
 obtain ⟨_, t3, n3, e3, hh⟩ := bind_eq h
 clear h
 have h := hh
 clear hh
 obtain ⟨g3, c3, rfl, _, _⟩ := need_ok b1.1 e3
 have b3 := breaks_good g3
 obtain ⟨m2, t4, n4, e4, hh⟩ := bind_eq h
 clear h
 have h := hh
 clear hh
 obtain ⟨g4, c4, d4, k4⟩ := case_loop hl _ _ _ _ _ _ _ b3.1 e4
 obtain ⟨_, t5, n5, e5, hh⟩ := bind_eq h
 clear h
 have h := hh
 clear hh
 obtain ⟨g5, c5, rfl, _, _⟩ := need_ok g4 e5
 injection h with h1 h2 h3
 subst h1 h2 h3
 exact ⟨g5, by omega, by omega, by omega⟩
theorem coreS_dec {lst : Rdr} (hl : Dec 2 lst) (s : List UInt8) : Dec 0 (coreS lst s) := by
 intro ts ns x ts' ns' hg h
 unfold coreS at h
 split at h
 ·obtain ⟨y, t1, n1, e1, hh⟩ := bind_eq h
  clear h
  have h := hh
  clear hh
  have d1 := hl _ _ _ _ _ hg e1
  have d1a := d1.len; have d1b := d1.few; have d1c := d1.more
  obtain ⟨_, t2, n2, e2, hh⟩ := bind_eq h
  clear h
  have h := hh
  clear hh
  obtain ⟨g2, c2, rfl, _, _⟩ := need_ok d1.good e2
  obtain ⟨rfl, rfl, rfl⟩ := lay_ok h
  exact ⟨g2, by omega, by simp; omega, by simp; omega, by simp⟩
 ·split at h
  ·obtain ⟨y, t1, n1, e1, hh⟩ := bind_eq h
   clear h
   have h := hh
   clear hh
   have d1 := hl _ _ _ _ _ hg e1
   have d1a := d1.len; have d1b := d1.few; have d1c := d1.more
   obtain ⟨_, t2, n2, e2, hh⟩ := bind_eq h
   clear h
   have h := hh
   clear hh
   obtain ⟨g2, c2, rfl, _, _⟩ := need_ok d1.good e2
   obtain ⟨rfl, rfl, rfl⟩ := lay_ok h
   exact ⟨g2, by omega, by simp; omega, by simp; omega, by simp⟩
  ·split at h
   ·have d := ifs_dec hl _ _ _ _ _ _ hg h
    have da := d.len; have db := d.few; have dc := d.more
    exact ⟨d.good, by omega, by omega, by omega, d.last⟩
   ·split at h
    ·obtain ⟨n, t1, n1, e1, hh⟩ := bind_eq h
     clear h
     have h := hh
     clear hh
     obtain ⟨g1, c1, rfl⟩ := fors_ok hg e1
     obtain ⟨y, t2, n2, e2, hh⟩ := bind_eq h
     clear h
     have h := hh
     clear hh
     have d2 := hl _ _ _ _ _ g1 e2
     have d2a := d2.len; have d2b := d2.few; have d2c := d2.more
     obtain ⟨_, t3, n3, e3, hh⟩ := bind_eq h
     clear h
     have h := hh
     clear hh
     obtain ⟨g3, c3, rfl, _, _⟩ := need_ok d2.good e3
     obtain ⟨rfl, rfl, rfl⟩ := lay_ok h
     exact ⟨g3, by omega, by simp; omega, by simp; omega, by simp⟩
    ·split at h
     ·obtain ⟨n, t1, n1, e1, hh⟩ := bind_eq h
      clear h
      have h := hh
      clear hh
      obtain ⟨g1, c1, d1, k1⟩ := case_ok hl hg e1
      obtain ⟨rfl, rfl, rfl⟩ := lay_ok h
      exact ⟨g1, by omega, by simp; omega, by simp; omega, by simp⟩
     ·obtain ⟨y, t1, n1, e1, hh⟩ := bind_eq h
      clear h
      have h := hh
      clear hh
      have d1 := hl _ _ _ _ _ hg e1
      have d1a := d1.len; have d1b := d1.few; have d1c := d1.more
      obtain ⟨_, t2, n2, e2, hh⟩ := bind_eq h
      clear h
      have h := hh
      clear hh
      obtain ⟨g2, c2, rfl, _, _⟩ := need_ok d1.good e2
      obtain ⟨z, t3, n3, e3, hh⟩ := bind_eq h
      clear h
      have h := hh
      clear hh
      have d3 := hl _ _ _ _ _ g2 e3
      have d3a := d3.len; have d3b := d3.few; have d3c := d3.more
      obtain ⟨_, t4, n4, e4, hh⟩ := bind_eq h
      clear h
      have h := hh
      clear hh
      obtain ⟨g4, c4, rfl, _, _⟩ := need_ok d3.good e4
      obtain ⟨rfl, rfl, rfl⟩ := lay_ok h
      exact ⟨g4, by omega, by simp; omega, by simp; omega, by simp⟩
theorem coreF_dec {lst : Drd} (hl : DecD 2 lst) : DecD 5 (coreF lst) := by
 intro d ts ns x ts' ns' hg h
 obtain ⟨t, r, rfl⟩ := hg.ne
 unfold coreF at h
 simp only [] at h
 split at h
 ·cases h
 ·rename_i hk
  have d1 := coreS_dec (hl d) t.t _ _ _ _ _ (hg.tail hk) h
  have d1a := d1.len; have d1b := d1.few; have d1c := d1.more
  exact ⟨d1.good, by simp only [List.length_cons]; omega, by simp only [List.length_cons]; omega, d1c, d1.last⟩
theorem core_dec : ∀ f, DecD 5 (core f)
 | 0 => fun _ _ _ _ _ _ _ h => by cases h
 | f + 1 => coreF_dec (lst_dec (cmp_dec (core_dec f)))
theorem lst_left (f : Nat) : DecD 2 (lst f) := lst_dec (cmp_dec (core_dec f))
end Go.Proofs.Ytgpfjcogaheopaa
