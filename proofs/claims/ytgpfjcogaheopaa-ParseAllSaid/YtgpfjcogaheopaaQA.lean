/- What the lexer's tokens are. -/
import Derived.Test.YtgpfjcogaheopaaPB
set_option linter.all false
namespace Go.Proofs.Ytgpfjcogaheopaa
open Lx
set_option maxRecDepth 100000
/-- A token of a text: what its kind says. -/
structure TokW (L : Nat) (t : Tok) : Prop where
 len : t.t.length ≤ 4096
 io : t.k = 3 → ∃ c, t.t = [c] ∧ 48 ≤ c.toNat ∧ c.toNat ≤ 57
 wd : t.k = 1 → ∃ c r, t.t = c :: r ∧ isIn stopB c = false
 sg : t.k = 2 → t.t ∈ sgs
 kk : t.k = 1 ∨ t.k = 2 ∨ t.k = 3
 at_ : t.a ≤ L
theorem add_deep {r : Rs} {k a : Nat} (h : r.add k = .deep a) : ∃ m, r = .deep m ∧ a = k + m := by
 cases r with
 | ok m => cases h
 | more => cases h
 | deep m => injection h with h; exact ⟨m, rfl, by omega⟩
theorem until_nd (c : UInt8) (esc : Bool) : ∀ (t : List UInt8) (a : Nat), untilR c esc t ≠ .deep a
 | [], a, h => by cases h
 | [b], a, h => by
  unfold untilR at h
  split at h
  ·cases h
  ·split at h
   ·cases h
   ·cases h
 | b :: d :: r, a, h => by
  unfold untilR at h
  split at h
  ·obtain ⟨m, hm, rfl⟩ := add_deep h
   exact until_nd c esc r m hm
  ·split at h
   ·cases h
   ·obtain ⟨m, hm, rfl⟩ := add_deep h
    exact until_nd c esc (d :: r) m hm
theorem sums_nd : ∀ (t : List UInt8) (o a : Nat), sumsR o t ≠ .deep a := by
 intro t
 induction t with
 | nil => intro o a h; cases o <;> cases h
 | cons b r ih =>
  intro o a h
  have hu : sumsR o (b :: r) = if b = 40 then (sumsR (o + 1) r).add 1 else if b ≠ 41 then (sumsR o r).add 1 else if 0 < o then (sumsR (o - 1) r).add 1 else if r.take 1 = [41] then .ok 2 else (sumsR o r).add 1 := by cases o <;> rfl
  rw [hu] at h
  split at h
  ·obtain ⟨m, hm, rfl⟩ := add_deep h; exact ih _ _ hm
  ·split at h
   ·obtain ⟨m, hm, rfl⟩ := add_deep h; exact ih _ _ hm
   ·split at h
    ·obtain ⟨m, hm, rfl⟩ := add_deep h; exact ih _ _ hm
    ·split at h
     ·cases h
     ·obtain ⟨m, hm, rfl⟩ := add_deep h; exact ih _ _ hm
theorem within_dl {pf : List UInt8 → Rs} (hpf : ∀ t n, pf t = .deep n → n ≤ t.length) (e : UInt8) (plain : List UInt8) : ∀ (L : Nat) (t : List UInt8) (o n : Nat), t.length = L → withinR pf e plain o t = .deep n → n ≤ t.length := by
 intro L
 induction L using Nat.strongRecOn with
 | ind L ih =>
  intro t o n hL h
  match t, hL with
  | [], _ => rw [within_nil] at h; cases h
  | c :: r, hL =>
   rw [List.length_cons] at hL ⊢
   rw [within_cons] at h
   split at h
   ·split at h
    ·cases h
    ·obtain ⟨m, hm, rfl⟩ := add_deep h
     have := ih r.length (by omega) r _ _ rfl hm; omega
   ·split at h
    ·obtain ⟨m, hm, rfl⟩ := add_deep h
     have := ih r.length (by omega) r _ _ rfl hm; omega
    ·split at h
     ·obtain ⟨m, hm, rfl⟩ := add_deep h
      have := ih r.length (by omega) r _ _ rfl hm; omega
     ·split at h
      ·cases h
      ·rename_i a ha
       injection h with h
       subst h
       have := hpf _ _ ha
       simpa using this
      ·rename_i q hq
       obtain ⟨m, hm, rfl⟩ := add_deep h
       have hd : (r.drop (q - 1)).length = r.length - (q - 1) := List.length_drop ..
       have := ih (r.drop (q - 1)).length (by omega) _ _ _ rfl hm
       by_cases hqq : q - 1 ≤ r.length
       ·omega
       ·exfalso
        have h0 : r.drop (q - 1) = [] := List.drop_eq_nil_of_le (by omega)
        rw [h0, within_nil] at hm
        cases hm
theorem part_dl : ∀ (lv : Nat) (q : Bool) (t : List UInt8) (n : Nat), partR lv q t = .deep n → n ≤ t.length := by
 intro lv
 induction lv with
 | zero =>
  intro q t n h
  unfold partR at h
  split at h
  ·injection h with h; omega
  ·cases h
 | succ lv ih =>
  intro q t n h
  unfold partR at h
  have hw := fun q e p => within_dl (ih q) e p
  split at h
  ·split at h
   ·split at h <;> cases h
   ·split at h
    ·obtain ⟨m, hm, rfl⟩ := add_deep h
     exact absurd hm (until_nd _ _ _ _)
    ·split at h
     ·obtain ⟨m, hm, rfl⟩ := add_deep h
      exact absurd hm (until_nd _ _ _ _)
     ·split at h
      ·rename_i h9
       have h8 := Lx.take_len h9
       obtain ⟨m, hm, rfl⟩ := add_deep h
       have := hw _ _ _ _ _ _ _ rfl hm
       rw [List.length_drop] at this
       simp at h8; omega
      ·split at h
       ·obtain ⟨m, hm, rfl⟩ := add_deep h
        exact absurd hm (sums_nd _ _ _)
       ·split at h
        ·rename_i h9
         have h8 := Lx.take_len h9
         obtain ⟨m, hm, rfl⟩ := add_deep h
         have := hw _ _ _ _ _ _ _ rfl hm
         rw [List.length_drop] at this
         simp at h8; omega
        ·rename_i b1 b2 b3 b4 b5 b6 b7
         have h8 : 2 ≤ t.length := by
          unfold begs at b1
          simp only [Bool.or_eq_true, decide_eq_true_eq, Bool.and_eq_true] at b1
          rcases b1 with (((b1 | b1) | b1) | b1) | ⟨_, b1 | b1⟩
          ·exact (b2 b1).elim
          ·exact (b3 b1).elim
          ·exact (b7 b1).elim
          ·have := Lx.take_len b1; simpa using this
          ·exact (b4 b1).elim
          ·exact (b5 b1).elim
         split at h
         ·obtain ⟨m, hm, rfl⟩ := add_deep h
          have := hw _ _ _ _ _ _ _ rfl hm
          rw [List.length_drop] at this
          omega
         ·obtain ⟨m, hm, rfl⟩ := add_deep h
          have := hw _ _ _ _ _ _ _ rfl hm
          rw [List.length_drop] at this
          omega
  ·cases h
theorem word_dl : ∀ (L : Nat) (t : List UInt8) (n : Nat), t.length = L → wordR t = .deep n → n ≤ t.length := by
 intro L
 induction L using Nat.strongRecOn with
 | ind L ih =>
  intro t n hL h
  match t, hL with
  | [], _ => rw [word_nil] at h; cases h
  | c :: r, hL =>
   rw [List.length_cons] at hL ⊢
   rw [word_cons] at h
   split at h
   ·cases h
   ·split at h
    ·cases h
    ·rename_i a ha
     injection h with h
     subst h
     have := part_dl _ _ _ _ ha
     simpa using this
    ·rename_i q hq
     obtain ⟨m, hm, rfl⟩ := add_deep h
     have hd : (r.drop (q - 1)).length = r.length - (q - 1) := List.length_drop ..
     have := ih (r.drop (q - 1)).length (by omega) _ _ rfl hm
     by_cases hqq : q - 1 ≤ r.length
     ·omega
     ·exfalso
      have h0 : r.drop (q - 1) = [] := List.drop_eq_nil_of_le (by omega)
      rw [h0, word_nil] at hm
      cases hm
theorem next_w {l : List UInt8} {i k : Nat} {s : List UInt8} (hl : l.length ≤ 4096) (hi : i < l.length) (hb : blankF (l.drop i) = 0) (h : nextF (l.drop i) = .tok k s) : TokW l.length ⟨k, s, i⟩ := by
 have h0 := drop_ne hi
 have hp := next_pos h0 hb h
 have hlen : s.length ≤ 4096 := by have := hp.2; rw [List.length_drop] at this; omega
 have h' := h
 unfold nextF at h
 rcases signF_mem (l.drop i) with hs | ⟨hs, ht⟩
 ·rw [if_neg (fun e => e hs)] at h
  cases hw : wordR (l.drop i) with
  | more => rw [hw] at h; cases h
  | deep a => rw [hw] at h; cases h
  | ok n =>
   rw [hw] at h
   injection h with hk h
   have hn1 : 1 ≤ n := by
    have h1 := hp.1
    rw [← h, List.length_take] at h1
    omega
   obtain ⟨c, r, hcr⟩ : ∃ c r, l.drop i = c :: r := by
    cases hd : l.drop i with
    | nil => exact absurd hd h0
    | cons c r => exact ⟨c, r, rfl⟩
   obtain ⟨n, rfl⟩ : ∃ m, n = m + 1 := ⟨n - 1, by omega⟩
   have hsc : s = c :: r.take n := by rw [← h, hcr]; rfl
   have hst : isIn stopB c = false := by
    cases hst : isIn stopB c with
    | false => rfl
    | true =>
     exfalso
     rw [hcr, word_cons, if_pos hst] at hw
     injection hw with hw
     omega
   refine ⟨hlen, fun e => ?_, fun _ => ⟨c, _, hsc, hst⟩, fun e => ?_, ?_, Nat.le_of_lt hi⟩
   ·simp only [] at e
    rw [e] at hk
    split at hk
    ·rename_i hio
     unfold ioB at hio
     have hio := of_decide_eq_true hio
     refine ⟨c, ?_, ?_, ?_⟩
     ·show s = [c]
      rw [hsc]
      have : n = 0 := by omega
      subst this
      rfl
     ·have := hio.2.1; rw [hcr] at this; exact this
     ·have := hio.2.2.1; rw [hcr] at this; exact this
    ·cases hk
   ·simp only [] at e
    rw [e] at hk
    split at hk <;> cases hk
   ·simp only []
    split at hk
    ·exact .inr (.inr hk.symm)
    ·exact .inl hk.symm
 ·have h1 := (sgs_len _ hs).1
  have hne : signF (l.drop i) ≠ [] := by intro e; rw [e] at h1; exact absurd h1 (by decide)
  rw [if_pos hne] at h
  injection h with hk h
  refine ⟨hlen, fun e => ?_, fun e => ?_, fun _ => ?_, .inr (.inl hk.symm), Nat.le_of_lt hi⟩
  ·simp only [] at e; omega
  ·simp only [] at e; omega
  ·show s ∈ sgs
   rw [← h]
   exact hs
theorem go_w {l : List UInt8} (hl : l.length ≤ 4096) : ∀ (f i : Nat) (acc : List Tok), i ≤ l.length → blankF (l.drop i) = 0 → acc.length ≤ 400 → (∀ t ∈ acc, TokW l.length t) →
  (∀ out, allGo l f i acc = .ok out → (∀ t ∈ out, TokW l.length t) ∧ out.length ≤ 400) ∧ (∀ a e, allGo l f i acc = .err a e → e ≠ 0 ∧ 0 ≤ a ∧ a ≤ l.length) := by
 intro f
 induction f with
 | zero =>
  intro i acc hi hb h4 ha
  refine ⟨fun out h => ?_, fun a e h => (by cases h)⟩
  injection h with h
  subst h
  exact ⟨ha, h4⟩
 | succ f ih =>
  intro i acc hi hb h4 ha
  rw [allGo]
  by_cases hlt : i < l.length
  ·rw [if_pos hlt]
   by_cases h40 : acc.length = 400
   ·rw [if_pos h40]
    refine ⟨fun out h => (by cases h), fun a e h => ?_⟩
    injection h with h1 h2
    subst h1 h2
    exact ⟨by decide, by omega, by omega⟩
   ·rw [if_neg h40]
    cases hn : nextF (l.drop i) with
    | more =>
     refine ⟨fun out h => (by cases h), fun a e h => ?_⟩
     injection h with h1 h2
     subst h1 h2
     exact ⟨by decide, by omega, by omega⟩
    | deep d =>
     refine ⟨fun out h => (by cases h), fun a e h => ?_⟩
     injection h with h1 h2
     subst h1 h2
     have hd : d ≤ (l.drop i).length := by
      unfold nextF at hn
      split at hn
      ·cases hn
      ·split at hn
       ·cases hn
       ·cases hn
       ·rename_i a ha
        injection hn with hn
        subst hn
        exact word_dl _ _ _ rfl ha
     rw [List.length_drop] at hd
     exact ⟨by decide, by omega, by omega⟩
    | tok k s =>
     have hp := next_pos (drop_ne hlt) hb hn
     rw [List.length_drop] at hp
     have hbl := blank_le _ (l.drop (i + s.length)) rfl
     have hbi := blank_idem _ (l.drop (i + s.length)) rfl
     rw [List.drop_drop] at hbi
     rw [List.length_drop] at hbl
     refine ih _ _ (by omega) hbi (by rw [List.length_append, List.length_singleton]; omega) fun t ht => ?_
     rw [List.mem_append, List.mem_singleton] at ht
     rcases ht with ht | rfl
     ·exact ha t ht
     ·exact next_w hl hlt hb hn
  ·rw [if_neg hlt]
   refine ⟨fun out h => ?_, fun a e h => (by cases h)⟩
   injection h with h
   subst h
   exact ⟨ha, h4⟩
/-- The tokens of a text. -/
theorem all_w {l : List UInt8} {ts : List Tok} (h : allF l = .ok ts) : l.length ≤ 4096 ∧ ∃ out, ts = out ++ [⟨4, [], l.length⟩] ∧ (∀ t ∈ out, TokW l.length t) ∧ out.length ≤ 400 := by
 unfold allF at h
 split at h
 ·cases h
 ·rename_i hl
  have hl' : l.length ≤ 4096 := by omega
  have hb := blank_le _ l rfl
  have hbi := blank_idem _ l rfl
  have hg := go_w hl' (l.length + 1) (blankF l) [] hb hbi (by simp) (fun t ht => by cases ht)
  cases ha : allGo l (l.length + 1) (blankF l) [] with
  | err a e => rw [ha] at h; cases h
  | ok out =>
   rw [ha] at h
   injection h with h
   exact ⟨hl', out, h.symm, hg.1 out ha⟩
theorem all_e {l : List UInt8} {a e : Int} (h : allF l = .err a e) : e ≠ 0 ∧ 0 ≤ a ∧ a ≤ l.length := by
 unfold allF at h
 split at h
 ·injection h with h1 h2
  subst h1 h2
  exact ⟨by decide, by omega, by omega⟩
 ·rename_i hl
  have hl' : l.length ≤ 4096 := by omega
  have hb := blank_le _ l rfl
  have hbi := blank_idem _ l rfl
  have hg := go_w hl' (l.length + 1) (blankF l) [] hb hbi (by simp) (fun t ht => by cases ht)
  cases ha : allGo l (l.length + 1) (blankF l) [] with
  | ok out => rw [ha] at h; cases h
  | err a' e' =>
   rw [ha] at h
   injection h with h1 h2
   subst h1 h2
   exact hg.2 _ _ ha
/-- Tokens as a parse meets them: they end with the end, all others are words, signs or numbers. -/
structure Toks (L : Nat) (ts : List Tok) : Prop where
 good : Good ts
 len : ts.length ≤ 401
 w : ∀ t ∈ ts, t.k = 4 ∧ t.t = [] ∧ t.a ≤ L ∨ TokW L t
theorem all_toks {l : List UInt8} {ts : List Tok} (h : allF l = .ok ts) : l.length ≤ 4096 ∧ Toks l.length ts := by
 obtain ⟨h1, out, rfl, h2, h3⟩ := all_w h
 refine ⟨h1, ⟨out, _, rfl, rfl, fun t ht e => ?_⟩, by rw [List.length_append, List.length_singleton]; omega, fun t ht => ?_⟩
 ·have := (h2 t ht).kk; omega
 ·rw [List.mem_append, List.mem_singleton] at ht
  rcases ht with ht | rfl
  ·exact .inr (h2 t ht)
  ·exact .inl ⟨rfl, rfl, Nat.le_refl _⟩
end Go.Proofs.Ytgpfjcogaheopaa
