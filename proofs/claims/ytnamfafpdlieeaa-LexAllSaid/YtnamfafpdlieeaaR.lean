/- Plain law: tokens stand in the text, in order; where a text is wrong stands in it. -/
import Derived.Test.YtnamfafpdlieeaaQ
set_option linter.all false
namespace Go.Proofs.Ytnamfafpdlieeaa
open Go.RowKit
set_option maxRecDepth 100000

theorem Rs.add_deep {r : Rs} {k a : Nat} (h : r.add k = .deep a) : ∃ m, r = .deep m ∧ a = k + m := by
  cases r with
  | ok n => cases h
  | more => cases h
  | deep m => injection h with h; exact ⟨m, rfl, h.symm⟩
theorem until_deep (c : UInt8) (esc : Bool) : ∀ (t : List UInt8) (n : Nat), untilR c esc t ≠ .deep n
  | [], n, h => by cases h
  | [b], n, h => by
    unfold untilR at h
    split at h
    · cases h
    · split at h <;> cases h
  | b :: d :: r, n, h => by
    unfold untilR at h
    split at h
    · obtain ⟨m, hm, _⟩ := Rs.add_deep h
      exact until_deep c esc r m hm
    · split at h
      · cases h
      · obtain ⟨m, hm, _⟩ := Rs.add_deep h
        exact until_deep c esc (d :: r) m hm
theorem sums_deep : ∀ (t : List UInt8) (o n : Nat), sumsR o t ≠ .deep n := by
  intro t
  induction t with
  | nil => intro o n h; cases o <;> cases h
  | cons b r ih =>
    intro o n h
    have hu : sumsR o (b :: r) = if b = 40 then (sumsR (o + 1) r).add 1 else if b ≠ 41 then (sumsR o r).add 1 else if 0 < o then (sumsR (o - 1) r).add 1 else if r.take 1 = [41] then .ok 2 else (sumsR o r).add 1 := by cases o <;> rfl
    rw [hu] at h
    split at h
    · obtain ⟨m, hm, _⟩ := Rs.add_deep h
      exact ih _ _ hm
    · split at h
      · obtain ⟨m, hm, _⟩ := Rs.add_deep h
        exact ih _ _ hm
      · split at h
        · obtain ⟨m, hm, _⟩ := Rs.add_deep h
          exact ih _ _ hm
        · split at h
          · cases h
          · obtain ⟨m, hm, _⟩ := Rs.add_deep h
            exact ih _ _ hm
theorem within_deep {pf : List UInt8 → Rs} (hpf : ∀ t n, pf t = .deep n → n < t.length) (e : UInt8) (plain : List UInt8) : ∀ (L : Nat) (t : List UInt8) (o n : Nat), t.length = L → withinR pf e plain o t = .deep n → n < t.length := by
  intro L
  induction L using Nat.strongRecOn with
  | ind L ih =>
    intro t o n hL h
    match t, hL, h with
    | [], _, h => rw [within_nil] at h; cases h
    | c :: r, hL, h =>
      rw [List.length_cons] at hL ⊢
      rw [within_cons] at h
      split at h
      · split at h
        · cases h
        · obtain ⟨m, hm, rfl⟩ := Rs.add_deep h
          have := ih _ (by omega) r _ _ rfl hm; omega
      · split at h
        · obtain ⟨m, hm, rfl⟩ := Rs.add_deep h
          have := ih _ (by omega) r _ _ rfl hm; omega
        · split at h
          · obtain ⟨m, hm, rfl⟩ := Rs.add_deep h
            have := ih _ (by omega) r _ _ rfl hm; omega
          · cases hp : pf (c :: r) with
            | more => rw [hp] at h; cases h
            | deep a =>
              rw [hp] at h
              injection h with h
              subst h
              have h1 := hpf _ _ hp
              rw [List.length_cons] at h1
              exact h1
            | ok q =>
              rw [hp] at h
              obtain ⟨m, hm, rfl⟩ := Rs.add_deep h
              have := ih _ (by rw [List.length_drop]; omega) (r.drop (q - 1)) _ _ rfl hm
              rw [List.length_drop] at this
              omega
theorem part_deep : ∀ (lv : Nat) (q : Bool) (t : List UInt8) (n : Nat), partR lv q t = .deep n → n < t.length := by
  intro lv
  induction lv with
  | zero =>
    intro q t n h
    unfold partR at h
    split at h
    · rename_i hb
      injection h with h
      subst h
      cases t with
      | nil => cases q <;> cases hb
      | cons c r => simp
    · cases h
  | succ lv ih =>
    intro q t n h
    unfold partR at h
    have hw := fun q e p => within_deep (ih q) e p
    split at h
    · split at h
      · split at h <;> cases h
      · split at h
        · obtain ⟨m, hm, _⟩ := Rs.add_deep h
          exact absurd hm (until_deep _ _ _ _)
        · split at h
          · obtain ⟨m, hm, _⟩ := Rs.add_deep h
            exact absurd hm (until_deep _ _ _ _)
          · split at h
            · obtain ⟨m, hm, rfl⟩ := Rs.add_deep h
              have := hw _ _ _ _ _ _ _ rfl hm
              rw [List.length_drop] at this
              omega
            · split at h
              · obtain ⟨m, hm, _⟩ := Rs.add_deep h
                exact absurd hm (sums_deep _ _ _)
              · split at h
                · obtain ⟨m, hm, rfl⟩ := Rs.add_deep h
                  have := hw _ _ _ _ _ _ _ rfl hm
                  rw [List.length_drop] at this
                  omega
                · split at h
                  · obtain ⟨m, hm, rfl⟩ := Rs.add_deep h
                    have := hw _ _ _ _ _ _ _ rfl hm
                    rw [List.length_drop] at this
                    omega
                  · obtain ⟨m, hm, rfl⟩ := Rs.add_deep h
                    have := hw _ _ _ _ _ _ _ rfl hm
                    rw [List.length_drop] at this
                    omega
    · cases h
theorem word_deep : ∀ (L : Nat) (t : List UInt8) (n : Nat), t.length = L → wordR t = .deep n → n < t.length := by
  intro L
  induction L using Nat.strongRecOn with
  | ind L ih =>
    intro t n hL h
    match t, hL, h with
    | [], _, h => rw [word_nil] at h; cases h
    | c :: r, hL, h =>
      rw [List.length_cons] at hL ⊢
      rw [word_cons] at h
      split at h
      · cases h
      · cases hp : partR 25 false (c :: r) with
        | more => rw [hp] at h; cases h
        | deep a =>
          rw [hp] at h
          injection h with h
          subst h
          have h1 := part_deep _ _ _ _ hp
          rw [List.length_cons] at h1
          exact h1
        | ok q =>
          rw [hp] at h
          obtain ⟨m, hm, rfl⟩ := Rs.add_deep h
          have := ih _ (by rw [List.length_drop]; omega) (r.drop (q - 1)) _ rfl hm
          rw [List.length_drop] at this
          omega
theorem next_deep {t : List UInt8} {a : Nat} (h : nextF t = .deep a) : a < t.length := by
  unfold nextF at h
  split at h
  · cases h
  · cases hw : wordR t with
    | more => rw [hw] at h; cases h
    | ok n => rw [hw] at h; cases h
    | deep b =>
      rw [hw] at h
      injection h with h
      subst h
      exact word_deep _ t b rfl hw
theorem next_take {t : List UInt8} {k : Nat} {s : List UInt8} (h : nextF t = .tok k s) : t.take s.length = s ∧ s.length ≤ t.length ∧ k ≠ 4 := by
  unfold nextF at h
  split at h
  · rename_i hs
    injection h with h1 h2
    rcases signF_mem t with h3 | ⟨_, h4⟩
    · exact absurd h3 hs
    · rw [h2] at h4
      have := congrArg List.length h4
      rw [List.length_take] at this
      exact ⟨h4, by omega, by omega⟩
  · cases hw : wordR t with
    | more => rw [hw] at h; cases h
    | deep b => rw [hw] at h; cases h
    | ok n =>
      rw [hw] at h
      have hn := word_le _ t n rfl hw
      injection h with h1 h2
      have hl := congrArg List.length h2
      rw [List.length_take] at hl
      have hl2 : s.length = n := by omega
      refine ⟨by rw [hl2]; exact h2, by omega, ?_⟩
      rw [← h1]
      split <;> decide
/-- Each token stands behind what ended ahead of it. -/
def standsL (l : List UInt8) : Nat → List Tok → Prop
  | _, [] => True
  | e, x :: r => x.a = e + blankF (l.drop e) ∧ x.a + x.t.length ≤ l.length ∧ (l.drop x.a).take x.t.length = x.t ∧ (x.k = 4 ↔ r = []) ∧ (x.k = 4 → x.t = [] ∧ x.a = l.length) ∧ standsL l (x.a + x.t.length) r
theorem go_stands (l : List UInt8) : ∀ (f e i : Nat) (acc out : List Tok), l.length < i + f → i = e + blankF (l.drop e) → e ≤ l.length → allGo l f i acc = .ok out → ∃ rest, out = acc ++ rest ∧ standsL l e (rest ++ [⟨4, [], l.length⟩]) := by
  intro f
  induction f with
  | zero =>
    intro e i acc out hf hi he h
    exfalso
    have := blank_le _ (l.drop e) rfl
    rw [List.length_drop] at this
    omega
  | succ f ih =>
    intro e i acc out hf hi he h
    have hb := blank_le _ (l.drop e) rfl
    rw [List.length_drop] at hb
    rw [allGo_step] at h
    split at h
    · rename_i hlt
      split at h
      · cases h
      · have hid : blankF (l.drop i) = 0 := by
          have := blank_idem _ (l.drop e) rfl
          rw [List.drop_drop, ← hi] at this
          exact this
        cases hn : nextF (l.drop i) with
        | more => rw [hn] at h; cases h
        | deep a => rw [hn] at h; cases h
        | tok k s =>
          rw [hn] at h
          have hne : l.drop i ≠ [] := fun hh => by
            have := congrArg List.length hh
            rw [List.length_drop] at this
            simp at this
            omega
          obtain ⟨hp, _⟩ := next_pos hne hid hn
          obtain ⟨ht, hl, hk⟩ := next_take hn
          rw [List.length_drop] at hl
          obtain ⟨rest, hr, hst⟩ := ih (i + s.length) _ _ _ (by omega) rfl (by omega) h
          refine ⟨⟨k, s, i⟩ :: rest, by rw [hr, List.append_assoc]; rfl, hi, by show i + s.length ≤ _; omega, ht, ?_, fun hk4 => absurd hk4 hk, hst⟩
          exact ⟨fun hk4 => absurd hk4 hk, fun hh => by
            have := congrArg List.length hh
            simp at this⟩
    · rename_i hge
      injection h with h
      have hi2 : i = l.length := by omega
      refine ⟨[], by rw [← h, List.append_nil], ?_⟩
      exact ⟨by show l.length = _; omega, by show l.length + 0 ≤ _; omega, rfl, ⟨fun _ => rfl, fun _ => rfl⟩, fun _ => ⟨rfl, rfl⟩, trivial⟩
theorem go_err (l : List UInt8) : ∀ (f i : Nat) (acc : List Tok) (a k : Int), i ≤ l.length → allGo l f i acc = .err a k → k ≠ 0 ∧ 0 ≤ a ∧ a ≤ l.length := by
  intro f
  induction f with
  | zero => intro i acc a k _ h; cases h
  | succ f ih =>
    intro i acc a k hi h
    rw [allGo_step] at h
    split at h
    · split at h
      · injection h with h1 h2
        exact ⟨by omega, by omega, by omega⟩
      · cases hn : nextF (l.drop i) with
        | more =>
          rw [hn] at h
          injection h with h1 h2
          exact ⟨by omega, by omega, by omega⟩
        | deep b =>
          rw [hn] at h
          have := next_deep hn
          rw [List.length_drop] at this
          injection h with h1 h2
          exact ⟨by omega, by omega, by omega⟩
        | tok k2 s =>
          rw [hn] at h
          have h3 := (next_take hn).2.1
          rw [List.length_drop] at h3
          have h4 := blank_le _ (l.drop (i + s.length)) rfl
          rw [List.length_drop] at h4
          exact ih _ _ _ _ (by omega) h
    · cases h
theorem all_err {l : List UInt8} {a k : Int} (h : allF l = .err a k) : k ≠ 0 ∧ 0 ≤ a ∧ a ≤ l.length := by
  by_cases hl : 4096 < l.length
  · unfold allF at h
    rw [if_pos hl] at h
    injection h with h1 h2
    exact ⟨by omega, by omega, by omega⟩
  · rw [allF_fin l hl] at h
    cases hg : allGo l (l.length + 1) (blankF l) [] with
    | ok acc => rw [hg] at h; cases h
    | err a' k' =>
      rw [hg] at h
      injection h with h1 h2
      subst h1; subst h2
      exact go_err l _ _ _ _ _ (by have := blank_le _ l rfl; omega) hg
theorem all_stands {l : List UInt8} {T : List Tok} (h : allF l = .ok T) : standsL l 0 T ∧ 0 < T.length ∧ l.length ≤ 4096 := by
  by_cases hl : 4096 < l.length
  · unfold allF at h
    rw [if_pos hl] at h
    cases h
  · rw [allF_fin l hl] at h
    cases hg : allGo l (l.length + 1) (blankF l) [] with
    | err a' k' => rw [hg] at h; cases h
    | ok acc =>
      rw [hg] at h
      injection h with h
      obtain ⟨rest, hr, hst⟩ := go_stands l _ 0 _ _ _ (by omega) (by rw [List.drop_zero, Nat.zero_add]) (Nat.zero_le _) hg
      rw [List.nil_append] at hr
      subst hr
      subst h
      exact ⟨hst, by simp, by omega⟩
/-- What a blank's first byte is. -/
theorem blank_first {l : List UInt8} {k A : Nat} (hk : k < A) (h : k + blankF (l.drop k) = A) : ∃ h : k < l.length, A ≤ l.length ∧
    (((l[k] = 32 ∨ l[k] = 9) ∧ k + 1 + blankF (l.drop (k + 1)) = A) ∨
    (l[k] = 92 ∧ k + 1 < A ∧ (∃ h2 : k + 1 < l.length, l[k + 1] = 10) ∧ k + 2 + blankF (l.drop (k + 2)) = A) ∨
    (l[k] = 35 ∧ k + ((l.drop k).takeWhile (· != 10)).length = A ∧ blankF (l.drop A) = 0)) := by
  have hle := blank_le _ (l.drop k) rfl
  rw [List.length_drop] at hle
  have hlt : k < l.length := by omega
  refine ⟨hlt, by omega, ?_⟩
  have hid := blank_idem _ (l.drop k) rfl
  rw [List.drop_drop, h] at hid
  rw [drop_at hlt, blank_cons] at h
  split at h
  · rename_i hc
    exact .inl ⟨hc, by omega⟩
  · split at h
    · rename_i h2
      have h3 := take_len h2
      simp at h3
      have h4 : k + 1 < l.length := by omega
      rw [drop_at h4] at h2 h
      injection h2 with e1 e2
      injection e2 with e2 _
      rw [List.drop_succ_cons, List.drop_zero] at h
      exact .inr (.inl ⟨e1, by omega, ⟨h4, e2⟩, by rw [show k + 1 + 1 = k + 2 from rfl] at h; omega⟩)
    · split at h
      · rename_i hc
        rw [← drop_at hlt] at h
        exact .inr (.inr ⟨hc, h, hid⟩)
      · omega
/-- A comment's next byte. -/
theorem note_next {l : List UInt8} {k A : Nat} (h : k + ((l.drop k).takeWhile (· != 10)).length = A) (hk : k < A) : ∃ h : k < l.length, l[k] ≠ 10 ∧ k + 1 + ((l.drop (k + 1)).takeWhile (· != 10)).length = A := by
  have hlt : k < l.length := by
    by_cases hh : k < l.length
    · exact hh
    · rw [List.drop_eq_nil_of_le (by omega)] at h
      simp at h
      omega
  refine ⟨hlt, ?_⟩
  rw [drop_at hlt, List.takeWhile_cons] at h
  split at h
  · rename_i hc
    rw [List.length_cons] at h
    refine ⟨fun e => ?_, by omega⟩
    rw [e] at hc
    cases hc
  · simp at h
    omega

end Go.Proofs.Ytnamfafpdlieeaa
