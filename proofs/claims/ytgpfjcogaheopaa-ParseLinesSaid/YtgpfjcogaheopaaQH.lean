/- Two texts with a line feed between: their tokens, with a line feed between. -/
import Derived.Test.YtgpfjcogaheopaaQA
namespace Go.Proofs.Ytgpfjcogaheopaa
open Lx
set_option maxRecDepth 100000

/-- The last byte is no backslash. -/
def Nb (t : List UInt8) : Prop := t.getLast? ≠ some 92
theorem Nb.tail {c : UInt8} {r : List UInt8} (h : Nb (c :: r)) : Nb r := by
  cases r with
  | nil => unfold Nb; simp
  | cons d r => unfold Nb at h ⊢; simpa [List.getLast?_cons_cons] using h
theorem Nb.drop {t : List UInt8} (h : Nb t) : ∀ n, Nb (t.drop n) := by
  intro n
  induction n generalizing t with
  | zero => exact h
  | succ n ih =>
    cases t with
    | nil => simpa using h
    | cons c r => rw [List.drop_succ_cons]; exact ih h.tail
theorem while_app (b : List UInt8) : ∀ t : List UInt8, ((t ++ 10 :: b).takeWhile (· != 10)).length = (t.takeWhile (· != 10)).length
  | [] => rfl
  | c :: r => by
    rw [List.cons_append, List.takeWhile_cons, List.takeWhile_cons]
    split
    · simp only [List.length_cons, while_app b r]
    · rfl
theorem blank_app (b : List UInt8) : ∀ (L : Nat) (t : List UInt8), t.length = L → Nb t → blankF (t ++ 10 :: b) = blankF t := by
  intro L
  induction L using Nat.strongRecOn with
  | ind L ih =>
    intro t hL hn
    match t, hL, hn with
    | [], _, _ => rw [blank_nil, List.nil_append]; exact blank_lf rfl
    | c :: r, hL, hn =>
      rw [List.length_cons] at hL
      rw [List.cons_append, blank_cons, blank_cons]
      by_cases h1 : c = 32 ∨ c = 9
      · rw [if_pos h1, if_pos h1, ih _ (by omega) r rfl hn.tail]
      · rw [if_neg h1, if_neg h1]
        match r, hL, hn with
        | [], _, hn =>
          have hc : c ≠ 92 := by intro e; apply hn; rw [e]; rfl
          have e1 : ¬ (c :: ([] ++ 10 :: b)).take 2 = [92, 10] := by simp [hc]
          have e2 : ¬ ([c] : List UInt8).take 2 = [92, 10] := by simp
          rw [if_neg e1, if_neg e2]
          split
          · exact while_app b [c]
          · rfl
        | d :: r, hL, hn =>
          simp only [List.length_cons] at hL
          by_cases h2 : c = 92 ∧ d = 10
          · rw [if_pos (by simp [h2]), if_pos (by simp [h2])]
            show 2 + blankF (r ++ 10 :: b) = 2 + blankF r
            rw [ih _ (by omega) r rfl hn.tail.tail]
          · have e1 : ¬ (c :: (d :: r ++ 10 :: b)).take 2 = [92, 10] := by simpa using h2
            have e2 : ¬ (c :: d :: r).take 2 = [92, 10] := by simpa using h2
            rw [if_neg e1, if_neg e2]
            split
            · exact while_app b (c :: d :: r)
            · rfl
theorem until_app (u : List UInt8) (c : UInt8) (esc : Bool) : ∀ (L : Nat) (t : List UInt8) (n : Nat), t.length = L → untilR c esc t = .ok n → untilR c esc (t ++ u) = .ok n := by
  intro L
  induction L using Nat.strongRecOn with
  | ind L ih =>
    intro t n hL h
    match t, hL, h with
    | [], _, h => cases h
    | b :: r, hL, h =>
      rw [List.length_cons] at hL
      rw [List.cons_append]
      by_cases he : esc = true ∧ b = 92
      · rw [until_esc he] at h ⊢
        obtain ⟨m, hm, rfl⟩ := Rs.add_ok h
        match r, hL, hm with
        | [], _, hm => cases hm
        | d :: r, hL, hm =>
          simp only [List.length_cons] at hL
          have := ih _ (by omega) r m rfl hm
          show (untilR c esc (r ++ u)).add 2 = _
          rw [this]
          rfl
      · by_cases hb : b = c
        · rw [until_hit he hb] at h ⊢; exact h
        · rw [until_no he hb] at h ⊢
          obtain ⟨m, hm, rfl⟩ := Rs.add_ok h
          rw [ih _ (by omega) r m rfl hm]
          rfl
theorem sums_cons (o : Nat) (b : UInt8) (r : List UInt8) : sumsR o (b :: r) = if b = 40 then (sumsR (o + 1) r).add 1 else if b ≠ 41 then (sumsR o r).add 1 else if 0 < o then (sumsR (o - 1) r).add 1 else if r.take 1 = [41] then .ok 2 else (sumsR o r).add 1 := by cases o <;> rfl
theorem sums_app (u : List UInt8) : ∀ (t : List UInt8) (o n : Nat), sumsR o t = .ok n → sumsR o (t ++ u) = .ok n := by
  intro t
  induction t with
  | nil => intro o n h; cases o <;> cases h
  | cons b r ih =>
    intro o n h
    rw [List.cons_append]
    rw [sums_cons] at h ⊢
    split at h
    · rename_i h1
      rw [if_pos h1]
      obtain ⟨m, hm, rfl⟩ := Rs.add_ok h; rw [ih _ _ hm]; rfl
    · rename_i h1
      rw [if_neg h1]
      split at h
      · rename_i h2
        rw [if_pos h2]
        obtain ⟨m, hm, rfl⟩ := Rs.add_ok h; rw [ih _ _ hm]; rfl
      · rename_i h2
        rw [if_neg h2]
        split at h
        · rename_i h3
          rw [if_pos h3]
          obtain ⟨m, hm, rfl⟩ := Rs.add_ok h; rw [ih _ _ hm]; rfl
        · rename_i h3
          rw [if_neg h3]
          cases r with
          | nil =>
            rw [if_neg (by simp)] at h
            obtain ⟨m, hm, rfl⟩ := Rs.add_ok h
            cases o <;> cases hm
          | cons d r =>
            have e1 : ((d :: r) ++ u).take 1 = (d :: r).take 1 := by simp
            rw [e1]
            split at h
            · rename_i h4; rw [if_pos h4]; exact h
            · rename_i h4; rw [if_neg h4]; obtain ⟨m, hm, rfl⟩ := Rs.add_ok h; rw [ih _ _ hm]; rfl
theorem within_app (u : List UInt8) {pf : List UInt8 → Rs} (hpf : ∀ t n, t ≠ [] → pf t = .ok n → n ≤ t.length ∧ pf (t ++ u) = .ok n) (e : UInt8) (plain : List UInt8) : ∀ (L : Nat) (t : List UInt8) (o n : Nat), t.length = L → withinR pf e plain o t = .ok n → withinR pf e plain o (t ++ u) = .ok n := by
  intro L
  induction L using Nat.strongRecOn with
  | ind L ih =>
    intro t o n hL h
    match t, hL, h with
    | [], _, h => rw [within_nil] at h; cases h
    | c :: r, hL, h =>
      rw [List.length_cons] at hL
      rw [List.cons_append]
      rw [within_cons] at h ⊢
      split at h
      · rename_i h1
        rw [if_pos h1]
        split at h
        · rename_i h2; rw [if_pos h2]; exact h
        · rename_i h2; rw [if_neg h2]; obtain ⟨m, hm, rfl⟩ := Rs.add_ok h; rw [ih _ (by omega) r _ _ rfl hm]; rfl
      · rename_i h1
        rw [if_neg h1]
        split at h
        · rename_i h2; rw [if_pos h2]; obtain ⟨m, hm, rfl⟩ := Rs.add_ok h; rw [ih _ (by omega) r _ _ rfl hm]; rfl
        · rename_i h2
          rw [if_neg h2]
          split at h
          · rename_i h3; rw [if_pos h3]; obtain ⟨m, hm, rfl⟩ := Rs.add_ok h; rw [ih _ (by omega) r _ _ rfl hm]; rfl
          · rename_i h3
            rw [if_neg h3]
            cases hp : pf (c :: r) with
            | more => rw [hp] at h; cases h
            | deep a => rw [hp] at h; cases h
            | ok q =>
              rw [hp] at h
              obtain ⟨h4, h5⟩ := hpf _ _ (by simp) hp
              rw [List.cons_append] at h5
              rw [h5]
              obtain ⟨m, hm, rfl⟩ := Rs.add_ok h
              rw [List.length_cons] at h4
              have := ih _ (by rw [List.length_drop]; omega) (r.drop (q - 1)) _ _ rfl hm
              show (withinR pf e plain o ((r ++ u).drop (q - 1))).add (max q 1) = _
              rw [List.drop_append_of_le_length (by omega), this]
              rfl
theorem take1_app {t u : List UInt8} (h : t ≠ []) : (t ++ u).take 1 = t.take 1 := by cases t with | nil => exact absurd rfl h | cons c r => simp
theorem take2_app {t b : List UInt8} (h : t ≠ []) {x y : UInt8} (hy : y ≠ 10) : (t ++ 10 :: b).take 2 = [x, y] ↔ t.take 2 = [x, y] := by
  match t, h with
  | [c], _ => simp; intro _ e; exact absurd e.symm hy
  | c :: d :: r, _ => simp
theorem take3_app {t b : List UInt8} (h : t ≠ []) {x y z : UInt8} (hy : y ≠ 10) (hz : z ≠ 10) : (t ++ 10 :: b).take 3 = [x, y, z] ↔ t.take 3 = [x, y, z] := by
  match t, h with
  | [c], _ => simp; intro _ e; exact absurd e.symm hy
  | [c, d], _ => simp; intro _ _ e; exact absurd e.symm hz
  | c :: d :: e :: r, _ => simp
theorem begs_app {t b : List UInt8} (h : t ≠ []) (q : Bool) : begs q (t ++ 10 :: b) = begs q t := by
  unfold begs
  rw [take1_app h]
  simp only [take2_app h (x := 36) (y := 40) (by decide), take2_app h (x := 36) (y := 123) (by decide)]
theorem part_app (b : List UInt8) : ∀ (lv : Nat) (q : Bool) (t : List UInt8) (n : Nat), t ≠ [] → partR lv q t = .ok n → partR lv q (t ++ 10 :: b) = .ok n := by
  intro lv
  induction lv with
  | zero =>
    intro q t n h0 h
    unfold partR at h ⊢
    rw [begs_app h0]
    exact h
  | succ lv ih =>
    intro q t n h0 h
    have hw : ∀ q' t n, t ≠ [] → partR lv q' t = .ok n → n ≤ t.length ∧ partR lv q' (t ++ 10 :: b) = .ok n := fun q' t n h1 h2 => ⟨part_le _ _ _ _ h2, ih _ _ _ h1 h2⟩
    have hd : ∀ k, k ≤ t.length → (t ++ 10 :: b).drop k = t.drop k ++ 10 :: b := fun k hk => List.drop_append_of_le_length hk
    have hl1 : 1 ≤ t.length := by cases t with | nil => exact absurd rfl h0 | cons c r => simp
    unfold partR at h ⊢
    rw [begs_app h0]
    split at h
    · rename_i hb
      rw [if_pos hb]
      simp only [take1_app h0, take2_app h0 (x := 36) (y := 40) (by decide), take3_app h0 (x := 36) (y := 40) (z := 40) (by decide) (by decide)]
      split at h
      · rename_i h1
        rw [if_pos h1]
        split at h
        · cases h
        · rename_i h2; rw [if_neg (by rw [List.length_append]; omega)]; exact h
      · rename_i h1
        rw [if_neg h1]
        split at h
        · rename_i h2
          rw [if_pos h2, hd 1 hl1]
          obtain ⟨m, hm, rfl⟩ := Rs.add_ok h; rw [until_app _ _ _ _ _ _ rfl hm]; rfl
        · rename_i h2
          rw [if_neg h2]
          split at h
          · rename_i h3
            rw [if_pos h3, hd 1 hl1]
            obtain ⟨m, hm, rfl⟩ := Rs.add_ok h; rw [until_app _ _ _ _ _ _ rfl hm]; rfl
          · rename_i h3
            rw [if_neg h3]
            split at h
            · rename_i h4
              rw [if_pos h4, hd 1 hl1]
              obtain ⟨m, hm, rfl⟩ := Rs.add_ok h; rw [within_app _ (hw true) _ _ _ _ _ _ rfl hm]; rfl
            · rename_i h4
              rw [if_neg h4]
              split at h
              · rename_i h5
                have := Lx.take_len h5
                rw [if_pos h5, hd 3 this]
                obtain ⟨m, hm, rfl⟩ := Rs.add_ok h; rw [sums_app _ _ _ _ hm]; rfl
              · rename_i h5
                rw [if_neg h5]
                split at h
                · rename_i h6
                  have := Lx.take_len h6
                  rw [if_pos h6, hd 2 this]
                  obtain ⟨m, hm, rfl⟩ := Rs.add_ok h; rw [within_app _ (hw false) _ _ _ _ _ _ rfl hm]; rfl
                · rename_i h6
                  rw [if_neg h6]
                  by_cases hl2 : 2 ≤ t.length
                  · rw [hd 2 hl2]
                    split at h
                    · rename_i h7; rw [if_pos h7]
                      obtain ⟨m, hm, rfl⟩ := Rs.add_ok h; rw [within_app _ (hw true) _ _ _ _ _ _ rfl hm]; rfl
                    · rename_i h7; rw [if_neg h7]
                      obtain ⟨m, hm, rfl⟩ := Rs.add_ok h; rw [within_app _ (hw false) _ _ _ _ _ _ rfl hm]; rfl
                  · have hz : t.drop 2 = [] := List.drop_eq_nil_of_le (by omega)
                    rw [hz] at h
                    split at h <;> (obtain ⟨m, hm, _⟩ := Rs.add_ok h; rw [within_nil] at hm; cases hm)
    · rename_i hb
      rw [if_neg hb]
      exact h
theorem word_app (b : List UInt8) : ∀ (L : Nat) (t : List UInt8) (n : Nat), t.length = L → wordR t = .ok n → wordR (t ++ 10 :: b) = .ok n := by
  intro L
  induction L using Nat.strongRecOn with
  | ind L ih =>
    intro t n hL h
    match t, hL, h with
    | [], _, h =>
      rw [word_nil] at h
      rw [List.nil_append, word_cons, if_pos (by decide)]
      exact h
    | c :: r, hL, h =>
      rw [List.length_cons] at hL
      rw [List.cons_append]
      rw [word_cons] at h ⊢
      split at h
      · rename_i h1; rw [if_pos h1]; exact h
      · rename_i h1
        rw [if_neg h1]
        cases hp : partR 25 false (c :: r) with
        | more => rw [hp] at h; cases h
        | deep a => rw [hp] at h; cases h
        | ok q =>
          rw [hp] at h
          have h1 := part_le _ _ _ _ hp
          have h2 := part_app b _ _ _ _ (by simp) hp
          rw [List.cons_append] at h2
          rw [h2]
          rw [List.length_cons] at h1
          obtain ⟨m, hm, rfl⟩ := Rs.add_ok h
          have := ih _ (by rw [List.length_drop]; omega) (r.drop (q - 1)) _ rfl hm
          show (wordR ((r ++ 10 :: b).drop (q - 1))).add (max q 1) = _
          rw [List.drop_append_of_le_length (by omega), this]
          rfl
theorem sgs_cases : ∀ s ∈ sgs, (∃ x, s = [x]) ∨ ∃ x y, s = [x, y] ∧ y ≠ 10 := by
  intro s hs
  have h2 : ∀ s ∈ sgs, s.getD 1 0 ≠ 10 := by decide
  have h1 := sgs_len s hs
  match s, h1, h2 s hs with
  | [x], _, _ => exact .inl ⟨x, rfl⟩
  | [x, y], _, h => exact .inr ⟨x, y, rfl, h⟩
theorem find_congr {α : Type} {p q : α → Bool} : ∀ {l : List α}, (∀ x ∈ l, p x = q x) → l.find? p = l.find? q
  | [], _ => rfl
  | x :: l, h => by
    rw [List.find?_cons, List.find?_cons, h x (List.mem_cons_self ..), find_congr (l := l) fun y hy => h y (List.mem_cons_of_mem _ hy)]
theorem sign_app {t : List UInt8} (b : List UInt8) (h : t ≠ []) : signF (t ++ 10 :: b) = signF t := by
  unfold signF
  rw [find_congr]
  intro s hs
  unfold hasSign
  rcases sgs_cases s hs with ⟨x, rfl⟩ | ⟨x, y, rfl, hy⟩
  · show decide ((t ++ 10 :: b).take 1 = [x]) = decide (t.take 1 = [x])
    rw [take1_app h]
  · show decide ((t ++ 10 :: b).take 2 = [x, y]) = decide (t.take 2 = [x, y])
    simp only [take2_app h hy]
theorem io_app {t : List UInt8} (b : List UInt8) (h : t ≠ []) (n : Nat) : ioB (t ++ 10 :: b) n = ioB t n := by
  unfold ioB
  match t, h with
  | [c], _ => simp
  | c :: d :: r, _ => simp
theorem next_app {t : List UInt8} (b : List UInt8) (h : t ≠ []) {k : Nat} {s : List UInt8} (hn : nextF t = .tok k s) : nextF (t ++ 10 :: b) = .tok k s := by
  unfold nextF at hn ⊢
  rw [sign_app b h]
  split at hn
  · rename_i h1; rw [if_pos h1]; exact hn
  · rename_i h1
    rw [if_neg h1]
    cases hw : wordR t with
    | more => rw [hw] at hn; cases hn
    | deep a => rw [hw] at hn; cases hn
    | ok n =>
      rw [hw] at hn
      have h2 := word_le _ t n rfl hw
      rw [word_app b _ t n rfl hw]
      simp only [] at hn ⊢
      rw [io_app b h, List.take_append_of_le_length h2]
      exact hn
theorem next_lf (b : List UInt8) : nextF (10 :: b) = .tok 2 [10] := by
  have hs : signF (10 :: b) = [10] := by
    unfold signF sgs
    simp [List.find?_cons, hasSign]
  unfold nextF
  rw [hs, if_pos (by decide)]

/-! ### all tokens -/
theorem go_a {a b : List UInt8} (hb : Nb a) (F : Nat) : ∀ (f i : Nat) (acc acc1 : List Tok) (f' : Nat), i ≤ a.length → a.length - i < f → a.length - i + F ≤ f' → blankF (a.drop i) = 0 → allGo a f i acc = .ok acc1 →
    ∃ g, F ≤ g ∧ allGo (a ++ 10 :: b) f' i acc = allGo (a ++ 10 :: b) g a.length acc1 := by
  intro f
  induction f with
  | zero => intro i acc acc1 f' _ h; omega
  | succ f ih =>
    intro i acc acc1 f' hi hf hf' hbl h
    rw [allGo] at h
    by_cases hlt : i < a.length
    · rw [if_pos hlt] at h
      obtain ⟨g, rfl⟩ : ∃ g, f' = g + 1 := ⟨f' - 1, by omega⟩
      rw [allGo, if_pos (by rw [List.length_append]; omega)]
      by_cases hc : acc.length = 400
      · rw [if_pos hc] at h; cases h
      · rw [if_neg hc] at h ⊢
        cases hn : nextF (a.drop i) with
        | more => rw [hn] at h; cases h
        | deep m => rw [hn] at h; cases h
        | tok k s =>
          rw [hn] at h
          simp only [] at h
          have hp := next_pos (drop_ne hlt) hbl hn
          rw [List.length_drop] at hp
          have hbe := blank_le _ (a.drop (i + s.length)) rfl
          rw [List.length_drop] at hbe
          have hid := blank_idem _ (a.drop (i + s.length)) rfl
          rw [List.drop_drop] at hid
          obtain ⟨g2, h1, h2⟩ := ih _ _ _ g (by omega) (by omega) (by omega) hid h
          refine ⟨g2, h1, ?_⟩
          rw [List.drop_append_of_le_length hi, next_app b (drop_ne hlt) hn]
          simp only []
          rw [List.drop_append_of_le_length (by omega), blank_app b _ _ rfl (hb.drop _)]
          exact h2
    · rw [if_neg hlt] at h
      injection h with h
      subst h
      obtain rfl : i = a.length := by omega
      exact ⟨f', by omega, rfl⟩
def Al (l l' : List Tok) : Prop := l.map (fun t => (t.k, t.t)) = l'.map (fun t => (t.k, t.t))
theorem go_b (a b : List UInt8) : ∀ (f i : Nat) (acc acc' accB : List Tok) (f' : Nat), i ≤ b.length → b.length - i < f → b.length - i < f' → blankF (b.drop i) = 0 → allGo b f i acc = .ok accB →
    (∃ x, allGo (a ++ 10 :: b) f' (a.length + 1 + i) acc' = .err x 12) ∨ ∃ l l', accB = acc ++ l ∧ allGo (a ++ 10 :: b) f' (a.length + 1 + i) acc' = .ok (acc' ++ l') ∧ Al l l' := by
  intro f
  have hdr : ∀ n, (a ++ 10 :: b).drop (a.length + 1 + n) = b.drop n := by
    intro n
    rw [Nat.add_assoc, List.drop_append, List.drop_eq_nil_of_le (by omega), List.nil_append, show a.length + (1 + n) - a.length = n + 1 by omega, List.drop_succ_cons]
  have hlen : (a ++ 10 :: b).length = a.length + 1 + b.length := by simp; omega
  induction f with
  | zero => intro i acc acc' accB f' _ h; omega
  | succ f ih =>
    intro i acc acc' accB f' hi hf hf' hbl h
    obtain ⟨g, rfl⟩ : ∃ g, f' = g + 1 := ⟨f' - 1, by omega⟩
    rw [allGo] at h ⊢
    by_cases hlt : i < b.length
    · rw [if_pos hlt] at h
      rw [if_pos (by omega)]
      by_cases hc : acc.length = 400
      · rw [if_pos hc] at h; cases h
      · rw [if_neg hc] at h
        by_cases hc' : acc'.length = 400
        · rw [if_pos hc']; exact .inl ⟨_, rfl⟩
        · rw [if_neg hc', hdr]
          cases hn : nextF (b.drop i) with
          | more => rw [hn] at h; cases h
          | deep m => rw [hn] at h; cases h
          | tok k s =>
            rw [hn] at h
            simp only [] at h ⊢
            have hp := next_pos (drop_ne hlt) hbl hn
            rw [List.length_drop] at hp
            have hbe := blank_le _ (b.drop (i + s.length)) rfl
            rw [List.length_drop] at hbe
            have hid := blank_idem _ (b.drop (i + s.length)) rfl
            rw [List.drop_drop] at hid
            rw [show a.length + 1 + i + s.length = a.length + 1 + (i + s.length) by omega, hdr, Nat.add_assoc (a.length + 1)]
            rcases ih _ _ (acc' ++ [⟨k, s, a.length + 1 + i⟩]) _ g (by omega) (by omega) (by omega) hid h with ⟨x, hx⟩ | ⟨l, l', h1, h2, h3⟩
            · exact .inl ⟨x, hx⟩
            · refine .inr ⟨⟨k, s, i⟩ :: l, ⟨k, s, a.length + 1 + i⟩ :: l', by rw [h1]; simp, by rw [h2]; simp, ?_⟩
              unfold Al at h3 ⊢
              simp only [List.map_cons, h3]
    · rw [if_neg hlt] at h
      rw [if_neg (by omega)]
      injection h with h
      subst h
      exact .inr ⟨[], [], by simp, by simp, rfl⟩
theorem all_app {a b : List UInt8} {ts us : List Tok} (hb : Nb a) (hl : a.length + b.length ≤ 2000) (h1 : allF a = .ok ts) (h2 : allF b = .ok us) :
    (∃ x, allF (a ++ 10 :: b) = .err x 12) ∨ ∃ t u u' n, ts = t ++ [⟨4, [], a.length⟩] ∧ us = u ++ [⟨4, [], b.length⟩] ∧ Al u u' ∧ allF (a ++ 10 :: b) = .ok (t ++ ⟨2, [10], a.length⟩ :: (u' ++ [⟨4, [], n⟩])) := by
  have hlen : (a ++ 10 :: b).length = a.length + 1 + b.length := by simp; omega
  unfold allF at h1 h2 ⊢
  rw [if_neg (by omega)] at h1 h2 ⊢
  cases ha : allGo a (a.length + 1) (blankF a) [] with
  | err x e => rw [ha] at h1; cases h1
  | ok t =>
    cases hbb : allGo b (b.length + 1) (blankF b) [] with
    | err x e => rw [hbb] at h2; cases h2
    | ok u =>
      rw [ha] at h1
      rw [hbb] at h2
      injection h1 with h1
      injection h2 with h2
      have e1 := blank_le _ a rfl
      have e2 := blank_le _ b rfl
      have i1 := blank_idem _ a rfl
      have i2 := blank_idem _ b rfl
      obtain ⟨g, hg, hgo⟩ := go_a (b := b) hb (b.length + 2) _ _ _ _ ((a ++ 10 :: b).length + 1) e1 (by omega) (by omega) i1 ha
      rw [blank_app b _ a rfl hb, hgo]
      obtain ⟨g, rfl⟩ : ∃ q, g = q + 1 := ⟨g - 1, by omega⟩
      rw [allGo, if_pos (by omega)]
      by_cases hc : t.length = 400
      · rw [if_pos hc]; exact .inl ⟨_, rfl⟩
      · rw [if_neg hc, List.drop_append_of_le_length (Nat.le_refl _), List.drop_length, List.nil_append, next_lf]
        simp only []
        have hdr : (a ++ 10 :: b).drop (a.length + 1) = b := by
          rw [List.drop_append, List.drop_eq_nil_of_le (by omega), List.nil_append, show a.length + 1 - a.length = 1 by omega]
          rfl
        rw [show ([10] : List UInt8).length = 1 from rfl, hdr]
        rcases go_b a b _ _ [] (t ++ [⟨2, [10], a.length⟩]) _ g e2 (by omega) (by omega) i2 hbb with ⟨x, hx⟩ | ⟨l, l', q1, q2, q3⟩
        · rw [hx]; exact .inl ⟨_, rfl⟩
        · rw [q2]
          refine .inr ⟨t, u, l', (a ++ 10 :: b).length, h1.symm, h2.symm, ?_, by simp⟩
          rw [q1]
          exact q3

end Go.Proofs.Ytgpfjcogaheopaa
