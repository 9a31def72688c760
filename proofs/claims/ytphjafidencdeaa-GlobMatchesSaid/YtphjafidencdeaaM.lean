/- What a pattern stands for, told by pieces; the table's law (from the left, by one part more) and the greedy law. Plain Lean. -/
import Derived.Test.YtphjafidencdeaaF
namespace Go.Proofs.Ytphjafidencdeaa

/-- A part: any bytes, or one byte that f takes. -/
abbrev Kd := Option (UInt8 → Bool)
inductive Ma : List Kd → List UInt8 → Prop
  | nil : Ma [] []
  | star {l : List Kd} {s : List UInt8} (u : List UInt8) : Ma l s → Ma (none :: l) (u ++ s)
  | one {l : List Kd} {s : List UInt8} {f : UInt8 → Bool} {c : UInt8} : f c = true → Ma l s → Ma (some f :: l) (c :: s)
theorem Ma.app {l m : List Kd} {s t : List UInt8} (h : Ma l s) (k : Ma m t) : Ma (l ++ m) (s ++ t) := by
  induction h with
  | nil => exact k
  | star u _ ih => rw [List.append_assoc]; exact .star u ih
  | one hf _ ih => exact .one hf ih
theorem Ma.split : ∀ (l m : List Kd) (s : List UInt8), Ma (l ++ m) s → ∃ s1 s2, s = s1 ++ s2 ∧ Ma l s1 ∧ Ma m s2
  | [], m, s, h => ⟨[], s, rfl, .nil, h⟩
  | none :: l, m, s, h => by
    cases h with
    | star u h =>
      obtain ⟨s1, s2, rfl, h1, h2⟩ := Ma.split l m _ h
      exact ⟨u ++ s1, s2, by rw [List.append_assoc], .star u h1, h2⟩
  | some f :: l, m, s, h => by
    cases h with
    | one hf h =>
      obtain ⟨s1, s2, rfl, h1, h2⟩ := Ma.split l m _ h
      exact ⟨_ :: s1, s2, rfl, .one hf h1, h2⟩
theorem ma_nil {s : List UInt8} : Ma [] s ↔ s = [] := ⟨fun h => by cases h; rfl, fun h => by rw [h]; exact .nil⟩
theorem ma_star {l : List Kd} {s : List UInt8} : Ma (none :: l) s ↔ ∃ u t, s = u ++ t ∧ Ma l t := by
  constructor
  · intro h
    cases h with
    | star u h => exact ⟨u, _, rfl, h⟩
  · rintro ⟨u, t, rfl, h⟩
    exact .star u h
theorem ma_star_drop {l : List Kd} {s : List UInt8} {k : Nat} (hk : k ≤ s.length) : Ma (none :: l) (s.drop k) ↔ ∃ j, k ≤ j ∧ j ≤ s.length ∧ Ma l (s.drop j) := by
  rw [ma_star]
  constructor
  · rintro ⟨u, t, he, h⟩
    have hl := congrArg List.length he
    rw [List.length_drop, List.length_append] at hl
    refine ⟨k + u.length, by omega, by omega, ?_⟩
    rw [← List.drop_drop, he, List.drop_left]
    exact h
  · rintro ⟨j, h1, h2, h⟩
    refine ⟨(s.drop k).take (j - k), s.drop j, ?_, h⟩
    have : s.drop j = (s.drop k).drop (j - k) := by rw [List.drop_drop]; congr 1; omega
    rw [this, List.take_append_drop]
theorem ma_one {f : UInt8 → Bool} {l : List Kd} {s : List UInt8} : Ma (some f :: l) s ↔ ∃ c t, s = c :: t ∧ f c = true ∧ Ma l t := by
  constructor
  · intro h
    cases h with
    | one hf h => exact ⟨_, _, rfl, hf, h⟩
  · rintro ⟨c, t, rfl, hf, h⟩
    exact .one hf h

/-! ### the table: one part more -/
theorem ma_snoc_one {f : UInt8 → Bool} {l : List Kd} {s : List UInt8} : Ma (l ++ [some f]) s ↔ ∃ t c, s = t ++ [c] ∧ f c = true ∧ Ma l t := by
  constructor
  · intro h
    obtain ⟨s1, s2, rfl, h1, h2⟩ := Ma.split _ _ _ h
    obtain ⟨c, t, rfl, hf, ht⟩ := ma_one.1 h2
    rw [ma_nil.1 ht]
    exact ⟨s1, c, rfl, hf, h1⟩
  · rintro ⟨t, c, rfl, hf, h⟩
    exact h.app (.one hf .nil)
theorem ma_snoc_star {l : List Kd} {s : List UInt8} : Ma (l ++ [none]) s ↔ ∃ t u, s = t ++ u ∧ Ma l t := by
  constructor
  · intro h
    obtain ⟨s1, s2, rfl, h1, h2⟩ := Ma.split _ _ _ h
    exact ⟨s1, s2, rfl, h1⟩
  · rintro ⟨t, u, rfl, h⟩
    have := h.app (Ma.star u Ma.nil)
    simpa using this
/-- What the table's row says behind a star: here, or one byte less. -/
theorem table_star {l : List Kd} {s : List UInt8} {k : Nat} (hk : k ≤ s.length) : Ma (l ++ [none]) (s.take k) ↔ Ma l (s.take k) ∨ (0 < k ∧ Ma (l ++ [none]) (s.take (k - 1))) := by
  constructor
  · intro h
    obtain ⟨t, u, he, h1⟩ := ma_snoc_star.1 h
    rcases List.eq_nil_or_concat u with rfl | ⟨u', c, rfl⟩
    · rw [List.append_nil] at he
      rw [he]
      exact .inl h1
    · refine .inr ?_
      rw [List.concat_eq_append] at he
      have hl := congrArg List.length he
      simp at hl
      refine ⟨by omega, ma_snoc_star.2 ⟨t, u', ?_, h1⟩⟩
      have h2 : (s.take k).take (k - 1) = s.take (k - 1) := by rw [List.take_take]; congr 1; omega
      rw [← h2, he, ← List.append_assoc, List.take_append_of_le_length (by simp; omega), List.take_of_length_le (by simp; omega)]
  · rintro (h | ⟨h0, h⟩)
    · exact ma_snoc_star.2 ⟨_, [], by simp, h⟩
    · obtain ⟨t, u, he, h1⟩ := ma_snoc_star.1 h
      refine ma_snoc_star.2 ⟨t, u ++ (s.take k).drop (k - 1), ?_, h1⟩
      have h2 : (s.take k).take (k - 1) = s.take (k - 1) := by rw [List.take_take]; congr 1; omega
      rw [← List.append_assoc, ← he, ← h2, List.take_append_drop]
theorem table_one {f : UInt8 → Bool} {l : List Kd} {s : List UInt8} {k : Nat} (hk : k ≤ s.length) : Ma (l ++ [some f]) (s.take k) ↔ (0 < k ∧ Ma l (s.take (k - 1)) ∧ f (s.getD (k - 1) 0) = true) := by
  rw [ma_snoc_one]
  constructor
  · rintro ⟨t, c, he, hf, h⟩
    have hl := congrArg List.length he
    simp at hl
    have hk0 : 0 < k := by omega
    have h2 : (s.take k).take (k - 1) = s.take (k - 1) := by rw [List.take_take]; congr 1; omega
    have ht : s.take (k - 1) = t := by
      rw [← h2, he, List.take_append_of_le_length (by omega), List.take_of_length_le (by omega)]
    have hc : s.getD (k - 1) 0 = c := by
      have h3 : (s.take k)[k - 1]? = some c := by
        rw [he, List.getElem?_append_right (by omega), show k - 1 - t.length = 0 by omega]
        rfl
      rw [List.getElem?_take_of_lt (by omega)] at h3
      rw [List.getD_eq_getElem?_getD, h3]
      rfl
    rw [ht, hc]
    exact ⟨hk0, h, hf⟩
  · rintro ⟨h0, h, hf⟩
    refine ⟨s.take (k - 1), s.getD (k - 1) 0, ?_, hf, h⟩
    have hlt : k - 1 < s.length := by omega
    have := List.take_add_one (l := s) (i := k - 1)
    rw [show k - 1 + 1 = k by omega, List.getElem?_eq_getElem hlt] at this
    rw [this, List.getD_eq_getElem?_getD, List.getElem?_eq_getElem hlt]
    rfl

/-! ### the greedy law -/
/-- The singles of L from a on, n of them, take the bytes of S from k on. -/
theorem ma_singles {l m : List Kd} (hl : ∀ x ∈ l, x ≠ none) {s : List UInt8} (h : Ma (l ++ m) s) : l.length ≤ s.length ∧ Ma m (s.drop l.length) := by
  induction l generalizing s with
  | nil => exact ⟨Nat.zero_le _, h⟩
  | cons x r ih =>
    cases x with
    | none => exact absurd rfl (hl none (by simp))
    | some f =>
      rw [List.cons_append] at h
      obtain ⟨c, t, rfl, hf, ht⟩ := ma_one.1 h
      obtain ⟨h1, h2⟩ := ih (fun x hx => hl x (by simp [hx])) ht
      exact ⟨by simpa using h1, by simpa using h2⟩
/-- What the program holds between two steps: star is the place of the last star behind (-1: none). -/
structure Greedy (L : List Kd) (S : List UInt8) (i k : Nat) (star : Int) (from_ : Nat) : Prop where
  ib : i ≤ L.length
  kb : k ≤ S.length
  lo : -1 ≤ star ∧ star < i
  none_ : star = -1 → (Ma L S ↔ Ma (L.drop i) (S.drop k))
  some_ : 0 ≤ star → from_ ≤ k ∧ k = from_ + (i - (star.toNat + 1)) ∧ (∀ n, star.toNat + 1 ≤ n → n < i → L[n]? ≠ some none) ∧
    (Ma L S ↔ Ma (L.drop i) (S.drop k) ∨ ∃ j, from_ < j ∧ j ≤ S.length ∧ Ma (L.drop (star.toNat + 1)) (S.drop j))
theorem greedy0 (L : List Kd) (S : List UInt8) : Greedy L S 0 0 (-1) 0 := ⟨Nat.zero_le _, Nat.zero_le _, ⟨by omega, by omega⟩, fun _ => Iff.rfl, fun h => by omega⟩
section
variable {L : List Kd} {S : List UInt8} {i k from_ : Nat} {star : Int}
/-- From behind the last star: the singles up to i, then what is left. -/
theorem greedy_tail (h : Greedy L S i k star from_) (h0 : 0 ≤ star) {j : Nat} (hm : Ma (L.drop (star.toNat + 1)) (S.drop j)) (hj : j ≤ S.length) : j + (i - (star.toNat + 1)) ≤ S.length ∧ Ma (L.drop i) (S.drop (j + (i - (star.toNat + 1)))) := by
  obtain ⟨_, _, hs, _⟩ := h.some_ h0
  have hlo := h.lo
  have hi := h.ib
  have e : L.drop (star.toNat + 1) = (L.drop (star.toNat + 1)).take (i - (star.toNat + 1)) ++ L.drop i := by
    have := List.take_append_drop (i - (star.toNat + 1)) (L.drop (star.toNat + 1))
    rw [List.drop_drop, show star.toNat + 1 + (i - (star.toNat + 1)) = i by omega] at this
    exact this.symm
  rw [e] at hm
  have hlen : ((L.drop (star.toNat + 1)).take (i - (star.toNat + 1))).length = i - (star.toNat + 1) := by simp; omega
  have := ma_singles (l := (L.drop (star.toNat + 1)).take (i - (star.toNat + 1))) ?_ hm
  · rw [hlen, List.length_drop, List.drop_drop] at this
    exact ⟨by omega, this.2⟩
  · intro x hx e
    subst e
    obtain ⟨n, hn, he⟩ := List.getElem_of_mem hx
    rw [hlen] at hn
    have h1 : L[star.toNat + 1 + n]? = some none := by
      have : ((L.drop (star.toNat + 1)).take (i - (star.toNat + 1)))[n]? = some none := by rw [List.getElem?_eq_getElem (by rw [hlen]; exact hn), he]
      rw [List.getElem?_take_of_lt hn, List.getElem?_drop] at this
      exact this
    exact hs (star.toNat + 1 + n) (by omega) (by omega) h1
/-- A star: it is the last one behind from now on. -/
theorem greedy_star (h : Greedy L S i k star from_) (hx : L[i]? = some none) : Greedy L S (i + 1) k i k := by
  have hi : i < L.length := (List.getElem?_eq_some_iff.1 hx).1
  have hd : L.drop i = none :: L.drop (i + 1) := by
    rw [List.drop_eq_getElem_cons hi]
    congr 1
    rw [List.getElem?_eq_getElem hi] at hx
    injection hx
  have key : Ma L S ↔ Ma (L.drop i) (S.drop k) := by
    by_cases h0 : 0 ≤ star
    · rw [(h.some_ h0).2.2.2]
      refine ⟨?_, .inl⟩
      rintro (h1 | ⟨j, hj, hjl, hm⟩)
      · exact h1
      · obtain ⟨h2, h3⟩ := greedy_tail h h0 hm hjl
        have hk := (h.some_ h0).2.1
        rw [hd, ma_star_drop h2] at h3
        obtain ⟨j2, h4, h5, h6⟩ := h3
        rw [hd, ma_star_drop h.kb]
        exact ⟨j2, by omega, h5, h6⟩
    · have := h.lo
      exact h.none_ (by omega)
  refine ⟨hi, h.kb, ⟨by omega, by omega⟩, fun e => by omega, fun _ => ⟨Nat.le_refl _, by simp, fun n h1 h2 => by simp at h1; omega, ?_⟩⟩
  rw [key, hd, ma_star_drop h.kb]
  simp only [Int.toNat_natCast]
  constructor
  · rintro ⟨j, h1, h2, h3⟩
    rcases Nat.eq_or_lt_of_le h1 with rfl | h4
    · exact .inl h3
    · exact .inr ⟨j, h4, h2, h3⟩
  · rintro (h1 | ⟨j, h1, h2, h3⟩)
    · exact ⟨k, Nat.le_refl _, h.kb, h1⟩
    · exact ⟨j, by omega, h2, h3⟩
/-- A single that takes the byte at hand. -/
theorem greedy_one (h : Greedy L S i k star from_) {f : UInt8 → Bool} (hx : L[i]? = some (some f)) (hk : k < S.length) (hf : f S[k] = true) : Greedy L S (i + 1) (k + 1) star from_ := by
  have hi : i < L.length := (List.getElem?_eq_some_iff.1 hx).1
  have hd : L.drop i = some f :: L.drop (i + 1) := by
    rw [List.drop_eq_getElem_cons hi]
    congr 1
    rw [List.getElem?_eq_getElem hi] at hx
    injection hx
  have hs : S.drop k = S[k] :: S.drop (k + 1) := List.drop_eq_getElem_cons hk
  have key : Ma (L.drop i) (S.drop k) ↔ Ma (L.drop (i + 1)) (S.drop (k + 1)) := by
    rw [hd, hs, ma_one]
    constructor
    · rintro ⟨c, t, he, _, h⟩
      injection he with _ he
      rw [he]; exact h
    · intro h
      exact ⟨_, _, rfl, hf, h⟩
  refine ⟨hi, hk, ⟨h.lo.1, by have := h.lo; omega⟩, fun e => (h.none_ e).trans key, fun h0 => ?_⟩
  obtain ⟨h1, h2, h3, h4⟩ := h.some_ h0
  have hlo := h.lo
  refine ⟨by omega, by omega, fun n hn hn2 => ?_, ?_⟩
  · rcases Nat.lt_or_ge n i with h5 | h5
    · exact h3 n hn h5
    · have : n = i := by omega
      subst this
      rw [hx]
      simp
  · rw [h4, key]
/-- Nothing goes at hand: from behind the last star, one byte on. -/
theorem greedy_back (h : Greedy L S i k star from_) (h0 : 0 ≤ star) (hk : k < S.length) (hno : ¬ Ma (L.drop i) (S.drop k)) : Greedy L S (star.toNat + 1) (from_ + 1) star (from_ + 1) := by
  obtain ⟨h1, h2, h3, h4⟩ := h.some_ h0
  have hlo := h.lo
  have hi := h.ib
  refine ⟨by omega, by omega, ⟨hlo.1, by omega⟩, fun e => by omega, fun _ => ⟨Nat.le_refl _, by omega, fun n hn hn2 => by omega, ?_⟩⟩
  rw [h4]
  constructor
  · rintro (h5 | ⟨j, h5, h6, h7⟩)
    · exact absurd h5 hno
    · rcases Nat.eq_or_lt_of_le h5 with rfl | h8
      · exact .inl h7
      · exact .inr ⟨j, h8, h6, h7⟩
  · rintro (h5 | ⟨j, h5, h6, h7⟩)
    · exact .inr ⟨from_ + 1, by omega, by omega, h5⟩
    · exact .inr ⟨j, by omega, h6, h7⟩
theorem greedy_fail (h : Greedy L S i k star from_) (h0 : ¬ 0 ≤ star) (hno : ¬ Ma (L.drop i) (S.drop k)) : ¬ Ma L S := by
  have := h.lo
  rw [h.none_ (by omega)]
  exact hno
/-- All bytes are taken: what is left must be stars. -/
theorem greedy_end (h : Greedy L S i k star from_) (hk : k = S.length) : Ma L S ↔ ∀ x ∈ L.drop i, x = none := by
  have hst : ∀ l : List Kd, Ma l [] ↔ ∀ x ∈ l, x = none := by
    intro l
    induction l with
    | nil => simp [ma_nil]
    | cons x r ih =>
      cases x with
      | none =>
        rw [ma_star]
        constructor
        · rintro ⟨u, t, he, h⟩
          have := List.append_eq_nil_iff.1 he.symm
          rw [this.2] at h
          simpa using ih.1 h
        · intro h
          exact ⟨[], [], rfl, ih.2 (fun x hx => h x (by simp [hx]))⟩
      | some f =>
        rw [ma_one]
        constructor
        · rintro ⟨c, t, he, _⟩; cases he
        · intro h; have := h (some f) (by simp); cases this
  have hd : S.drop k = [] := by rw [hk]; simp
  by_cases h0 : 0 ≤ star
  · obtain ⟨h1, h2, h3, h4⟩ := h.some_ h0
    rw [h4, hd, hst]
    refine ⟨?_, .inl⟩
    rintro (h5 | ⟨j, h5, h6, h7⟩)
    · exact h5
    · have := (greedy_tail h h0 h7 h6).1
      omega
  · have := h.lo
    rw [h.none_ (by omega), hd, hst]
end

end Go.Proofs.Ytphjafidencdeaa
