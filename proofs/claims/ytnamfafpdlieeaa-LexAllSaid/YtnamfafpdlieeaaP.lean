/- Plain law: signs and words with a blank behind each are just these tokens. -/
import Derived.Test.YtnamfafpdlieeaaL
set_option linter.all false
namespace Go.Proofs.Ytnamfafpdlieeaa
open Go.RowKit
set_option maxRecDepth 100000

theorem signF_blank (s : List UInt8) (h : s ∈ sgs) (r : List UInt8) : signF (s ++ 32 :: r) = s := by
  simp only [sgs, List.mem_cons, List.not_mem_nil, or_false] at h
  rcases h with rfl | rfl | rfl | rfl | rfl | rfl | rfl | rfl | rfl | rfl | rfl | rfl | rfl | rfl | rfl | rfl <;> rfl
theorem next_sign (s : List UInt8) (h : s ∈ sgs) (r : List UInt8) : nextF (s ++ 32 :: r) = .tok 2 s := by
  unfold nextF
  rw [signF_blank s h r, if_pos]
  intro e
  have := (sgs_len s h).1
  rw [e] at this
  exact absurd this (by decide)
theorem next_w (r : List UInt8) : nextF (119 :: 32 :: r) = .tok 1 [119] := by
  have h1 : signF (119 :: 32 :: r) = [] := rfl
  have h2 : partR 25 false (119 :: 32 :: r) = .ok 0 := rfl
  have h3 : wordR (119 :: 32 :: r) = .ok 1 := by
    rw [word_cons, if_neg (by decide), h2]
    show (wordR (32 :: r)).add 1 = _
    rw [word_cons, if_pos (by decide)]
    rfl
  unfold nextF
  rw [h1, if_neg (by simp), h3]
  rfl
/-- A token's text and its kind, of the two sorts. -/
def Unit_ (u : List UInt8 × Nat) : Prop := (u.1 ∈ sgs ∧ u.2 = 2) ∨ u = ([119], 1)
def unitT (U : List (List UInt8 × Nat)) : List UInt8 := U.flatMap fun u => u.1 ++ [32]
theorem unit_next {u : List UInt8 × Nat} (h : Unit_ u) (r : List UInt8) : nextF (u.1 ++ 32 :: r) = .tok u.2 u.1 := by
  rcases h with ⟨h, h2⟩ | rfl
  · rw [h2]; exact next_sign _ h r
  · exact next_w r
theorem unit_blank {u : List UInt8 × Nat} (h : Unit_ u) (r : List UInt8) : blankF (u.1 ++ r) = 0 := by
  have key : ∀ (c : UInt8) (x : List UInt8), c ≠ 32 → c ≠ 9 → c ≠ 92 → c ≠ 35 → blankF (c :: x) = 0 := by
    intro c x h1 h2 h3 h4
    rw [blank_cons, if_neg (by rintro (h | h); exact h1 h; exact h2 h), if_neg, if_neg h4]
    intro e
    cases x with
    | nil => cases e
    | cons d x => injection e with e _; exact h3 e
  rcases h with ⟨h, _⟩ | rfl
  · simp only [sgs, List.mem_cons, List.not_mem_nil, or_false] at h
    rcases h with h | h | h | h | h | h | h | h | h | h | h | h | h | h | h | h <;> rw [h] <;> exact key _ _ (by decide) (by decide) (by decide) (by decide)
  · exact key _ _ (by decide) (by decide) (by decide) (by decide)
theorem unit_len {u : List UInt8 × Nat} (h : Unit_ u) : 1 ≤ u.1.length ∧ u.1.length ≤ 2 := by
  rcases h with ⟨h, _⟩ | rfl
  · exact sgs_len _ h
  · exact ⟨by decide, by decide⟩
theorem units_blank {U : List (List UInt8 × Nat)} (h : ∀ u ∈ U, Unit_ u) : blankF (unitT U) = 0 := by
  cases U with
  | nil => exact blank_nil
  | cons u U =>
    show blankF ((u.1 ++ [32]) ++ unitT U) = 0
    rw [List.append_assoc]
    exact unit_blank (h u (List.mem_cons_self ..)) _
/-- The tokens, from a place on. -/
def unitToks : Nat → List (List UInt8 × Nat) → List Tok
  | _, [] => []
  | i, u :: U => ⟨u.2, u.1, i⟩ :: unitToks (i + u.1.length + 1) U
theorem unitToks_len : ∀ (U : List (List UInt8 × Nat)) (i : Nat), (unitToks i U).length = U.length := by
  intro U
  induction U with
  | nil => intro i; rfl
  | cons u U ih => intro i; show (unitToks _ U).length + 1 = _; rw [ih]; rfl
theorem unitToks_get : ∀ (U : List (List UInt8 × Nat)) (i n : Nat) (h : n < U.length) (h' : n < (unitToks i U).length), ((unitToks i U)[n]).t = (U[n]).1 ∧ ((unitToks i U)[n]).k = (U[n]).2 := by
  intro U
  induction U with
  | nil => intro i n h; simp at h
  | cons u U ih =>
    intro i n h h'
    cases n with
    | zero => exact ⟨rfl, rfl⟩
    | succ n => exact ih (i + u.1.length + 1) n (by simpa using h) (by rw [unitToks_len]; simpa using h)
theorem units_go (l : List UInt8) : ∀ (U : List (List UInt8 × Nat)) (f i : Nat) (acc : List Tok), (∀ u ∈ U, Unit_ u) → l.drop i = unitT U → i ≤ l.length → acc.length + U.length ≤ 400 → U.length < f → allGo l f i acc = .ok (acc ++ unitToks i U) := by
  intro U
  induction U with
  | nil =>
    intro f i acc _ hd hi _ hf
    obtain ⟨f, rfl⟩ : ∃ g, f = g + 1 := ⟨f - 1, by simp at hf; omega⟩
    have hlen := congrArg List.length hd
    rw [List.length_drop] at hlen
    have hlen : l.length - i = 0 := hlen
    rw [allGo_step, if_neg (by omega)]
    show _ = Ar.ok (acc ++ [])
    rw [List.append_nil]
  | cons u U ih =>
    intro f i acc hU hd hi hacc hf
    rw [List.length_cons] at hacc hf
    obtain ⟨f, rfl⟩ : ∃ g, f = g + 1 := ⟨f - 1, by omega⟩
    have hu := hU u (List.mem_cons_self ..)
    have hul := unit_len hu
    have hd' : l.drop i = u.1 ++ 32 :: unitT U := by
      rw [hd]
      show (u.1 ++ [32]) ++ unitT U = _
      rw [List.append_assoc]; rfl
    have hlen := congrArg List.length hd'
    rw [List.length_drop, List.length_append, List.length_cons] at hlen
    have hd2 : l.drop (i + u.1.length) = 32 :: unitT U := by rw [← List.drop_drop, hd', List.drop_left]
    have hd3 : l.drop (i + u.1.length + 1) = unitT U := by rw [← List.drop_drop, hd2]; rfl
    have hb : blankF (l.drop (i + u.1.length)) = 1 := by
      rw [hd2, blank_cons, if_pos (.inl rfl), units_blank (fun v hv => hU v (List.mem_cons_of_mem _ hv))]
    rw [allGo_step, if_pos (by omega), if_neg (by omega), hd', unit_next hu]
    show allGo l f (i + u.1.length + blankF (l.drop (i + u.1.length))) (acc ++ [⟨u.2, u.1, i⟩]) = _
    rw [hb, ih f (i + u.1.length + 1) _ (fun v hv => hU v (List.mem_cons_of_mem _ hv)) hd3 (by omega) (by rw [List.length_append]; simp; omega) (by omega), List.append_assoc]
    rfl
theorem unitT_len {U : List (List UInt8 × Nat)} (h : ∀ u ∈ U, Unit_ u) : U.length ≤ (unitT U).length ∧ (unitT U).length ≤ 3 * U.length := by
  induction U with
  | nil => exact ⟨Nat.le_refl _, Nat.le_refl _⟩
  | cons u U ih =>
    have h1 := ih (fun v hv => h v (List.mem_cons_of_mem _ hv))
    have h2 := unit_len (h u (List.mem_cons_self ..))
    have e : (unitT (u :: U)).length = u.1.length + 1 + (unitT U).length := by
      show ((u.1 ++ [32]) ++ unitT U).length = _
      rw [List.length_append, List.length_append]; rfl
    rw [e, List.length_cons]
    omega
/-- The law's text is read as its units, and the end. -/
theorem units_all {U : List (List UInt8 × Nat)} (h : ∀ u ∈ U, Unit_ u) (hn : U.length ≤ 400) : allF (unitT U) = .ok (unitToks 0 U ++ [⟨4, [], (unitT U).length⟩]) := by
  have hl := unitT_len h
  rw [allF_fin _ (by omega), units_blank h, units_go (unitT U) U _ 0 [] h rfl (Nat.zero_le _) (by simpa using hn) (by omega)]
  rfl

end Go.Proofs.Ytnamfafpdlieeaa
