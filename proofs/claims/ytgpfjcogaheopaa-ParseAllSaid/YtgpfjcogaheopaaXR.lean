/- Plain law: tokens stand in the text, in order; where a text is wrong stands in it. -/
import Derived.Test.YtgpfjcogaheopaaXQ
set_option linter.all false
namespace Go.Proofs.Ytgpfjcogaheopaa.Lx
open Go.RowKit
set_option maxRecDepth 100000
/-- Each token stands behind what ended ahead of it. -/
def standsL (l : List UInt8) : Nat → List Tok → Prop
 | _, [] => True
 | e, x :: r => x.a = e + blankF (l.drop e) ∧ x.a + x.t.length ≤ l.length ∧ (l.drop x.a).take x.t.length = x.t ∧ (x.k = 4 ↔ r = []) ∧ (x.k = 4 → x.t = [] ∧ x.a = l.length) ∧ standsL l (x.a + x.t.length) r
/-- What a blank's first byte is. -/
theorem blank_first {l : List UInt8} {k A : Nat} (hk : k < A) (h : k + blankF (l.drop k) = A) : ∃ h : k < l.length, A ≤ l.length ∧
  (((l[k] = 32 ∨ l[k] = 9) ∧ k + 1 + blankF (l.drop (k + 1)) = A) ∨
  (l[k] = 92 ∧ k + 1 < A ∧ (∃ h2 : k + 1 < l.length, l[k + 1] = 10) ∧ k + 2 + blankF (l.drop (k + 2)) = A) ∨
  (l[k] = 35 ∧ k + ((l.drop k).takeWhile (· != 10)).length = A ∧ blankF (l.drop A) = 0)) := by
 have hle := blank_le _ (l.drop k) rfl
 rw [List.length_drop] at hle
 have hlt : k < l.length := by omega
 refine ⟨hlt, by omega, ?_⟩
 have hid := blank_idem _ (l.drop k) rfl
 rw [List.drop_drop, h] at hid
 rw [drop_at hlt, blank_cons] at h
 split at h
 ·rename_i hc
  exact .inl ⟨hc, by omega⟩
 ·split at h
  ·rename_i h2
   have h3 := take_len h2
   simp at h3
   have h4 : k + 1 < l.length := by omega
   rw [drop_at h4] at h2 h
   injection h2 with e1 e2
   injection e2 with e2 _
   rw [List.drop_succ_cons, List.drop_zero] at h
   exact .inr (.inl ⟨e1, by omega, ⟨h4, e2⟩, by rw [show k + 1 + 1 = k + 2 from rfl] at h; omega⟩)
  ·split at h
   ·rename_i hc
    rw [← drop_at hlt] at h
    exact .inr (.inr ⟨hc, h, hid⟩)
   ·omega
/-- A comment's next byte. -/
theorem note_next {l : List UInt8} {k A : Nat} (h : k + ((l.drop k).takeWhile (· != 10)).length = A) (hk : k < A) : ∃ h : k < l.length, l[k] ≠ 10 ∧ k + 1 + ((l.drop (k + 1)).takeWhile (· != 10)).length = A := by
 have hlt : k < l.length := by
  by_cases hh : k < l.length
  ·exact hh
  ·rw [List.drop_eq_nil_of_le (by omega)] at h
   simp at h
   omega
 refine ⟨hlt, ?_⟩
 rw [drop_at hlt, List.takeWhile_cons] at h
 split at h
 ·rename_i hc
  rw [List.length_cons] at h
  refine ⟨fun e => ?_, by omega⟩
  rw [e] at hc
  cases hc
 ·simp at h
  omega
end Go.Proofs.Ytgpfjcogaheopaa.Lx
