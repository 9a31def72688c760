/- All, as a plain function; its closure; what a token is. -/
import Derived.Test.YtnamfafpdlieeaaI
set_option linter.all false
namespace Go.Proofs.Ytnamfafpdlieeaa
open Go.RowKit
set_option maxRecDepth 100000

structure Tok where
  k : Nat
  t : List UInt8
  a : Nat
def Tok.cells (x : Tok) : List Value := [.int .i64 x.k, sv x.t, .int .i64 x.a]
def tcs (l : List Tok) : List Value := l.flatMap Tok.cells
theorem tcs_snoc (l : List Tok) (x : Tok) : tcs (l ++ [x]) = tcs l ++ x.cells := by simp [tcs]
theorem tcs_get (l : List Tok) : ∀ (n j : Nat) (hn : n < l.length) (_ : j < 3), (tcs l)[n * 3 + j]? = (l[n]).cells[j]? := by
  induction l with
  | nil => intro n j hn; simp at hn
  | cons x r ih =>
    intro n j hn hj
    have h : tcs (x :: r) = x.cells ++ tcs r := by simp [tcs]
    have hl : x.cells.length = 3 := rfl
    cases n with
    | zero => rw [h, Nat.zero_mul, Nat.zero_add, List.getElem?_append_left (by omega)]; rfl
    | succ n =>
      rw [h, List.getElem?_append_right (by omega), hl, show (n + 1) * 3 + j - 3 = n * 3 + j by omega]
      exact ih n j (by simpa using hn) hj
inductive Ar
  | ok (l : List Tok)
  | err (a : Int) (e : Int)
def allGo (l : List UInt8) : Nat → Nat → List Tok → Ar
  | 0, _, acc => .ok acc
  | f + 1, i, acc => if i < l.length then (if acc.length = 400 then .err i 12 else match nextF (l.drop i) with
      | .tok k s => allGo l f (i + s.length + blankF (l.drop (i + s.length))) (acc ++ [⟨k, s, i⟩])
      | .more => .err l.length 23
      | .deep a => .err ((i : Int) + a) 17) else .ok acc
def allF (l : List UInt8) : Ar := if 4096 < l.length then .err 0 10 else match allGo l (l.length + 1) (blankF l) [] with
  | .ok acc => .ok (acc ++ [⟨4, [], l.length⟩])
  | .err a e => .err a e

/-! ### each token is something -/
theorem blank_idem : ∀ (L : Nat) (t : List UInt8), t.length = L → blankF (t.drop (blankF t)) = 0 := by
  intro L
  induction L using Nat.strongRecOn with
  | ind L ih =>
    intro t hL
    match t, hL with
    | [], _ => rw [blank_nil]; exact blank_nil
    | c :: r, hL =>
      rw [List.length_cons] at hL
      rw [blank_cons]
      by_cases h1 : c = 32 ∨ c = 9
      · rw [if_pos h1, Nat.add_comm, List.drop_succ_cons]
        exact ih _ (by omega) r rfl
      · rw [if_neg h1]
        by_cases h2 : (c :: r).take 2 = [92, 10]
        · rw [if_pos h2]
          have h3 := take_len h2
          simp at h3
          have := ih _ (by rw [List.length_drop]; omega) (r.drop 1) rfl
          rw [List.drop_drop] at this
          rw [show 2 + blankF (r.drop 1) = (1 + blankF (r.drop 1)) + 1 by omega, List.drop_succ_cons]
          exact this
        · rw [if_neg h2]
          by_cases h3 : c = 35
          · rw [if_pos h3]
            obtain ⟨n, hn⟩ : ∃ n, ((c :: r).takeWhile (· != 10)).length = n := ⟨_, rfl⟩
            rw [hn]
            have hw := idx_while (c :: r)
            rw [hn] at hw
            by_cases h0 : Lib.indexByte (c :: r) 10 < 0
            · rw [hw.1 h0, List.drop_eq_nil_of_le (Nat.le_refl _)]
              exact blank_nil
            · exact blank_lf (hw.2 (by omega)).2
          · rw [if_neg h3, List.drop_zero, blank_cons, if_neg h1, if_neg h2, if_neg h3]
theorem stop_of {c : UInt8} (h : isIn stopB c = true) : c = 32 ∨ c = 9 ∨ c = 10 ∨ c = 124 ∨ c = 38 ∨ c = 59 ∨ c = 60 ∨ c = 62 ∨ c = 40 ∨ c = 41 := by
  apply Classical.byContradiction
  intro hn
  simp only [not_or] at hn
  obtain ⟨h1, h2, h3, h4, h5, h6, h7, h8, h9, h10⟩ := hn
  have e : ∀ a : UInt8, ¬ c = a → (a == c) = false := fun a h => by rw [beq_eq_false_iff_ne]; exact fun e => h e.symm
  revert h
  unfold isIn stopB
  simp only [Lib.indexByte, e _ h1, e _ h2, e _ h3, e _ h4, e _ h5, e _ h6, e _ h7, e _ h8, e _ h9, e _ h10, Bool.false_eq_true, if_false, beq_self_eq_true, if_true]
  decide
theorem sign_one {c : UInt8} {r : List UInt8} (h : [c] ∈ sgs) : signF (c :: r) ≠ [] := by
  obtain ⟨m, hm, he⟩ := List.getElem_of_mem h
  unfold signF
  cases hf : sgs.find? (hasSign (c :: r)) with
  | none =>
    rw [List.find?_eq_none] at hf
    have := hf [c] h
    unfold hasSign at this
    simp at this
  | some s =>
    have h1 := List.mem_of_find?_eq_some hf
    have := (sgs_len s h1).1
    show s ≠ []
    intro e
    rw [e] at this
    exact absurd this (by decide)
theorem next_pos {t : List UInt8} (h0 : t ≠ []) (hb : blankF t = 0) {k : Nat} {s : List UInt8} (h : nextF t = .tok k s) : 1 ≤ s.length ∧ s.length ≤ t.length := by
  unfold nextF at h
  rcases signF_mem t with hs | ⟨hs, ht⟩
  · rw [if_neg (fun e => e hs)] at h
    cases hw : wordR t with
    | more => rw [hw] at h; cases h
    | deep a => rw [hw] at h; cases h
    | ok n =>
      rw [hw] at h
      injection h with _ h
      have hn := word_le _ t n rfl hw
      subst h
      rw [List.length_take, Nat.min_eq_left hn]
      refine ⟨?_, hn⟩
      match t, h0 with
      | c :: r, _ =>
        rw [word_cons] at hw
        by_cases hst : isIn stopB c = true
        · exfalso
          have no : ∀ d : UInt8, [d] ∈ sgs → c ≠ d := fun d hd e => sign_one (r := r) hd (by rw [← e]; exact hs)
          rw [blank_cons] at hb
          rcases stop_of hst with e | e | e | e | e | e | e | e | e | e
          · rw [if_pos (.inl e)] at hb; omega
          · rw [if_pos (.inr e)] at hb; omega
          · exact no _ (by decide) e
          · exact no _ (by decide) e
          · exact no _ (by decide) e
          · exact no _ (by decide) e
          · exact no _ (by decide) e
          · exact no _ (by decide) e
          · exact no _ (by decide) e
          · exact no _ (by decide) e
        · rw [if_neg hst] at hw
          cases hp : partR 25 false (c :: r) with
          | more => rw [hp] at hw; cases hw
          | deep a => rw [hp] at hw; cases hw
          | ok q =>
            rw [hp] at hw
            obtain ⟨m, _, rfl⟩ := Rs.add_ok hw
            omega
  · have h1 := (sgs_len _ hs).1
    have hne : signF t ≠ [] := by intro e; rw [e] at h1; exact absurd h1 (by decide)
    rw [if_pos hne] at h
    injection h with _ h
    subst h
    refine ⟨h1, ?_⟩
    have := congrArg List.length ht
    rw [List.length_take] at this
    omega

/-! ### the closure -/
theorem fin17_ok (fb b2 b3 b4 : Nat) (a : Int) (u : FrameMode) (w : World) (h : Blk w fb 43 #[.int .i64 a, .int .i64 0]) :
    CallsD Try.prog 17 #[.pointer (some ⟨fb, 0, none⟩), .pointer (some ⟨b2, 0, none⟩), .pointer (some ⟨b3, 0, none⟩), .pointer (some ⟨b4, 0, none⟩)] u w fun en u' w' => u' = u ∧ (en = .returned (.tuple #[]) ∧ w' = w) := by
  have c1 := Blk.cell h 1
  go_enter_d Try.func17, Try.ntmps17
  go_wp2
  refine bodyPost_end (results_none rfl _ _ _) rfl ⟨rfl, rfl⟩
theorem fin17_bad (fb b2 b3 b4 : Nat) (a e : Int) (v : Value) (x y : Int) (he : e ≠ 0) (u : FrameMode) (w : World) (h : Blk w fb 43 #[.int .i64 a, .int .i64 e]) (h2 : Blk w b2 23 #[v]) (h3 : Blk w b3 3 #[.int .i64 x]) (h4 : Blk w b4 24 #[.int .i64 y]) (n1 : b3 ≠ b2) (n2 : b4 ≠ b2) (n3 : b4 ≠ b3) (n4 : fb ≠ b2) (n5 : fb ≠ b3) :
    CallsD Try.prog 17 #[.pointer (some ⟨fb, 0, none⟩), .pointer (some ⟨b2, 0, none⟩), .pointer (some ⟨b3, 0, none⟩), .pointer (some ⟨b4, 0, none⟩)] u w fun en u' w' => u' = u ∧ (en = .returned (.tuple #[]) ∧ w' = ((w.setCell ⟨b2, 0, none⟩ (.slice none 0 0)).setCell ⟨b3, 0, none⟩ (.int .i64 a)).setCell ⟨b4, 0, none⟩ (.int .i64 e)) := by
  have c0 := Blk.cell h 0
  have c1 := Blk.cell h 1
  have d2 := Blk.cell h2 0
  have z2 := Blk.frozen h2 0
  have d3 := Blk.cell h3 0
  have z3 := Blk.frozen h3 0
  have d4 := Blk.cell h4 0
  have z4 := Blk.frozen h4 0
  have q : (e == 0) = false := by rw [beq_eq_false_iff_ne]; exact he
  have q2 : (e != 0) = true := by simp [he]
  clear h h2 h3 h4
  go_enter_d Try.func17, Try.ntmps17
  go_wp2
  refine bodyPost_end (results_none rfl _ _ _) rfl ⟨rfl, rfl⟩

end Go.Proofs.Ytnamfafpdlieeaa
