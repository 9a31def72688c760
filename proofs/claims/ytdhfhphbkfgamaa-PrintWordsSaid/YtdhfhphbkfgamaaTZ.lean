/- A command of plain words: what is printed is read as it was. -/
import Derived.Test.YtdhfhphbkfgamaaMG
namespace Go.Proofs.Ytdhfhphbkfgamaa
open Lx
set_option maxRecDepth 100000

def abc : List UInt8 := [97, 98, 99, 100, 101, 102, 103, 104, 105, 106, 107, 108, 109, 110, 111, 112, 113, 114, 115, 116, 117, 118, 119, 120, 121, 122, 48, 49, 50, 51, 52, 53, 54, 55, 56, 57]
structure OkW (s : List UInt8) : Prop where
  ne : s ≠ []
  w : ∀ c ∈ s, c ∈ abc
/-- Words, each behind a blank. -/
def tailF (ws : List (List UInt8)) : List UInt8 := ws.flatMap fun w => 32 :: w
theorem tail_cons (w : List UInt8) (ws : List (List UInt8)) : tailF (w :: ws) = 32 :: w ++ tailF ws := rfl
theorem tail_snoc (ws : List (List UInt8)) (w : List UInt8) : tailF (ws ++ [w]) = tailF ws ++ 32 :: w := by simp [tailF]
theorem tail_len : ∀ (ws : List (List UInt8)) (m : Nat), (∀ w ∈ ws, w.length ≤ m) → (tailF ws).length ≤ ws.length * (m + 1)
  | [], _, _ => Nat.zero_le _
  | w :: ws, m, h => by
    have h1 := h w (List.mem_cons_self ..)
    have h2 := tail_len ws m fun x hx => h x (List.mem_cons_of_mem _ hx)
    rw [tail_cons, List.length_append, List.length_cons, List.length_cons, Nat.add_mul]
    omega
theorem abc_q : ∀ c ∈ abc, c ∉ qts ∧ isIn stopB c = false ∧ ¬ (c = 32 ∨ c = 9) ∧ c ≠ 92 ∧ c ≠ 35 := by decide
theorem sgs_abc : ∀ s ∈ sgs, ∃ x r, s = x :: r ∧ x ∉ abc := by
  intro s hs
  have h : ∀ s ∈ sgs, s ≠ [] ∧ s.headD 0 ∉ abc := by decide
  cases s with
  | nil => exact absurd rfl (h _ hs).1
  | cons x r => exact ⟨x, r, rfl, (h _ hs).2⟩
theorem sign_no {c : UInt8} {r : List UInt8} (h : c ∈ abc) : signF (c :: r) = [] := by
  unfold signF
  rw [List.find?_eq_none.2]
  · rfl
  · intro s hs
    obtain ⟨x, q, rfl, hx⟩ := sgs_abc s hs
    unfold hasSign
    rw [List.length_cons, List.take_succ_cons, decide_eq_true_eq]
    intro e
    injection e with e _
    exact hx (e ▸ h)
/-- What may stand behind a word. -/
def Gap (r : List UInt8) : Prop := r = [] ∨ ∃ q, r = 32 :: q
theorem word_abc {r : List UInt8} (hr : Gap r) : ∀ (w : List UInt8), (∀ c ∈ w, c ∈ abc) → wordR (w ++ r) = .ok w.length
  | [], _ => by
    rcases hr with rfl | ⟨q, rfl⟩
    · exact word_nil
    · rw [List.nil_append, word_cons, if_pos (by decide)]; rfl
  | c :: w, h => by
    have hc := abc_q c (h c (List.mem_cons_self ..))
    have ih := word_abc hr w fun x hx => h x (List.mem_cons_of_mem _ hx)
    have hb : begs false (c :: (w ++ r)) = false := by
      have hq := hc.1
      simp only [qts, List.mem_cons, List.not_mem_nil, or_false, not_or] at hq
      obtain ⟨h1, h2, h3, h4, h5⟩ := hq
      unfold begs
      have e1 : (c :: (w ++ r)).take 1 = [c] := rfl
      have e2 : ∀ x : UInt8, (c :: (w ++ r)).take 2 ≠ [36, x] := by
        intro x e
        rw [show (c :: (w ++ r)).take 2 = c :: (w ++ r).take 1 from rfl] at e
        injection e with e _
        exact h5 e
      rw [e1, decide_eq_false (p := (c :: (w ++ r)).take 2 = [36, 40]) (e2 _), decide_eq_false (p := (c :: (w ++ r)).take 2 = [36, 123]) (e2 _)]
      simp [h1, h2, h3, h4]
    have hp : partR 25 false (c :: (w ++ r)) = .ok 0 := by
      unfold partR
      rw [hb]
      rfl
    rw [List.cons_append, word_cons, if_neg (by rw [hc.2.1]; decide), hp]
    simp only []
    rw [show (w ++ r).drop (0 - 1) = w ++ r from rfl, ih]
    show Rs.ok _ = _
    rw [List.length_cons]
    congr 1
    omega
theorem next_abc {w r : List UInt8} (hw : OkW w) (hr : Gap r) : nextF (w ++ r) = .tok 1 w := by
  obtain ⟨c, q, rfl⟩ : ∃ c q, w = c :: q := by
    cases w with
    | nil => exact absurd rfl hw.ne
    | cons c q => exact ⟨c, q, rfl⟩
  have hs : signF (c :: q ++ r) = [] := sign_no (hw.w c (List.mem_cons_self ..))
  unfold nextF
  rw [hs, if_neg (by simp), word_abc hr _ hw.w]
  have hio : ioB (c :: q ++ r) (c :: q).length = false := by
    unfold ioB
    rw [decide_eq_false_iff_not]
    rintro ⟨h1, _, _, h4, h5⟩
    have hq : q = [] := by
      rw [List.length_cons] at h1
      exact List.length_eq_zero_iff.1 (by omega)
    subst hq
    rcases hr with rfl | ⟨p, rfl⟩
    · simp at h4
    · revert h5
      show ¬ ((32 : UInt8) = 60 ∨ (32 : UInt8) = 62)
      decide
  simp only []
  rw [hio, List.take_left]
  rfl
theorem blank_abc {c : UInt8} {r : List UInt8} (h : c ∈ abc) : blankF (c :: r) = 0 := by
  have hc := abc_q c h
  rw [blank_cons, if_neg hc.2.2.1, if_neg, if_neg hc.2.2.2.2]
  intro e
  cases r with
  | nil => rw [show [c].take 2 = [c] from rfl] at e; injection e with _ e; cases e
  | cons d r => rw [show (c :: d :: r).take 2 = [c, d] from rfl] at e; injection e with e _; exact hc.2.2.2.1 e
theorem blank_w {w r : List UInt8} (h : OkW w) : blankF (w ++ r) = 0 := by
  cases w with
  | nil => exact absurd rfl h.ne
  | cons c q => exact blank_abc (h.w c (List.mem_cons_self ..))
theorem blank_32 (r : List UInt8) : blankF (32 :: r) = 1 + blankF r := by rw [blank_cons, if_pos (.inl rfl)]
/-- What may stand at a text's end. -/
def Fin (e : List UInt8) : Prop := e = [] ∨ e = [32]
theorem gap_tail {e : List UInt8} (he : Fin e) : ∀ ws : List (List UInt8), Gap (tailF ws ++ e)
  | [] => by
    rcases he with rfl | rfl
    · exact .inl rfl
    · exact .inr ⟨[], rfl⟩
  | w :: ws => .inr ⟨w ++ tailF ws ++ e, rfl⟩
theorem drop_drop' {l : List UInt8} {i : Nat} {a b : List UInt8} (h : l.drop i = a ++ b) : l.drop (i + a.length) = b := by
  rw [← List.drop_drop, h, List.drop_left]
theorem go_abc (l e : List UInt8) (he : Fin e) : ∀ (ws : List (List UInt8)) (w : List UInt8) (f i : Nat) (acc : List Tok), OkW w → (∀ x ∈ ws, OkW x) → l.drop i = w ++ (tailF ws ++ e) → ws.length + 1 < f → acc.length + ws.length < 400 →
    ∃ ts, allGo l f i acc = .ok (acc ++ ts) ∧ (∀ t ∈ ts, t.k = 1) ∧ ts.map Tok.t = w :: ws := by
  intro ws
  induction ws with
  | nil =>
    intro w f i acc hw _ hd hf ha
    obtain ⟨f, rfl⟩ : ∃ g, f = g + 2 := ⟨f - 2, by rw [List.length_nil] at hf; omega⟩
    have hi : i < l.length := by
      apply Classical.byContradiction
      intro h
      rw [List.drop_eq_nil_of_le (by omega)] at hd
      exact hw.ne (List.append_eq_nil_iff.1 hd.symm).1
    have h2 := drop_drop' hd
    rw [allGo, if_pos hi, if_neg (by rw [List.length_nil] at ha; omega), hd, next_abc hw (gap_tail he [])]
    simp only []
    rw [h2]
    have hend : ¬ i + w.length + blankF (tailF [] ++ e) < l.length := by
      have hl := congrArg List.length h2
      rw [List.length_drop] at hl
      rcases he with rfl | rfl
      · have : (tailF [] ++ [] : List UInt8) = [] := rfl
        rw [this] at hl ⊢
        rw [blank_nil, List.length_nil] at *
        omega
      · have : (tailF [] ++ [32] : List UInt8) = [32] := rfl
        rw [this] at hl ⊢
        rw [blank_32, blank_nil]
        simp only [List.length_cons, List.length_nil] at hl
        omega
    rw [allGo, if_neg hend]
    exact ⟨[⟨1, w, i⟩], rfl, fun t ht => by rw [List.mem_singleton] at ht; rw [ht], rfl⟩
  | cons x ws ih =>
    intro w f i acc hw hws hd hf ha
    obtain ⟨f, rfl⟩ : ∃ g, f = g + 1 := ⟨f - 1, by omega⟩
    have hi : i < l.length := by
      apply Classical.byContradiction
      intro h
      rw [List.drop_eq_nil_of_le (by omega)] at hd
      exact hw.ne (List.append_eq_nil_iff.1 hd.symm).1
    have h2 := drop_drop' hd
    have hx := hws x (List.mem_cons_self ..)
    rw [List.length_cons] at hf ha
    rw [allGo, if_pos hi, if_neg (by omega), hd, next_abc hw (gap_tail he (x :: ws))]
    simp only []
    rw [h2]
    have hbl : blankF (tailF (x :: ws) ++ e) = 1 := by
      rw [tail_cons, List.append_assoc, List.cons_append, blank_32, blank_w hx]
    rw [hbl]
    have h3 : l.drop (i + w.length + 1) = x ++ (tailF ws ++ e) := by
      rw [← List.drop_drop, h2, tail_cons, List.append_assoc]
      rfl
    obtain ⟨ts, e1, e2, e3⟩ := ih x f (i + w.length + 1) (acc ++ [⟨1, w, i⟩]) hx (fun y hy => hws y (List.mem_cons_of_mem _ hy)) h3 (by omega) (by rw [List.length_append, List.length_singleton]; omega)
    refine ⟨⟨1, w, i⟩ :: ts, ?_, fun t ht => ?_, ?_⟩
    · rw [e1, List.append_assoc]; rfl
    · rw [List.mem_cons] at ht
      rcases ht with rfl | ht
      · rfl
      · exact e2 t ht
    · rw [List.map_cons, e3]
theorem all_abc {w e : List UInt8} {ws : List (List UInt8)} (hw : OkW w) (hws : ∀ x ∈ ws, OkW x) (he : Fin e) (hl : (w ++ (tailF ws ++ e)).length ≤ 4096) (hn : ws.length < 400) :
    ∃ ts a, allF (w ++ (tailF ws ++ e)) = .ok (ts ++ [⟨4, [], a⟩]) ∧ (∀ t ∈ ts, t.k = 1) ∧ ts.map Tok.t = w :: ws := by
  obtain ⟨l, hll⟩ : ∃ l, w ++ (tailF ws ++ e) = l := ⟨_, rfl⟩
  have hbl : blankF l = 0 := by rw [← hll]; exact blank_w hw
  have hlen : ws.length + 1 < l.length + 1 := by
    have h1 : ∀ ws : List (List UInt8), ws.length ≤ (tailF ws).length := by
      intro ws
      induction ws with
      | nil => exact Nat.zero_le _
      | cons x ws ih => rw [tail_cons, List.length_append, List.length_cons, List.length_cons]; omega
    have h2 := List.length_pos_iff.2 hw.ne
    have h3 := h1 ws
    rw [← hll, List.length_append, List.length_append]
    omega
  obtain ⟨ts, e1, e2, e3⟩ := go_abc l e he ws w (l.length + 1) 0 [] hw hws (by rw [List.drop_zero, hll]) hlen (by simpa using hn)
  rw [hll] at hl ⊢
  refine ⟨ts, l.length, ?_, e2, e3⟩
  unfold allF
  rw [if_neg (by omega), hbl, e1]
  rfl

/-! ### the reader -/
def cB : List UInt8 := [99]
theorem isE (a : Nat) (s : List UInt8) : isB [⟨4, [], a⟩] s = false := rfl
theorem red_end {f : Nat} {t : Tok} {r : List Tok} (hk : t.k = 1 ∨ t.k = 4) (ns : List Nd) : redirL (f + 1) [] (t :: r) ns = .ok [] (t :: r) ns := by
  rw [redirL]
  have h3 : (t.k == 3) = false := by rw [beq_eq_false_iff_ne]; omega
  have h2 : rdrB t = false := by
    unfold rdrB
    rw [show (t.k == 2) = false by rw [beq_eq_false_iff_ne]; omega]
    rfl
  simp only [h3, h2, Bool.false_and, Bool.false_eq_true, if_false]
theorem sim_go (E : Tok) (hE : E.k = 4) : ∀ (r : List Tok) (f : Nat) (m : Nd) (ns : List Nd), (∀ t ∈ r, t.k = 1) → 0 < m.words.length → r.length < f → simL f m (r ++ [E]) ns = .ok { m with words := m.words ++ r.map Tok.t } [E] ns
  | [], f, m, ns, _, hm, hf => by
    obtain ⟨f, rfl⟩ : ∃ g, f = g + 1 := ⟨f - 1, by rw [List.length_nil] at hf; omega⟩
    rw [simL]
    have : redirF ([] ++ [E]) ns = .ok [] [E] ns := red_end (.inr hE) ns
    rw [this, PR.bind_ok]
    simp only []
    rw [if_pos (by omega), List.append_nil, List.map_nil, List.append_nil]
  | t :: r, f, m, ns, hk, hm, hf => by
    obtain ⟨f, rfl⟩ : ∃ g, f = g + 1 := ⟨f - 1, by omega⟩
    rw [List.length_cons] at hf
    rw [simL]
    have hk1 := hk t (List.mem_cons_self ..)
    have : redirF (t :: r ++ [E]) ns = .ok [] (t :: r ++ [E]) ns := red_end (.inl hk1) ns
    rw [this, PR.bind_ok]
    simp only [List.cons_append, List.append_nil]
    rw [if_neg (by omega), if_pos hm, sim_go E hE r f _ ns (fun x hx => hk x (List.mem_cons_of_mem _ hx)) (by simp) (by omega)]
    simp
theorem sim_abc (E t : Tok) (hE : E.k = 4) (ht : t.k = 1) (htt : t.t = cB) (r : List Tok) (hr : ∀ x ∈ r, x.k = 1) : simF (t :: (r ++ [E])) [] = .ok 0 [E] [{ kind := 1, words := cB :: r.map Tok.t }] := by
  unfold simF
  have h1 : simL ((t :: (r ++ [E])).length + 1) { kind := 1 } (t :: (r ++ [E])) [] = .ok { kind := 1, words := cB :: r.map Tok.t } [E] [] := by
    rw [simL]
    have : redirF (t :: (r ++ [E])) [] = .ok [] (t :: (r ++ [E])) [] := red_end (.inl ht) []
    rw [this, PR.bind_ok]
    simp only [List.append_nil]
    rw [if_neg (by omega), if_neg (by simp), htt, if_neg (by decide), if_neg (by decide)]
    rw [sim_go E hE r _ _ [] hr (by simp) (by simp only [List.length_cons, List.length_append, List.length_nil]; omega)]
    rfl
  rw [h1, PR.bind_ok]
  simp only []
  rw [if_neg (by simp)]
  rfl
theorem parse_abc (E t : Tok) (hE : E = ⟨4, [], E.a⟩) (ht : t.k = 1) (htt : t.t = cB) (r : List Tok) (hr : ∀ x ∈ r, x.k = 1) : parseT (t :: (r ++ [E])) = ⟨[{ kind := 1, words := cB :: r.map Tok.t }], 0, 0⟩ := by
  have hE4 : E.k = 4 := by rw [hE]
  obtain ⟨m, hm⟩ : ∃ m : Nd, ({ kind := 1, words := cB :: r.map Tok.t } : Nd) = m := ⟨_, rfl⟩
  have hs := sim_abc E t hE4 ht htt r hr
  rw [hm] at hs ⊢
  have hbr : breaksF (t :: (r ++ [E])) = t :: (r ++ [E]) := by
    rw [breaksF, ht]
    rfl
  have hcmp : cmpH (t :: (r ++ [E])) = false := by
    show cmpB t = false
    unfold cmpB
    rw [ht, htt]
    decide
  have hfun : funB (t :: (r ++ [E])) = false := by
    have : ∀ u q, r ++ [E] = u :: q → u.k ≠ 2 := by
      intro u q e
      cases r with
      | nil => injection e with e _; rw [← e]; omega
      | cons x r => injection e with e _; have := hr x (List.mem_cons_self ..); rw [← e]; omega
    cases hre : r ++ [E] with
    | nil => rfl
    | cons u q =>
      have h2 := this u q hre
      unfold funB
      simp only []
      rw [show (u.k == 2) = false by rw [beq_eq_false_iff_ne]; exact h2]
      simp
  have hcmd : ∀ cmp : Drd, cmdF cmp 0 (t :: (r ++ [E])) [] = .ok 0 [E] [m] := by
    intro cmp
    unfold cmdF
    rw [hcmp, hfun, if_neg (by decide), if_neg (by decide), hs]
  have hw : isB (t :: (r ++ [E])) wBang = false := by
    show (_ || _) = false
    unfold sgnB wrdB
    simp only []
    rw [ht, htt]
    decide
  have hpipe : ∀ cmp : Drd, pipeF (cmdF cmp 0) (t :: (r ++ [E])) [] = .ok 0 [E] [m] := by
    intro cmp
    unfold pipeF takeT
    rw [hw, if_neg (by decide), hcmd, PR.bind_ok, pipeL, hE, isE, if_neg (by decide), PR.bind_ok]
    rfl
  have hitem : ∀ cmp : Drd, itemF (pipeF (cmdF cmp 0)) (t :: (r ++ [E])) [] = .ok 0 [E] [m] := by
    intro cmp
    unfold itemF
    rw [hpipe, PR.bind_ok, itemL, hE, isE, isE, if_neg (by decide), if_neg (by decide)]
  have hlst : ∀ f, lst f 0 (t :: (r ++ [E])) [] = .ok 0 [E] [m] := by
    intro f
    unfold lst lstF listF
    rw [hbr, listL, hitem, PR.bind_ok, hE]
    simp only [isE, takeT, Bool.or_false, Bool.false_eq_true, if_false]
    rfl
  unfold parseT
  rw [hbr]
  simp only []
  rw [if_neg (by omega), hlst]
  simp only []
  rw [if_neg (by omega), if_neg (by simp)]
theorem parse_line {e : List UInt8} {ws : List (List UInt8)} (hws : ∀ x ∈ ws, OkW x) (he : Fin e) (hl : (cB ++ (tailF ws ++ e)).length ≤ 4096) (hn : ws.length < 400) : parseF (cB ++ (tailF ws ++ e)) = ⟨[{ kind := 1, words := cB :: ws }], 0, 0⟩ := by
  obtain ⟨ts, a, h1, h2, h3⟩ := all_abc (w := cB) ⟨by decide, by decide⟩ hws he hl hn
  unfold parseF
  rw [h1]
  cases ts with
  | nil => cases h3
  | cons t r =>
    rw [List.map_cons] at h3
    injection h3 with h4 h5
    show parseT (t :: (r ++ [⟨4, [], a⟩])) = _
    rw [parse_abc ⟨4, [], a⟩ t rfl (h2 t (List.mem_cons_self ..)) h4 r (fun x hx => h2 x (List.mem_cons_of_mem _ hx)), h5]

/-! ### the printer -/
theorem puts_flat : ∀ (l : List (List UInt8)) (b : List UInt8), b.length + l.flatten.length ≤ 4096 → putsF b l = b ++ l.flatten
  | [], b, _ => by rw [List.flatten_nil, List.append_nil]; rfl
  | s :: l, b, h => by
    rw [List.flatten_cons, List.length_append] at h
    rw [puts_cons, show putF b s = b ++ s by unfold putF; rw [if_pos (by omega), List.take_of_length_le (by omega)], puts_flat l _ (by rw [List.length_append]; omega), List.flatten_cons, List.append_assoc]
theorem wordsE_flat : ∀ ws : List (List UInt8), (wordsE ws true).flatten = tailF ws
  | [] => rfl
  | w :: ws => by
    rw [wordsE, tail_cons]
    simp only [if_true, List.flatten_append, List.flatten_cons, List.flatten_nil, List.append_nil, wordsE_flat ws]
    rfl
def cmdN (ws : List (List UInt8)) : List Nd := [{ kind := 1, words := ws }]
theorem print_cmd (ws : List (List UInt8)) (hl : (cB ++ tailF ws).length ≤ 4096) : printF (cmdN (cB :: ws)) = if (parseF (cB ++ tailF ws)).e = 0 ∧ (parseF (cB ++ tailF ws)).ns = cmdN (cB :: ws) then cB ++ tailF ws else [] := by
  have ho : ordB (cmdN (cB :: ws)) = true := rfl
  have hn : nodeE (cmdN (cB :: ws)) 1 0 = cB :: wordsE ws true := by
    show ([] ++ (([] ++ [cB]) ++ wordsE ws true)) ++ [] = _
    rw [List.append_nil]
    rfl
  have hp : putsF [] (nodeE (cmdN (cB :: ws)) (cmdN (cB :: ws)).length ((cmdN (cB :: ws)).length - 1)) = cB ++ tailF ws := by
    show putsF [] (nodeE (cmdN (cB :: ws)) 1 0) = _
    rw [hn, puts_flat _ _ (by rw [List.flatten_cons, wordsE_flat, List.length_nil]; omega), List.flatten_cons, wordsE_flat, List.nil_append]
  unfold printF
  rw [if_pos ho]
  simp only [hp]
  rw [if_neg (by omega)]
theorem print_words {ws : List (List UInt8)} (hws : ∀ x ∈ ws, OkW x) (hl : (cB ++ tailF ws).length ≤ 4096) (hn : ws.length < 400) : printF (cmdN (cB :: ws)) = cB ++ tailF ws := by
  rw [print_cmd ws hl]
  have := parse_line hws (.inl rfl) (by rw [List.append_nil]; exact hl) hn
  rw [List.append_nil] at this
  rw [this, if_pos ⟨rfl, rfl⟩]
theorem cmd_ne {a b : List (List UInt8)} (h : a.length ≠ b.length ∨ a.getLast? ≠ b.getLast?) : cmdN (cB :: a) ≠ cmdN (cB :: b) := by
  intro e
  unfold cmdN at e
  injection e with e _
  injection e with _ _ _ _ e _ _ _
  injection e with _ e
  subst e
  rcases h with h | h <;> exact h rfl
theorem print_bad {ws : List (List UInt8)} (hws : ∀ x ∈ ws, OkW x) (hl : (cB ++ tailF ws).length ≤ 4095) (hn : ws.length < 400) : printF (cmdN (cB :: (ws ++ [[]]))) = [] := by
  have hl2 : (cB ++ tailF (ws ++ [[]])).length ≤ 4096 := by
    rw [tail_snoc, ← List.append_assoc, List.length_append]
    simp only [List.length_cons, List.length_nil]
    omega
  rw [print_cmd _ hl2]
  rw [tail_snoc] at hl2 ⊢
  rw [parse_line hws (.inr rfl) hl2 hn, if_neg]
  rintro ⟨_, e⟩
  exact cmd_ne (.inl (by simp)) e
theorem print_worse {ws : List (List UInt8)} (hws : ∀ x ∈ ws, OkW x) (hl : (cB ++ tailF ws).length ≤ 4092) (hn : ws.length < 398) : printF (cmdN (cB :: (ws ++ [[97, 32, 98]]))) = [] := by
  have he : tailF (ws ++ [[97, 32, 98]]) = tailF (ws ++ [[97], [98]]) := by simp [tailF]
  have hl2 : (cB ++ tailF (ws ++ [[97, 32, 98]])).length ≤ 4096 := by
    rw [tail_snoc, ← List.append_assoc, List.length_append]
    simp only [List.length_cons, List.length_nil]
    omega
  rw [print_cmd _ hl2]
  rw [he] at hl2 ⊢
  have hw2 : ∀ x ∈ ws ++ [[97], [98]], OkW x := by
    intro x hx
    rw [List.mem_append] at hx
    rcases hx with hx | hx
    · exact hws x hx
    · simp only [List.mem_cons, List.not_mem_nil, or_false] at hx
      rcases hx with rfl | rfl <;> exact ⟨by decide, by decide⟩
  have := parse_line hw2 (.inl rfl) (by rw [List.append_nil]; exact hl2) (by rw [List.length_append, List.length_cons, List.length_cons, List.length_nil]; omega)
  rw [List.append_nil] at this
  rw [this, if_neg]
  rintro ⟨_, e⟩
  exact cmd_ne (.inl (by simp)) e

end Go.Proofs.Ytdhfhphbkfgamaa
