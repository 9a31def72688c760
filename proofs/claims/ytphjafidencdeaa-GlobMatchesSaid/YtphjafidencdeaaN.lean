/- Plain laws: the parts of quoted texts, stars, marks and sets; what they stand for. -/
import Derived.Test.YtphjafidencdeaaL
import Derived.Test.YtphjafidencdeaaM
namespace Go.Proofs.Ytphjafidencdeaa
open Go.RowKit

def kd (p : Pt) : Kd := if p.many then none else some p.s.has
def lit (c : UInt8) : Pt := ⟨false, false, Ws.zero.add c⟩
def starP : Pt := ⟨true, true, Ws.zero⟩
def markP : Pt := ⟨false, true, Ws.all⟩
theorem kd_lit (c : UInt8) : kd (lit c) = some (fun d => c == d) := by
  unfold kd lit
  rw [if_neg (by simp)]
  congr 1
  funext d
  rw [has_add, has_zero, Bool.false_or]
theorem kd_star : kd starP = none := rfl
theorem kd_mark : kd markP = some fun _ => true := by
  unfold kd markP
  rw [if_neg (by decide)]
  congr 1
  funext d
  exact has_all d

theorem special_not {c : UInt8} (h : special c = false) : c ≠ 42 ∧ c ≠ 63 ∧ c ≠ 91 ∧ c ≠ 93 ∧ c ≠ 33 ∧ c ≠ 45 ∧ c ≠ 92 := by
  refine ⟨?_, ?_, ?_, ?_, ?_, ?_, ?_⟩ <;> (rintro rfl; revert h; decide)
theorem quo_ne {c : UInt8} (h : c ≠ 92) (r : List UInt8) : quo (c :: r) = (c, 1) := by
  cases r with
  | nil => rfl
  | cons d r => show (if c = 92 then (d, 2) else (c, 1)) = _; rw [if_neg h]
theorem quo_92 (d : UInt8) (r : List UInt8) : quo (92 :: d :: r) = (d, 2) := rfl
theorem stepP_lit {l : List UInt8} {c : UInt8} {n : Nat} (h : quo l = (c, n)) (h1 : n ≠ 1 ∨ (c ≠ 42 ∧ c ≠ 63 ∧ c ≠ 91)) : stepP l = (lit c, n) := by
  unfold stepP
  rw [h]
  show (if n = 1 ∧ c = 42 then _ else if n = 1 ∧ c = 63 then _ else if n = 1 ∧ c = 91 then _ else ((⟨false, false, Ws.zero.add c⟩ : Pt), n)) = _
  rw [if_neg, if_neg, if_neg]
  · rfl
  · rintro ⟨a, b⟩; rcases h1 with h1 | h1
    · exact h1 a
    · exact h1.2.2 b
  · rintro ⟨a, b⟩; rcases h1 with h1 | h1
    · exact h1 a
    · exact h1.2.1 b
  · rintro ⟨a, b⟩; rcases h1 with h1 | h1
    · exact h1 a
    · exact h1.1 b
theorem quo_quote1 (c : UInt8) (r : List UInt8) : quo (quote1 c ++ r) = (c, (quote1 c).length) := by
  unfold quote1
  cases h : special c with
  | true => rfl
  | false => exact quo_ne (special_not h).2.2.2.2.2.2 r
theorem stepP_quote1 (c : UInt8) (r : List UInt8) : stepP (quote1 c ++ r) = (lit c, (quote1 c).length) := by
  refine stepP_lit (quo_quote1 c r) ?_
  unfold quote1
  cases h : special c with
  | true => exact .inl (by simp)
  | false => exact .inr ⟨(special_not h).1, (special_not h).2.1, (special_not h).2.2.1⟩
theorem quote1_ne (c : UInt8) (r : List UInt8) : quote1 c ++ r ≠ [] := by
  unfold quote1
  split <;> simp
theorem parts_quote (s r : List UInt8) : partsF (quoteF s ++ r) = s.map lit ++ partsF r := by
  induction s with
  | nil => rfl
  | cons c s ih =>
    have e : quoteF (c :: s) ++ r = quote1 c ++ (quoteF s ++ r) := by
      show (quote1 c ++ quoteF s) ++ r = _
      rw [List.append_assoc]
    rw [e, partsF_cons (quote1_ne _ _), stepP_quote1]
    show lit c :: partsF ((quote1 c ++ (quoteF s ++ r)).drop (quote1 c).length) = _
    rw [List.drop_left, ih]
    rfl
theorem parts_quote' (s : List UInt8) : partsF (quoteF s) = s.map lit := by
  have := parts_quote s []
  rwa [List.append_nil, partsF_nil, List.append_nil] at this
theorem parts_star (r : List UInt8) : partsF (42 :: r) = starP :: partsF r := by
  have h : stepP (42 :: r) = (starP, 1) := by
    unfold stepP
    rw [quo_ne (by decide)]
    rfl
  rw [partsF_cons (by simp), h]
  rfl
theorem parts_mark (r : List UInt8) : partsF (63 :: r) = markP :: partsF r := by
  have h : stepP (63 :: r) = (markP, 1) := by
    unfold stepP
    rw [quo_ne (by decide)]
    rfl
  rw [partsF_cons (by simp), h]
  rfl
theorem parts_marks (n : Nat) (r : List UInt8) : partsF (List.replicate n 63 ++ r) = List.replicate n markP ++ partsF r := by
  induction n with
  | zero => rfl
  | succ n ih =>
    show partsF (63 :: (List.replicate n 63 ++ r)) = _
    rw [parts_mark, ih]
    rfl

theorem ma_lits (s : List UInt8) (L : List Kd) (t : List UInt8) : Ma ((s.map lit).map kd ++ L) t ↔ ∃ t', t = s ++ t' ∧ Ma L t' := by
  induction s generalizing t with
  | nil => exact ⟨fun h => ⟨t, rfl, h⟩, fun ⟨t', e, h⟩ => by rw [e]; exact h⟩
  | cons c s ih =>
    show Ma (kd (lit c) :: ((s.map lit).map kd ++ L)) t ↔ _
    rw [kd_lit, ma_one]
    constructor
    · rintro ⟨d, u, rfl, hd, h⟩
      obtain ⟨t', rfl, h8⟩ := (ih u).1 h
      have : c = d := by simpa using hd
      subst this
      exact ⟨t', rfl, h8⟩
    · rintro ⟨t', rfl, h⟩
      exact ⟨c, s ++ t', rfl, by simp, (ih _).2 ⟨t', rfl, h⟩⟩
/-- A quoted text stands for itself alone. -/
theorem ma_quote (s t : List UInt8) : Ma ((partsF (quoteF s)).map kd) t ↔ t = s := by
  rw [parts_quote']
  have := ma_lits s [] t
  rw [List.append_nil] at this
  rw [this]
  constructor
  · rintro ⟨t', rfl, h⟩
    rw [ma_nil.1 h, List.append_nil]
  · rintro rfl
    exact ⟨[], by rw [List.append_nil], .nil⟩
theorem hasL_quote (s : List UInt8) : (partsF (quoteF s)).any (·.wild) = false := by
  rw [parts_quote', List.any_eq_false]
  intro x hx
  obtain ⟨c, _, rfl⟩ := List.mem_map.1 hx
  simp [lit]
theorem plain_quote (s : List UInt8) : plainF (quoteF s) = s := by
  induction s with
  | nil => rfl
  | cons c s ih =>
    show plainF (quote1 c ++ quoteF s) = _
    rw [plainF_step (quote1_ne _ _), quo_quote1]
    show c :: plainF ((quote1 c ++ quoteF s).drop (quote1 c).length) = _
    rw [List.drop_left, ih]
/-! ### marks -/
theorem ma_marks (n : Nat) (L : List Kd) (s : List UInt8) : Ma ((List.replicate n markP).map kd ++ L) s ↔ n ≤ s.length ∧ Ma L (s.drop n) := by
  induction n generalizing s with
  | zero => exact ⟨fun h => ⟨Nat.zero_le _, h⟩, fun h => h.2⟩
  | succ n ih =>
    show Ma (kd markP :: ((List.replicate n markP).map kd ++ L)) s ↔ _
    rw [kd_mark, ma_one]
    constructor
    · rintro ⟨c, t, rfl, _, h⟩
      obtain ⟨h1, h2⟩ := (ih t).1 h
      exact ⟨by simpa using h1, h2⟩
    · rintro ⟨h1, h2⟩
      match s, h1, h2 with
      | c :: t, h1, h2 => exact ⟨c, t, rfl, rfl, (ih t).2 ⟨by simpa using h1, h2⟩⟩
theorem ma_all (s : List UInt8) : Ma [none] s := by
  have := Ma.star s Ma.nil
  rwa [List.append_nil] at this
theorem marks_only (n : Nat) (s : List UInt8) : Ma ((partsF (List.replicate n 63)).map kd) s ↔ s.length = n := by
  have h := parts_marks n []
  rw [List.append_nil, partsF_nil, List.append_nil] at h
  rw [h]
  have h2 := ma_marks n [] s
  rw [List.append_nil] at h2
  rw [h2, ma_nil]
  constructor
  · rintro ⟨a, b⟩
    have := congrArg List.length b
    rw [List.length_drop] at this
    simp at this
    omega
  · intro e
    exact ⟨by omega, List.drop_eq_nil_of_le (by omega)⟩
theorem marks_star (n : Nat) (s : List UInt8) : Ma ((partsF (List.replicate n 63 ++ [42])).map kd) s ↔ n ≤ s.length := by
  rw [parts_marks, parts_star, partsF_nil, List.map_append]
  show Ma ((List.replicate n markP).map kd ++ [none]) s ↔ _
  rw [ma_marks]
  exact ⟨fun h => h.1, fun h => ⟨h, ma_all _⟩⟩
theorem star_marks (n : Nat) (s : List UInt8) : Ma ((partsF (42 :: List.replicate n 63)).map kd) s ↔ n ≤ s.length := by
  rw [parts_star]
  show Ma (none :: (partsF (List.replicate n 63)).map kd) s ↔ _
  rw [ma_star]
  constructor
  · rintro ⟨u, t, rfl, h⟩
    rw [marks_only] at h
    rw [List.length_append]
    omega
  · intro h
    exact ⟨s.take (s.length - n), s.drop (s.length - n), (List.take_append_drop _ _).symm, (marks_only _ _).2 (by rw [List.length_drop]; omega)⟩

/-! ### sets -/
theorem addR_one (s : Ws) (c : UInt8) : addR s c c = s.add c := by
  unfold addR
  rw [show c.toNat + 1 - c.toNat = 1 by omega]
  show s.add (UInt8.ofNat c.toNat) = _
  rw [UInt8.ofNat_toNat]
theorem getD_drop0 (l : List UInt8) (n : Nat) : l.getD n 0 = (l.drop n).getD 0 0 := by simp [List.getD_eq_getElem?_getD, List.getElem?_drop]
theorem head_quote (m : List UInt8) : (quoteF m ++ [93]).getD 0 0 ≠ 45 ∧ (quoteF m ++ [93]).getD 0 0 ≠ 33 := by
  cases m with
  | nil => exact ⟨by decide, by decide⟩
  | cons c m =>
    have e : (quoteF (c :: m) ++ [93]).getD 0 0 = (quote1 c).getD 0 0 := by
      show ((quote1 c ++ quoteF m) ++ [93]).getD 0 0 = _
      unfold quote1
      split <;> rfl
    rw [e]
    unfold quote1
    cases h : special c with
    | true => exact ⟨by simp, by simp⟩
    | false => exact ⟨(special_not h).2.2.2.2.2.1, (special_not h).2.2.2.2.1⟩
theorem head_quote93 (c : UInt8) (r : List UInt8) : (quote1 c ++ r).getD 0 0 ≠ 93 := by
  unfold quote1
  cases h : special c with
  | true => simp
  | false => exact (special_not h).2.2.2.1
theorem set_quote (l : List UInt8) (first : Nat) : ∀ (m : List UInt8) (i : Nat) (s : Ws), l.drop i = quoteF m ++ [93] → first ≤ i → (m = [] → first < i) → setGo addR l first i s = some (m.foldl Ws.add s, l.length) := by
  intro m
  induction m with
  | nil =>
    intro i s hd hf hi
    have hlen := congrArg List.length hd
    rw [List.length_drop] at hlen
    simp [quoteF] at hlen
    have hlt : i < l.length := by omega
    have hat : l[i] = 93 := by
      have := getD_drop0 l i
      rw [hd] at this
      rw [List.getD_eq_getElem?_getD, List.getElem?_eq_getElem hlt] at this
      exact this
    rw [setGo_close hlt ⟨hat, hi rfl⟩]
    show some (s, i + 1) = some (s, l.length)
    rw [show i + 1 = l.length by omega]
  | cons c m ih =>
    intro i s hd hf hi
    have hd' : l.drop i = quote1 c ++ (quoteF m ++ [93]) := by
      rw [hd]
      show (quote1 c ++ quoteF m) ++ [93] = _
      rw [List.append_assoc]
    have hne := quote1_ne c (quoteF m ++ [93])
    have hlt : i < l.length := by
      rcases Nat.lt_or_ge i l.length with h | h
      · exact h
      · rw [List.drop_eq_nil_of_le h] at hd'
        exact absurd hd'.symm hne
    have hat : l[i] ≠ 93 := by
      have := getD_drop0 l i
      rw [hd', List.getD_eq_getElem?_getD, List.getElem?_eq_getElem hlt] at this
      intro e
      exact head_quote93 c _ (this.symm.trans e)
    have hq : quo (l.drop i) = (c, (quote1 c).length) := by rw [hd', quo_quote1]
    have hnext : l.drop (i + (quote1 c).length) = quoteF m ++ [93] := by
      rw [← List.drop_drop, hd', List.drop_left]
    have h45 : l.getD (i + (quote1 c).length) 0 ≠ 45 := by
      rw [getD_drop0, hnext]
      exact (head_quote m).1
    have hl1 : 1 ≤ (quote1 c).length := by unfold quote1; split <;> simp
    rw [setGo_one hlt (fun h => hat h.1) (by rw [hq]; rintro ⟨_, h, _⟩; exact h45 h), hq]
    show setGo addR l first (i + (quote1 c).length) (addR s c c) = _
    rw [ih _ _ hnext (by omega) (fun _ => by omega), addR_one]
    rfl
theorem has_fold (m : List UInt8) : ∀ (s : Ws) (d : UInt8), (m.foldl Ws.add s).has d = (s.has d || m.any (· == d)) := by
  induction m with
  | nil => intro s d; simp
  | cons c m ih =>
    intro s d
    show (m.foldl Ws.add (s.add c)).has d = _
    rw [ih, has_add, List.any_cons, Bool.or_assoc]
theorem ok_fold (m : List UInt8) : ∀ (s : Ws), s.ok → (m.foldl Ws.add s).ok := by
  induction m with
  | nil => intro s h; exact h
  | cons c m ih => intro s h; exact ih _ (Ws.ok_add h c)
theorem notB_quote (m : List UInt8) : notB (quoteF m ++ [93]) = false := by
  have h := (head_quote m).2
  unfold notB
  rw [decide_eq_false_iff_not]
  intro e
  apply h
  cases hq : quoteF m ++ [93] with
  | nil => rw [hq] at e; cases e
  | cons a b =>
    rw [hq] at e
    injection e
theorem setF_quote {m : List UInt8} (hm : m ≠ []) : setF (quoteF m ++ [93]) = (⟨false, true, m.foldl Ws.add Ws.zero⟩, (quoteF m ++ [93]).length) := by
  unfold setF
  rw [notB_quote]
  have h := set_quote (quoteF m ++ [93]) 0 m 0 Ws.zero rfl (Nat.le_refl _) (fun h => absurd h hm)
  rw [if_neg Bool.false_ne_true, h]
  rfl
theorem setF_quote_not {m : List UInt8} (hm : m ≠ []) : setF (33 :: (quoteF m ++ [93])) = (⟨false, true, (m.foldl Ws.add Ws.zero).inv⟩, (33 :: (quoteF m ++ [93])).length) := by
  unfold setF
  rw [show notB (33 :: (quoteF m ++ [93])) = true from rfl]
  have h := set_quote (33 :: (quoteF m ++ [93])) 1 m 1 Ws.zero rfl (Nat.le_refl _) (fun h => absurd h hm)
  rw [if_pos rfl, h]
  rfl
theorem parts_set {l : List UInt8} {x : Pt} (h : setF l = (x, l.length)) (hl : 0 < l.length) : partsF (91 :: l) = [x] := by
  have hs : stepP (91 :: l) = (x, 1 + l.length) := by
    unfold stepP
    rw [quo_ne (by decide)]
    show (if 0 < (setF l).2 then ((setF l).1, 1 + (setF l).2) else _) = _
    rw [h, if_pos hl]
  rw [partsF_cons (by simp), hs]
  show x :: partsF ((91 :: l).drop (1 + l.length)) = _
  rw [List.drop_eq_nil_of_le (by rw [List.length_cons]; omega), partsF_nil]

/-! ### a pattern that has nothing -/
theorem setF_wild {l : List UInt8} (h : 0 < (setF l).2) : (setF l).1.wild = true := by
  unfold setF at h ⊢
  cases hg : setGo addR l (if notB l then 1 else 0) (if notB l then 1 else 0) Ws.zero with
  | none => rw [hg] at h; exact absurd h (Nat.lt_irrefl 0)
  | some q => obtain ⟨s, n⟩ := q; rfl
theorem step_plain {l : List UInt8} (h : (stepP l).1.wild = false) : stepP l = (lit (quo l).1, (quo l).2) := by
  by_cases h1 : (quo l).2 = 1 ∧ (quo l).1 = 42
  · unfold stepP at h; rw [if_pos h1] at h; cases h
  by_cases h2 : (quo l).2 = 1 ∧ (quo l).1 = 63
  · unfold stepP at h; rw [if_neg h1, if_pos h2] at h; cases h
  by_cases h3 : (quo l).2 = 1 ∧ (quo l).1 = 91
  · unfold stepP at h ⊢
    rw [if_neg h1, if_neg h2, if_pos h3] at h ⊢
    by_cases h4 : 0 < (setF (l.drop 1)).2
    · rw [if_pos h4] at h
      rw [setF_wild h4] at h
      cases h
    · rw [if_neg h4]
      show (_, 1) = (_, (quo l).2)
      rw [h3.1]
      rfl
  · unfold stepP
    rw [if_neg h1, if_neg h2, if_neg h3]
    rfl
theorem plain_only : ∀ (m : Nat) (l : List UInt8), l.length = m → (partsF l).any (·.wild) = false → partsF l = (plainF l).map lit := by
  intro m
  induction m using Nat.strongRecOn with
  | ind m ih =>
    intro l hm h
    by_cases hl : l = []
    · subst hl; rw [partsF_nil]; rfl
    · rw [partsF_cons hl] at h ⊢
      rw [List.any_cons, Bool.or_eq_false_iff] at h
      rw [step_plain h.1, plainF_step hl, List.map_cons]
      rw [step_plain h.1] at h
      have h1 := quo_pos hl
      have h2 : 0 < l.length := List.length_pos_iff.2 hl
      rw [ih _ (by rw [List.length_drop]; omega) (l.drop (quo l).2) rfl h.2]
theorem ma_plain {p : List UInt8} (h : (partsF p).any (·.wild) = false) : Ma ((partsF p).map kd) (plainF p) := by
  rw [plain_only _ p rfl h]
  have := (ma_lits (plainF p) [] (plainF p)).2 ⟨[], by rw [List.append_nil], .nil⟩
  rwa [List.append_nil] at this

end Go.Proofs.Ytphjafidencdeaa
