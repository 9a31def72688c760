/- The document's parts, as plain data; its sets and the program's. Plain Lean. -/
import Derived.Test.YtphjafidencdeaaN
import Derived.Test.YtphjafidencdeaaG
namespace Go.Proofs.Ytphjafidencdeaa
open Go.RowKit

/-- The document's part. -/
structure DPt where
  k : UInt8
  c : UInt8
  n : Bool
  f : UInt8 → Bool
def dset (f : UInt8 → Bool) : List Value := (List.range 256).map fun i => Value.bool (f (UInt8.ofNat i))
def DPt.cells (x : DPt) : Array Value := (Value.int .u8 x.k.toNat :: .int .u8 x.c.toNat :: .bool x.n :: dset x.f).toArray
theorem dset_len (f : UInt8 → Bool) : (dset f).length = 256 := by simp [dset]
theorem DPt.size (x : DPt) : x.cells.size = 259 := by
  unfold DPt.cells
  simp [dset_len]
theorem DPt.c0 (x : DPt) : x.cells[0]? = some (.int .u8 x.k.toNat) := rfl
theorem DPt.c1 (x : DPt) : x.cells[1]? = some (.int .u8 x.c.toNat) := rfl
theorem DPt.c2 (x : DPt) : x.cells[2]? = some (.bool x.n) := rfl
theorem DPt.cs (x : DPt) (d : Nat) (hd : d < 256) : x.cells[3 + d]? = some (.bool (x.f (UInt8.ofNat d))) := by
  have h : x.cells[3 + d]? = (Value.int .u8 x.k.toNat :: .int .u8 x.c.toNat :: .bool x.n :: dset x.f)[3 + d]? := by
    unfold DPt.cells
    rw [List.getElem?_toArray]
  rw [h, show 3 + d = d + 1 + 1 + 1 by omega, List.getElem?_cons_succ, List.getElem?_cons_succ, List.getElem?_cons_succ]
  unfold dset
  rw [List.getElem?_map, List.getElem?_range hd]
  rfl
theorem DPt.one_cells (x : DPt) : x.cells.all (·.oneCell') = true := by
  rw [Array.all_eq_true]
  intro i hi
  rw [DPt.size] at hi
  have hg : ∀ v, x.cells[i]? = some v → x.cells[i]'(by rw [DPt.size]; exact hi) = v := fun v h => by
    rw [Array.getElem?_eq_getElem (by rw [DPt.size]; exact hi)] at h
    exact Option.some.inj h
  rcases (show i = 0 ∨ i = 1 ∨ i = 2 ∨ ∃ d, d < 256 ∧ i = 3 + d from by
    by_cases h : i < 3
    · omega
    · exact .inr (.inr (.inr ⟨i - 3, by omega, by omega⟩))) with rfl | rfl | rfl | ⟨d, hd, rfl⟩
  · rw [hg _ x.c0]; rfl
  · rw [hg _ x.c1]; rfl
  · rw [hg _ x.c2]; rfl
  · rw [hg _ (x.cs d hd)]; rfl
/-- One cell of the set is written. -/
theorem DPt.put (x : DPt) (d : Nat) (hd : d < 256) (g : UInt8 → Bool) (h1 : g (UInt8.ofNat d) = true) (h2 : ∀ e, e < 256 → e ≠ d → g (UInt8.ofNat e) = x.f (UInt8.ofNat e)) :
    x.cells.setIfInBounds (3 + d) (.bool true) = ({ x with f := g } : DPt).cells := by
  apply Array.ext
  · rw [Array.size_setIfInBounds, DPt.size, DPt.size]
  · intro i hi hi'
    rw [DPt.size] at hi'
    have e1 := Array.getElem?_eq_getElem hi
    have e2 : ({ x with f := g } : DPt).cells[i]? = some _ := Array.getElem?_eq_getElem (by rw [DPt.size]; exact hi')
    apply Option.some.inj
    rw [← e1, ← e2, Array.getElem?_setIfInBounds]
    by_cases he : 3 + d = i
    · rw [if_pos he, if_pos (by rw [DPt.size]; omega), ← he, DPt.cs _ d hd]
      show _ = some (Value.bool (g _))
      rw [h1]
    · rw [if_neg he]
      rcases (show i = 0 ∨ i = 1 ∨ i = 2 ∨ ∃ e, e < 256 ∧ i = 3 + e from by
        by_cases h : i < 3
        · omega
        · exact .inr (.inr (.inr ⟨i - 3, by omega, by omega⟩))) with rfl | rfl | rfl | ⟨e, he2, rfl⟩
      · rw [DPt.c0, DPt.c0]
      · rw [DPt.c1, DPt.c1]
      · rw [DPt.c2, DPt.c2]
      · rw [DPt.cs _ e he2, DPt.cs _ e he2]
        show _ = some (Value.bool (g _))
        rw [h2 e he2 (by omega)]

/-! ### sets: another collector, another place -/
theorem setGo_map {α β : Type} {add : α → UInt8 → UInt8 → α} {add' : β → UInt8 → UInt8 → β} (φ : α → β) (h : ∀ s lo hi, φ (add s lo hi) = add' (φ s) lo hi) (l : List UInt8) (first : Nat) :
    ∀ (m i : Nat) (s : α), l.length - i = m → setGo add' l first i (φ s) = (setGo add l first i s).map fun q => (φ q.1, q.2) := by
  intro m
  induction m using Nat.strongRecOn with
  | ind m ih =>
    intro i s hm
    by_cases hi : i < l.length
    · by_cases hc : l[i] = 93 ∧ first < i
      · rw [setGo_close hi hc, setGo_close hi hc]; rfl
      · have hq := quo_pos (drop_ne hi)
        by_cases hr : i + (quo (l.drop i)).2 + 1 < l.length ∧ l.getD (i + (quo (l.drop i)).2) 0 = 45 ∧ l.getD (i + (quo (l.drop i)).2 + 1) 0 ≠ 93
        · rw [setGo_range hi hc hr, setGo_range hi hc hr, ← h]
          exact ih _ (by omega) _ _ rfl
        · rw [setGo_one hi hc hr, setGo_one hi hc hr, ← h]
          exact ih _ (by omega) _ _ rfl
    · rw [setGo_end hi, setGo_end hi]; rfl
theorem setGo_drop {α : Type} {add : α → UInt8 → UInt8 → α} (l : List UInt8) (a first : Nat) :
    ∀ (m i : Nat) (s : α), l.length - (a + i) = m → setGo add l (a + first) (a + i) s = (setGo add (l.drop a) first i s).map fun q => (q.1, a + q.2) := by
  intro m
  induction m using Nat.strongRecOn with
  | ind m ih =>
    intro i s hm
    have hlen : (l.drop a).length = l.length - a := List.length_drop
    by_cases hi : a + i < l.length
    · have hi' : i < (l.drop a).length := by omega
      have hat : (l.drop a)[i] = l[a + i] := by rw [List.getElem_drop]
      have hdd : (l.drop a).drop i = l.drop (a + i) := by rw [List.drop_drop]
      have hD : ∀ j, (l.drop a).getD j 0 = l.getD (a + j) 0 := fun j => by rw [List.getD_eq_getElem?_getD, List.getD_eq_getElem?_getD, List.getElem?_drop]
      by_cases hc : l[a + i] = 93 ∧ a + first < a + i
      · rw [setGo_close hi hc, setGo_close hi' ⟨by rw [hat]; exact hc.1, by omega⟩]; rfl
      · have hc' : ¬ ((l.drop a)[i] = 93 ∧ first < i) := fun h => hc ⟨by rw [← hat]; exact h.1, by omega⟩
        have hq := quo_pos (drop_ne hi)
        obtain ⟨k, hk⟩ : ∃ k, (quo (l.drop (a + i))).2 = k := ⟨_, rfl⟩
        obtain ⟨lo, hlo⟩ : ∃ k, (quo (l.drop (a + i))).1 = k := ⟨_, rfl⟩
        rw [hk] at hq
        by_cases hr : a + i + k + 1 < l.length ∧ l.getD (a + i + k) 0 = 45 ∧ l.getD (a + i + k + 1) 0 ≠ 93
        · have hr' : i + k + 1 < (l.drop a).length ∧ (l.drop a).getD (i + k) 0 = 45 ∧ (l.drop a).getD (i + k + 1) 0 ≠ 93 := by
            rw [hD, hD, show a + (i + k) = a + i + k by omega, show a + (i + k + 1) = a + i + k + 1 by omega]
            exact ⟨by omega, hr.2⟩
          rw [setGo_range hi hc (by rw [hk]; exact hr), setGo_range hi' hc' (by rw [hdd, hk]; exact hr'), hdd, hk, hlo, List.drop_drop, show a + i + k + 1 = a + (i + k + 1) by omega, show a + (i + k + 1) + (quo (l.drop (a + (i + k + 1)))).2 = a + (i + k + 1 + (quo (l.drop (a + (i + k + 1)))).2) by omega]
          exact ih _ (by omega) _ _ rfl
        · have hr' : ¬ (i + k + 1 < (l.drop a).length ∧ (l.drop a).getD (i + k) 0 = 45 ∧ (l.drop a).getD (i + k + 1) 0 ≠ 93) := by
            rw [hD, hD, show a + (i + k) = a + i + k by omega, show a + (i + k + 1) = a + i + k + 1 by omega]
            exact fun h => hr ⟨by omega, h.2⟩
          rw [setGo_one hi hc (by rw [hk]; exact hr), setGo_one hi' hc' (by rw [hdd, hk]; exact hr'), hdd, hk, hlo, show a + i + k = a + (i + k) by omega]
          exact ih _ (by omega) _ _ rfl
    · rw [setGo_end hi, setGo_end (by omega)]; rfl

def addD (f : UInt8 → Bool) (lo hi : UInt8) : UInt8 → Bool := fun d => f d || (decide (lo.toNat ≤ d.toNat) && decide (d.toNat ≤ hi.toNat))
theorem has_addN : ∀ (n c : Nat) (s : Ws) (d : UInt8), c + n ≤ 256 → (addN s c n).has d = (s.has d || (decide (c ≤ d.toNat) && decide (d.toNat < c + n))) := by
  intro n
  induction n with
  | zero =>
    intro c s d h
    show s.has d = _
    have : (decide (c ≤ d.toNat) && decide (d.toNat < c + 0)) = false := by
      rw [Bool.and_eq_false_iff]
      by_cases h : c ≤ d.toNat
      · exact .inr (by simp; omega)
      · exact .inl (by simp; omega)
    rw [this, Bool.or_false]
  | succ n ih =>
    intro c s d h
    show (addN (s.add (UInt8.ofNat c)) (c + 1) n).has d = _
    rw [ih _ _ _ (by omega), has_add, Bool.or_assoc]
    congr 1
    rw [Bool.eq_iff_iff]
    have hc : (UInt8.ofNat c).toNat = c := by rw [UInt8.toNat_ofNat']; omega
    have : (UInt8.ofNat c == d) = true ↔ d.toNat = c := by
      rw [beq_iff_eq]
      constructor
      · rintro rfl; exact hc
      · intro e; exact UInt8.toNat_inj.1 (by omega)
    simp only [Bool.or_eq_true, this, Bool.and_eq_true, decide_eq_true_eq]
    omega
theorem has_addR (s : Ws) (lo hi : UInt8) : (addR s lo hi).has = addD s.has lo hi := by
  funext d
  have := hi.toNat_lt
  have := lo.toNat_lt
  unfold addR addD
  by_cases h : lo.toNat ≤ hi.toNat
  · rw [has_addN _ _ _ _ (by omega)]
    congr 2
    rw [Bool.eq_iff_iff, decide_eq_true_eq, decide_eq_true_eq]
    omega
  · rw [show hi.toNat + 1 - lo.toNat = 0 by omega]
    show s.has d = _
    have : (decide (lo.toNat ≤ d.toNat) && decide (d.toNat ≤ hi.toNat)) = false := by
      rw [Bool.and_eq_false_iff]
      by_cases h : lo.toNat ≤ d.toNat
      · exact .inr (by simp; omega)
      · exact .inl (by simp; omega)
    rw [this, Bool.or_false]
def noF : UInt8 → Bool := fun _ => false
theorem has_zeroF : Ws.zero.has = noF := by
  funext d
  exact has_zero d
/-- The document's set, from a place of the whole pattern on. -/
def dNot (p : List UInt8) (i : Nat) : Bool := decide (i < p.length ∧ p.getD i 0 = 33)
def dsetF (p : List UInt8) (i : Nat) : DPt × Nat := match setGo addD p (i + if dNot p i then 1 else 0) (i + if dNot p i then 1 else 0) noF with
  | none => (⟨0, 0, false, noF⟩, 0)
  | some (f, n) => (⟨91, 0, dNot p i, f⟩, n)
theorem dNot_eq {p : List UInt8} {i : Nat} : dNot p i = notB (p.drop i) := by
  unfold dNot notB
  rw [Bool.eq_iff_iff, decide_eq_true_eq, decide_eq_true_eq, List.getD_eq_getElem?_getD]
  by_cases hi : i < p.length
  · rw [List.drop_eq_getElem_cons hi, List.getElem?_eq_getElem hi]
    show (i < p.length ∧ p[i] = 33) ↔ [p[i]] = [33]
    simp [hi]
  · rw [List.drop_eq_nil_of_le (by omega)]
    simp [hi]
/-- What the document's part stands for; and that it is more than a byte. -/
def DPt.one (x : DPt) (b : UInt8) : Bool := if x.k = 99 then x.c == b else if x.k = 91 then x.f b != x.n else x.k == 63
def DPt.kd (x : DPt) : Kd := if x.k = 42 then none else some x.one
def gD (x : DPt) : Kd × Bool := (x.kd, x.k != 99)
def hP (y : Pt) : Kd × Bool := (kd y, y.wild)
theorem setGo_pos {α : Type} {add : α → UInt8 → UInt8 → α} {l : List UInt8} {first : Nat} : ∀ (m i : Nat) (s : α), l.length - i = m → ∀ {s' n}, setGo add l first i s = some (s', n) → i < n := by
  intro m
  induction m using Nat.strongRecOn with
  | ind m ih =>
    intro i s hm s' n h
    by_cases hi : i < l.length
    · by_cases hc : l[i] = 93 ∧ first < i
      · rw [setGo_close hi hc] at h
        injection h with h
        injection h with _ h
        omega
      · have hq := quo_pos (drop_ne hi)
        by_cases hr : i + (quo (l.drop i)).2 + 1 < l.length ∧ l.getD (i + (quo (l.drop i)).2) 0 = 45 ∧ l.getD (i + (quo (l.drop i)).2 + 1) 0 ≠ 93
        · rw [setGo_range hi hc hr] at h
          have := ih _ (by omega) _ _ rfl h
          omega
        · rw [setGo_one hi hc hr] at h
          have := ih _ (by omega) _ _ rfl h
          omega
    · rw [setGo_end hi] at h
      cases h
theorem dset_rel (p : List UInt8) (i : Nat) :
    ((setF (p.drop i)).2 = 0 ∧ (dsetF p i).2 = 0) ∨ (0 < (setF (p.drop i)).2 ∧ (dsetF p i).2 = i + (setF (p.drop i)).2 ∧ gD (dsetF p i).1 = hP (setF (p.drop i)).1) := by
  have hnb := dNot_eq (p := p) (i := i)
  obtain ⟨nb, hb⟩ : ∃ nb, notB (p.drop i) = nb := ⟨_, rfl⟩
  obtain ⟨c, hc⟩ : ∃ c : Nat, (if nb = true then 1 else 0) = c := ⟨_, rfl⟩
  have h1 := setGo_drop (add := addD) p i c _ c noF rfl
  have h2 := setGo_map Ws.has has_addR (p.drop i) c _ c Ws.zero rfl
  rw [has_zeroF] at h2
  rw [h2] at h1
  unfold dsetF setF
  rw [hnb, hb, hc, h1]
  cases hg : setGo addR (p.drop i) c c Ws.zero with
  | none => exact .inl ⟨rfl, rfl⟩
  | some q =>
    obtain ⟨s, n⟩ := q
    have hn := setGo_pos _ _ _ rfl hg
    have hs := setGo_ok _ _ _ rfl Ws.ok_zero hg
    refine .inr ⟨by show 0 < n; omega, rfl, ?_⟩
    show gD ⟨91, 0, nb, s.has⟩ = hP ⟨false, true, if nb = true then s.inv else s⟩
    unfold gD hP
    refine Prod.ext ?_ rfl
    show (some (DPt.one ⟨91, 0, nb, s.has⟩) : Kd) = some (if nb = true then s.inv else s).has
    congr 1
    funext b
    show (s.has b != nb) = _
    cases nb with
    | true => rw [if_pos rfl, has_inv s hs]; cases s.has b <;> rfl
    | false => rw [if_neg Bool.false_ne_true]; cases s.has b <;> rfl

/-! ### parts: one step -/
def dlit (c : UInt8) : DPt := ⟨99, c, false, noF⟩
def dsig (c : UInt8) : DPt := ⟨c, 0, false, noF⟩
theorem g_lit (c : UInt8) : gD (dlit c) = hP (lit c) := by
  unfold gD hP
  refine Prod.ext ?_ rfl
  show (dlit c).kd = kd (lit c)
  rw [kd_lit]
  rfl
theorem g_star : gD (dsig 42) = hP starP := rfl
theorem g_mark : gD (dsig 63) = hP markP := by
  unfold gD hP
  refine Prod.ext ?_ rfl
  show (dsig 63).kd = kd markP
  rw [kd_mark]
  rfl
theorem quo_at {p : List UInt8} {i : Nat} (h : i < p.length) : quo (p.drop i) = if p[i] = 92 ∧ i + 1 < p.length then (p.getD (i + 1) 0, 2) else (p[i], 1) := by
  rw [List.drop_eq_getElem_cons h]
  by_cases h2 : i + 1 < p.length
  · rw [List.drop_eq_getElem_cons h2]
    show (if p[i] = 92 then (p[i + 1], 2) else (p[i], 1)) = _
    rw [List.getD_eq_getElem?_getD, List.getElem?_eq_getElem h2]
    by_cases hc : p[i] = 92
    · rw [if_pos hc, if_pos ⟨hc, h2⟩]; rfl
    · rw [if_neg hc, if_neg (fun h => hc h.1)]
  · rw [List.drop_eq_nil_of_le (by omega), if_neg (fun h => h2 h.2)]
    rfl
/-- The document's next part. -/
def dstep (p : List UInt8) (i : Nat) : DPt × Nat :=
  if p.getD i 0 = 91 ∧ 0 < (dsetF p (i + 1)).2 then dsetF p (i + 1)
  else if p.getD i 0 = 42 ∨ p.getD i 0 = 63 then (dsig (p.getD i 0), i + 1)
  else if p.getD i 0 = 92 ∧ i + 1 < p.length then (dlit (p.getD (i + 1) 0), i + 2)
  else (dlit (p.getD i 0), i + 1)
theorem dstep_rel {p : List UInt8} {i : Nat} (h : i < p.length) : gD (dstep p i).1 = hP (stepP (p.drop i)).1 ∧ (dstep p i).2 = i + (stepP (p.drop i)).2 := by
  have hq := quo_at h
  have hd : p.getD i 0 = p[i] := by rw [List.getD_eq_getElem?_getD, List.getElem?_eq_getElem h]; rfl
  obtain ⟨c, hc⟩ : ∃ c, p[i] = c := ⟨_, rfl⟩
  rw [hc] at hq hd
  have hdrop : (p.drop i).drop 1 = p.drop (i + 1) := by rw [List.drop_drop]
  have hr := dset_rel p (i + 1)
  unfold dstep stepP
  rw [hd, hdrop]
  by_cases h92 : c = 92 ∧ i + 1 < p.length
  · rw [if_pos h92] at hq
    rw [hq, if_neg (fun e => by rw [h92.1] at e; exact absurd e.1 (by decide)), if_neg (by rw [h92.1]; decide), if_pos h92, if_neg (fun e => absurd e.1 (by simp)), if_neg (fun e => absurd e.1 (by simp)), if_neg (fun e => absurd e.1 (by simp))]
    exact ⟨g_lit _, rfl⟩
  · rw [if_neg h92] at hq
    rw [hq]
    by_cases h42 : c = 42
    · subst h42
      rw [if_neg (fun e => absurd e.1 (by decide)), if_pos (.inl rfl), if_pos ⟨rfl, rfl⟩]
      exact ⟨g_star, rfl⟩
    by_cases h63 : c = 63
    · subst h63
      rw [if_neg (fun e => absurd e.1 (by decide)), if_pos (.inr rfl), if_neg (fun e => absurd e.2 (by decide)), if_pos ⟨rfl, rfl⟩]
      exact ⟨g_mark, rfl⟩
    rw [if_neg (c := (1 : Nat) = 1 ∧ c = 42) (fun e => h42 e.2), if_neg (c := (1 : Nat) = 1 ∧ c = 63) (fun e => h63 e.2)]
    by_cases h91 : c = 91
    · subst h91
      rcases hr with ⟨r1, r2⟩ | ⟨r1, r2, r3⟩
      · rw [if_neg (fun e => by rw [r2] at e; exact absurd e.2 (by decide)), if_neg (by decide), if_neg h92, if_pos ⟨rfl, rfl⟩, if_neg (by omega)]
        exact ⟨g_lit _, rfl⟩
      · rw [if_pos ⟨rfl, by omega⟩, if_pos ⟨rfl, rfl⟩, if_pos r1]
        exact ⟨r3, by rw [r2]; show _ = i + (1 + _); omega⟩
    · rw [if_neg (fun e => h91 e.1), if_neg (by rintro (e | e); exact h42 e; exact h63 e), if_neg h92, if_neg (fun e => h91 e.2)]
      exact ⟨g_lit _, rfl⟩
theorem dsetF_zero {p : List UInt8} {i : Nat} (h : (dsetF p i).2 = 0) : (dsetF p i).1 = ⟨0, 0, false, noF⟩ := by
  unfold dsetF at h ⊢
  cases hg : setGo addD p (i + if dNot p i then 1 else 0) (i + if dNot p i then 1 else 0) noF with
  | none => rfl
  | some q =>
    obtain ⟨f, n⟩ := q
    rw [hg] at h
    have := setGo_pos _ _ _ rfl hg
    have h : n = 0 := h
    omega

/-- The document's parts: from a place on. -/
def dparts (p : List UInt8) (i : Nat) : List DPt := if h : i < p.length then (dstep p i).1 :: dparts p (dstep p i).2 else []
termination_by p.length - i
decreasing_by
  have := (dstep_rel h).2
  have := stepP_pos (drop_ne h)
  omega
theorem dparts_end {p : List UInt8} {i : Nat} (h : ¬ i < p.length) : dparts p i = [] := by rw [dparts, dif_neg h]
theorem dparts_step {p : List UInt8} {i : Nat} (h : i < p.length) : dparts p i = (dstep p i).1 :: dparts p (dstep p i).2 := by rw [dparts, dif_pos h]
theorem dparts_rel (p : List UInt8) : ∀ (m i : Nat), p.length - i = m → (dparts p i).map gD = (partsF (p.drop i)).map hP := by
  intro m
  induction m using Nat.strongRecOn with
  | ind m ih =>
    intro i hm
    by_cases hi : i < p.length
    · obtain ⟨h1, h2⟩ := dstep_rel hi
      have h3 := stepP_pos (drop_ne hi)
      rw [dparts_step hi, partsF_cons (drop_ne hi), List.map_cons, List.map_cons, h1, ih _ (by omega) _ rfl, h2, List.drop_drop]
    · rw [dparts_end hi, List.drop_eq_nil_of_le (by omega), partsF_nil]
      rfl
theorem dparts_kd (p : List UInt8) : (dparts p 0).map DPt.kd = (partsF p).map kd := by
  have h := congrArg (List.map Prod.fst) (dparts_rel p _ 0 rfl)
  rw [List.map_map, List.map_map, List.drop_zero] at h
  exact h
theorem dparts_wild (p : List UInt8) : (dparts p 0).map (fun x => x.k != 99) = (partsF p).map (·.wild) := by
  have h := congrArg (List.map Prod.snd) (dparts_rel p _ 0 rfl)
  rw [List.map_map, List.map_map, List.drop_zero] at h
  exact h
theorem dparts_has (p : List UInt8) : (dparts p 0).any (fun x => x.k != 99) = (partsF p).any (·.wild) := by
  have h := congrArg (fun l : List Bool => l.any id) (dparts_wild p)
  simpa [List.any_map] using h
theorem dparts_len (p : List UInt8) : ∀ (m i : Nat), p.length - i = m → (dparts p i).length ≤ p.length - i := by
  intro m
  induction m using Nat.strongRecOn with
  | ind m ih =>
    intro i hm
    by_cases hi : i < p.length
    · have h2 := (dstep_rel hi).2
      have h3 := stepP_pos (drop_ne hi)
      have := ih _ (by omega) (dstep p i).2 rfl
      rw [dparts_step hi, List.length_cons]
      omega
    · rw [dparts_end hi]
      exact Nat.zero_le _
theorem dstep_pos {p : List UInt8} {i : Nat} (h : i < p.length) : i < (dstep p i).2 ∧ (dstep p i).2 ≤ p.length := by
  have h2 := (dstep_rel h).2
  have h3 := stepP_pos (drop_ne h)
  have h4 := (stepP_le (drop_ne h)).1
  rw [List.length_drop] at h4
  omega

end Go.Proofs.Ytphjafidencdeaa
