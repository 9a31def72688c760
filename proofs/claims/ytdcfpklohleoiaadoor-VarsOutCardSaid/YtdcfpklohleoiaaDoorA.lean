/- Plain law of an env: names in order, what Set, Mark, Unset and Get do. -/
import Derived.Lib.Bytealg
import Derived.Laws.Strings
namespace Go.Proofs.YtdcfpklohleoiaaDoor
open Go.Lib

abbrev lts (a b : List UInt8) : Bool := Op.bytesLess a b
theorem lts_cons (a b : UInt8) (x y : List UInt8) : lts (a :: x) (b :: y) = (decide (a < b) || (a == b && lts x y)) := rfl
theorem cmp_cons (a b : UInt8) (x y : List UInt8) : compareBytes (a :: x) (b :: y) = if a < b then -1 else if b < a then 1 else compareBytes x y := rfl
theorem u8_cases (a b : UInt8) : (a < b ∧ ¬ b < a ∧ a ≠ b) ∨ (a = b ∧ ¬ a < b) ∨ (b < a ∧ ¬ a < b ∧ a ≠ b) := by
  simp only [UInt8.lt_iff_toNat_lt]
  rcases Nat.lt_trichotomy a.toNat b.toNat with h | h | h
  · exact .inl ⟨h, by omega, fun e => by rw [e] at h; omega⟩
  · exact .inr (.inl ⟨UInt8.toNat_inj.1 h, by omega⟩)
  · exact .inr (.inr ⟨h, by omega, fun e => by rw [e] at h; omega⟩)
/-- The three ways in which two texts may stand. -/
theorem cmp_cases : ∀ (x y : List UInt8), (compareBytes x y = -1 ∧ lts x y = true ∧ lts y x = false ∧ x ≠ y) ∨ (compareBytes x y = 0 ∧ lts x y = false ∧ x = y) ∨ (compareBytes x y = 1 ∧ lts x y = false ∧ lts y x = true ∧ x ≠ y)
  | [], [] => .inr (.inl ⟨rfl, rfl, rfl⟩)
  | [], _ :: _ => .inl ⟨rfl, rfl, rfl, fun h => by cases h⟩
  | _ :: _, [] => .inr (.inr ⟨rfl, rfl, rfl, fun h => by cases h⟩)
  | a :: x, b :: y => by
    rw [cmp_cons, lts_cons, lts_cons]
    rcases u8_cases a b with ⟨h1, h2, h3⟩ | ⟨rfl, h2⟩ | ⟨h1, h2, h3⟩
    · have e2 : (b == a) = false := by rw [beq_eq_false_iff_ne]; exact fun e => h3 e.symm
      exact .inl ⟨by rw [if_pos h1], by simp [h1], by simp [h2, e2], fun e => h3 (by injection e)⟩
    · rw [if_neg h2, if_neg h2]
      rcases cmp_cases x y with ⟨g1, g2, g3, g4⟩ | ⟨g1, g2, rfl⟩ | ⟨g1, g2, g3, g4⟩
      · exact .inl ⟨g1, by simp [g2], by simp [g3, h2], fun e => g4 (by injection e)⟩
      · exact .inr (.inl ⟨g1, by simp [g2, h2], rfl⟩)
      · exact .inr (.inr ⟨g1, by simp [g2, h2], by simp [g3], fun e => g4 (by injection e)⟩)
    · have e2 : (a == b) = false := by rw [beq_eq_false_iff_ne]; exact h3
      exact .inr (.inr ⟨by rw [if_neg h2, if_pos h1], by simp [h2, e2], by simp [h1], fun e => h3 (by injection e)⟩)
theorem lts_irrefl (x : List UInt8) : lts x x = false := by
  rcases cmp_cases x x with ⟨_, _, _, h⟩ | ⟨_, h, _⟩ | ⟨_, h, _⟩
  · exact absurd rfl h
  · exact h
  · exact h
theorem lts_trans : ∀ (x y z : List UInt8), lts x y = true → lts y z = true → lts x z = true
  | [], [], _, h, _ => by cases h
  | _ :: _, [], _, h, _ => by cases h
  | [], _ :: _, [], _, h => by cases h
  | [], _ :: _, _ :: _, _, _ => rfl
  | _ :: _, _ :: _, [], _, h => by cases h
  | a :: x, b :: y, c :: z, h1, h2 => by
    rw [lts_cons] at h1 h2 ⊢
    simp only [Bool.or_eq_true, decide_eq_true_eq, Bool.and_eq_true, beq_iff_eq, UInt8.lt_iff_toNat_lt] at h1 h2 ⊢
    rcases h1 with h1 | ⟨rfl, h1⟩ <;> rcases h2 with h2 | ⟨rfl, h2⟩
    · exact .inl (by omega)
    · exact .inl h1
    · exact .inl h2
    · exact .inr ⟨rfl, lts_trans x y z h1 h2⟩
theorem lts_ne {x y : List UInt8} (h : lts x y = true) : x ≠ y := fun e => by rw [e, lts_irrefl] at h; cases h
theorem lts_asymm {x y : List UInt8} (h : lts x y = true) : lts y x = false := by
  cases hh : lts y x with
  | false => rfl
  | true => have := lts_trans x y x h hh; rw [lts_irrefl] at this; cases this
theorem lts_total {x y : List UInt8} (h1 : x ≠ y) (h2 : lts x y = false) : lts y x = true := by
  rcases cmp_cases x y with ⟨_, h, _⟩ | ⟨_, _, h⟩ | ⟨_, _, h, _⟩
  · rw [h] at h2; cases h2
  · exact absurd h h1
  · exact h

structure V where
  n : List UInt8
  v : List UInt8
  x : Bool
  r : Bool
def Srt (vs : List V) : Prop := vs.Pairwise fun a b => lts a.n b.n = true
def lookF (vs : List V) (m : List UInt8) : Option V := vs.find? fun a => a.n == m
def putF : List V → V → List V
  | [], v => [v]
  | a :: l, v => if a.n = v.n then v :: l else if lts v.n a.n = true then v :: a :: l else a :: putF l v
def idxF (m : List UInt8) : List V → Nat
  | [] => 0
  | a :: l => if lts a.n m = true then idxF m l + 1 else 0
theorem idx_le (m : List UInt8) : ∀ vs : List V, idxF m vs ≤ vs.length
  | [] => Nat.le_refl _
  | a :: l => by
    unfold idxF
    have := idx_le m l
    split
    · rw [List.length_cons]; omega
    · exact Nat.zero_le _
theorem idx_uniq (m : List UInt8) : ∀ (vs : List V) (i : Nat), i ≤ vs.length → (∀ k (h : k < vs.length), k < i → lts vs[k].n m = true) → (∀ h : i < vs.length, lts vs[i].n m = false) → i = idxF m vs
  | [], i, h, _, _ => by simp at h; exact h
  | a :: l, i, h, h1, h2 => by
    unfold idxF
    cases i with
    | zero =>
      have := h2 (by simp)
      simp only [List.getElem_cons_zero] at this
      rw [this]; rfl
    | succ i =>
      have h0 := h1 0 (by simp) (by omega)
      simp only [List.getElem_cons_zero] at h0
      rw [if_pos h0]
      congr 1
      refine idx_uniq m l i (by simpa using h) (fun k hk hi => ?_) (fun hh => ?_)
      · have := h1 (k + 1) (by simpa using hk) (by omega)
        simpa using this
      · have := h2 (by simpa using hh)
        simpa using this
theorem srt_lt {vs : List V} (h : Srt vs) {i j : Nat} (hi : i < vs.length) (hj : j < vs.length) (hij : i < j) : lts vs[i].n vs[j].n = true := List.pairwise_iff_getElem.1 h i j hi hj hij
theorem srt_eq {vs : List V} (h : Srt vs) {i j : Nat} (hi : i < vs.length) (hj : j < vs.length) (hij : vs[i].n = vs[j].n) : i = j := by
  rcases Nat.lt_trichotomy i j with c | c | c
  · exact absurd hij (lts_ne (srt_lt h hi hj c))
  · exact c
  · exact absurd hij.symm (lts_ne (srt_lt h hj hi c))
theorem idx_lt (m : List UInt8) : ∀ (vs : List V) (k : Nat) (h : k < vs.length), k < idxF m vs → lts vs[k].n m = true
  | [], _, h, _ => by simp at h
  | a :: l, k, h, hk => by
    unfold idxF at hk
    split at hk
    · rename_i ha
      cases k with
      | zero => exact ha
      | succ k => simp only [List.getElem_cons_succ]; exact idx_lt m l k (by simpa using h) (by omega)
    · omega
theorem idx_at (m : List UInt8) : ∀ (vs : List V) (h : idxF m vs < vs.length), lts vs[idxF m vs].n m = false
  | [], h => by simp at h
  | a :: l, h => by
    by_cases ha : lts a.n m = true
    · have e : idxF m (a :: l) = idxF m l + 1 := by show (if _ then _ else _) = _; rw [if_pos ha]
      have h' : idxF m l < l.length := by rw [e] at h; simpa using h
      have := idx_at m l h'
      simp only [e, List.getElem_cons_succ]
      exact this
    · have e : idxF m (a :: l) = 0 := by show (if _ then _ else _) = _; rw [if_neg ha]
      simp only [e, List.getElem_cons_zero]
      simpa using ha
/-- What stands at the place is it, or it is nowhere. -/
theorem look_idx {vs : List V} (hs : Srt vs) (m : List UInt8) : (∀ h : idxF m vs < vs.length, vs[idxF m vs].n = m → lookF vs m = some vs[idxF m vs]) ∧ ((∀ h : idxF m vs < vs.length, vs[idxF m vs].n ≠ m) → lookF vs m = none) := by
  refine ⟨fun h he => ?_, fun hn => ?_⟩
  · unfold lookF
    cases hf : vs.find? fun a => a.n == m with
    | none =>
      rw [List.find?_eq_none] at hf
      exact absurd (by rw [he]; simp) (hf _ (List.getElem_mem h))
    | some u =>
      have hu := List.find?_some hf
      obtain ⟨j, hj, hju⟩ := List.getElem_of_mem (List.mem_of_find?_eq_some hf)
      have : j = idxF m vs := srt_eq hs hj h (by rw [hju, he]; simpa using hu)
      subst this
      rw [hju]
  · unfold lookF
    rw [List.find?_eq_none]
    intro u hu he
    have he : u.n = m := by simpa using he
    obtain ⟨j, hj, hju⟩ := List.getElem_of_mem hu
    rcases Nat.lt_trichotomy j (idxF m vs) with c | c | c
    · have := idx_lt m vs j hj c
      rw [hju, he, lts_irrefl] at this
      cases this
    · subst c
      exact hn hj (by rw [hju, he])
    · have h1 := srt_lt hs (Nat.lt_trans c hj) hj c
      rw [hju, he] at h1
      rw [idx_at m vs (Nat.lt_trans c hj)] at h1
      cases h1
theorem put_found : ∀ {vs : List V} (_ : Srt vs) (v : V) (h : idxF v.n vs < vs.length), vs[idxF v.n vs].n = v.n → putF vs v = vs.set (idxF v.n vs) v
  | [], _, _, h, _ => by simp at h
  | a :: l, hs, v, h, he => by
    by_cases ha : lts a.n v.n = true
    · have e : idxF v.n (a :: l) = idxF v.n l + 1 := by show (if _ then _ else _) = _; rw [if_pos ha]
      have h' : idxF v.n l < l.length := by rw [e] at h; simpa using h
      simp only [e, List.getElem_cons_succ] at he
      rw [e, List.set_cons_succ]
      unfold putF
      rw [if_neg (lts_ne ha), if_neg (by rw [lts_asymm ha]; exact Bool.false_ne_true)]
      rw [put_found (List.Pairwise.of_cons hs) v h' he]
    · have e : idxF v.n (a :: l) = 0 := by show (if _ then _ else _) = _; rw [if_neg ha]
      simp only [e, List.getElem_cons_zero] at he
      rw [e, List.set_cons_zero]
      unfold putF
      rw [if_pos he]
theorem put_none : ∀ {vs : List V} (_ : Srt vs) (v : V), (∀ h : idxF v.n vs < vs.length, vs[idxF v.n vs].n ≠ v.n) → putF vs v = vs.take (idxF v.n vs) ++ v :: vs.drop (idxF v.n vs)
  | [], _, _, _ => rfl
  | a :: l, hs, v, hn => by
    by_cases ha : lts a.n v.n = true
    · have e : idxF v.n (a :: l) = idxF v.n l + 1 := by show (if _ then _ else _) = _; rw [if_pos ha]
      have hn' : ∀ h : idxF v.n l < l.length, l[idxF v.n l].n ≠ v.n := fun h => by
        have := hn (by rw [e]; simpa using h)
        simpa only [e, List.getElem_cons_succ] using this
      rw [e, List.take_succ_cons, List.drop_succ_cons, List.cons_append]
      unfold putF
      rw [if_neg (lts_ne ha), if_neg (by rw [lts_asymm ha]; exact Bool.false_ne_true), put_none (List.Pairwise.of_cons hs) v hn']
    · have e : idxF v.n (a :: l) = 0 := by show (if _ then _ else _) = _; rw [if_neg ha]
      have hne := hn (by rw [e]; simp)
      simp only [e, List.getElem_cons_zero] at hne
      rw [e, List.take_zero, List.drop_zero, List.nil_append]
      unfold putF
      rw [if_neg hne, if_pos (lts_total hne (by simpa using ha))]

/-! ### the document's put -/
def putD : Bool → List V → V → List V
  | d, [], v => if d = true then [] else [v]
  | d, a :: l, v => (if d = false ∧ lts a.n v.n = false then [v] else []) ++ (if a.n = v.n then [] else [a]) ++ putD (d || !lts a.n v.n) l v
theorem putD_done : ∀ (l : List V) (v : V), (∀ a ∈ l, a.n ≠ v.n) → putD true l v = l
  | [], _, _ => rfl
  | a :: l, v, h => by
    unfold putD
    rw [if_neg (fun hh => Bool.noConfusion hh.1), if_neg (h a (List.mem_cons_self ..)), Bool.true_or, putD_done l v (fun b hb => h b (List.mem_cons_of_mem _ hb))]
    rfl
theorem putD_put : ∀ {vs : List V} (_ : Srt vs) (v : V), putD false vs v = putF vs v
  | [], _, _ => rfl
  | a :: l, hs, v => by
    have h1 : ∀ {c : V}, _ → lts _ c.n = true := fun {c} hc => List.rel_of_pairwise_cons (a' := c) hs hc
    unfold putD putF
    rcases cmp_cases a.n v.n with ⟨_, ha, hb, hc⟩ | ⟨_, ha, hc⟩ | ⟨_, ha, hb, hc⟩
    · rw [ha, if_neg (fun hh => Bool.noConfusion hh.2), if_neg hc, if_neg hc, hb, if_neg Bool.false_ne_true]
      show [] ++ [a] ++ putD false l v = _
      rw [putD_put (List.Pairwise.of_cons hs) v]; rfl
    · rw [ha, if_pos ⟨rfl, rfl⟩, if_pos hc, if_pos hc]
      show [v] ++ [] ++ putD true l v = _
      rw [putD_done l v (fun b hb e => by have := h1 hb; rw [hc, e, lts_irrefl] at this; cases this)]; rfl
    · rw [ha, if_pos ⟨rfl, rfl⟩, if_neg hc, if_neg hc, hb, if_pos rfl]
      show [v] ++ [a] ++ putD true l v = _
      rw [putD_done l v (fun b hb' e => by have := lts_trans _ _ _ hb (h1 hb'); rw [e, lts_irrefl] at this; cases this)]; rfl

/-! ### what stays -/
theorem put_mem {vs : List V} {v a : V} (h : a ∈ putF vs v) : a = v ∨ a ∈ vs := by
  induction vs with
  | nil => exact .inl (by simpa [putF] using h)
  | cons b l ih =>
    unfold putF at h
    split at h
    · rcases List.mem_cons.1 h with h | h
      · exact .inl h
      · exact .inr (List.mem_cons_of_mem _ h)
    · split at h
      · rcases List.mem_cons.1 h with h | h
        · exact .inl h
        · exact .inr h
      · rcases List.mem_cons.1 h with h | h
        · exact .inr (by rw [h]; exact List.mem_cons_self ..)
        · rcases ih h with h | h
          · exact .inl h
          · exact .inr (List.mem_cons_of_mem _ h)
theorem put_srt {vs : List V} (hs : Srt vs) (v : V) : Srt (putF vs v) := by
  induction vs with
  | nil => exact List.pairwise_singleton _ _
  | cons b l ih =>
    have h1 : ∀ {c : V}, _ → lts _ c.n = true := fun {c} hc => List.rel_of_pairwise_cons (a' := c) hs hc
    unfold putF
    split
    · rename_i e
      exact List.Pairwise.cons (fun a ha => by rw [← e]; exact h1 ha) (List.Pairwise.of_cons hs)
    · rename_i ne
      split
      · rename_i hlt
        exact List.Pairwise.cons (fun a ha => by
          rcases List.mem_cons.1 ha with rfl | ha
          · exact hlt
          · exact lts_trans _ _ _ hlt (h1 ha)) hs
      · rename_i hnl
        refine List.Pairwise.cons (fun a ha => ?_) (ih (List.Pairwise.of_cons hs))
        rcases put_mem ha with rfl | ha
        · exact lts_total (fun e => ne e.symm) (by simpa using hnl)
        · exact h1 ha
theorem put_look {vs : List V} (hs : Srt vs) (v : V) (m : List UInt8) : lookF (putF vs v) m = if v.n = m then some v else lookF vs m := by
  induction vs with
  | nil =>
    show List.find? _ [v] = _
    rw [List.find?_cons]
    by_cases h : v.n = m
    · rw [if_pos h, show (v.n == m) = true by simpa using h]
    · rw [if_neg h, show (v.n == m) = false by simpa using h]
      rfl
  | cons b l ih =>
    have ih := ih (List.Pairwise.of_cons hs)
    unfold lookF at ih ⊢
    unfold putF
    split
    · rename_i e
      rw [List.find?_cons, List.find?_cons]
      by_cases h : v.n = m
      · rw [if_pos h, show (v.n == m) = true by simpa using h]
      · rw [if_neg h, show (v.n == m) = false by simpa using h, show (b.n == m) = false by rw [e]; simpa using h]
    · rename_i ne
      split
      · rw [List.find?_cons]
        by_cases h : v.n = m
        · rw [if_pos h, show (v.n == m) = true by simpa using h]
        · rw [if_neg h, show (v.n == m) = false by simpa using h]
      · rw [List.find?_cons, List.find?_cons, ih]
        by_cases hb : b.n = m
        · have hvm : ¬ v.n = m := fun e => ne (hb.trans e.symm)
          have hbm : (b.n == m) = true := by simpa using hb
          simp only [hbm, if_neg hvm]
        · rw [show (b.n == m) = false by simpa using hb]
theorem put_len {vs : List V} (hs : Srt vs) (v : V) : (putF vs v).length = if (lookF vs v.n).isSome = true then vs.length else vs.length + 1 := by
  by_cases h : ∃ h : idxF v.n vs < vs.length, vs[idxF v.n vs].n = v.n
  · obtain ⟨h, he⟩ := h
    rw [put_found hs v h he, (look_idx hs v.n).1 h he, List.length_set]
    rfl
  · have hn : ∀ h : idxF v.n vs < vs.length, vs[idxF v.n vs].n ≠ v.n := fun h1 h2 => h ⟨h1, h2⟩
    rw [put_none hs v hn, (look_idx hs v.n).2 hn]
    have := idx_le v.n vs
    rw [List.length_append, List.length_take, List.length_cons, List.length_drop]
    show _ = vs.length + 1
    omega

end Go.Proofs.YtdcfpklohleoiaaDoor
