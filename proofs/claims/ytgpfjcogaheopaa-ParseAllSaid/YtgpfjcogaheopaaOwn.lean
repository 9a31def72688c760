/- Ownership for objects of many blocks: a frame in which a set of blocks may change (Chg); a slice that owns its cells, at whatever offset of its row (Own); append onto it, of whatever source; the frozen head of a builder's buffer. -/
import Derived.Test.YtgpfjcogaheopaaKit
import Derived.Deep.AppendSrc
import Derived.Deep.Upon
import Derived.Lib.FrozenHead2
set_option linter.all false
namespace Go.Proofs.Ytgpfjcogaheopaa
open Go.RowKit
/-! ### a frame: but for the blocks of S, what was there is as it was -/
structure Chg (S : Nat → Prop) (w w' : World) : Prop where
  os : w'.os = w.os
  tape : w'.tape = w.tape
  output : w'.output = w.output
  size : w.heap.size ≤ w'.heap.size
  block : ∀ k, k < w.heap.size → ¬ S k → w'.heap[k]? = w.heap[k]?
def nobody : Nat → Prop := fun _ => False
def one_ (b : Nat) : Nat → Prop := fun k => k = b
section
variable {S T : Nat → Prop} {a b c w w' : World}
theorem Chg.refl (S : Nat → Prop) (w : World) : Chg S w w := ⟨rfl, rfl, rfl, Nat.le_refl _, fun _ _ _ => rfl⟩
theorem Chg.drew (h : Chg S a w) : Chg S a w.drew := ⟨h.os, h.tape, h.output, h.size, h.block⟩
theorem Chg.alloc (h : Chg S a w) (o : Obj) : Chg S a (w.alloc o) :=
  ⟨h.os, h.tape, h.output, by rw [World.size_alloc]; have := h.size; omega, fun k hk hn => (Below.heap_alloc w o k (Nat.lt_of_lt_of_le hk h.size)).trans (h.block k hk hn)⟩
theorem Chg.setCell (h : Chg S a w) {p : Addr} (hp : S p.block ∨ a.heap.size ≤ p.block) (u : Value) : Chg S a (w.setCell p u) :=
  ⟨h.os, h.tape, h.output, by rw [World.size_setCell]; exact h.size, fun k hk hn => (Below.heap_setCell w p u k (by
    intro e
    rcases hp with hp | hp
    · exact hn (e ▸ hp)
    · omega)).trans (h.block k hk hn)⟩
theorem Chg.trans (h : Chg S a b) (k : Chg T b c) (hT : ∀ i, i < a.heap.size → T i → S i) : Chg S a c :=
  ⟨k.os.trans h.os, k.tape.trans h.tape, k.output.trans h.output, Nat.le_trans h.size k.size, fun i hi hn => (k.block i (Nat.lt_of_lt_of_le hi h.size) (fun ht => hn (hT i hi ht))).trans (h.block i hi hn)⟩
theorem Chg.mono (h : Chg S a b) (hT : ∀ i, i < a.heap.size → S i → T i) : Chg T a b :=
  ⟨h.os, h.tape, h.output, h.size, fun i hi hn => h.block i hi (fun ht => hn (hT i hi ht))⟩
theorem Chg.of_grown {row : Option Nat} (h : a.grownBy b row) (hS : ∀ k, row = some k → S k) : Chg S a b :=
  ⟨h.os, h.tape, h.output, h.size, fun i hi hn => h.block i hi (fun e => hn (hS i e.symm))⟩
theorem Chg.grown (h : Chg S a b) (hS : ∀ k, k < a.heap.size → ¬ S k) : a.grownBy b none :=
  ⟨h.os, h.tape, h.output, h.size, fun i hi _ => h.block i hi (hS i hi)⟩
theorem Chg.cell (h : Chg S a b) {p : Addr} (hp : p.block < a.heap.size) (hn : ¬ S p.block) : b.cell? p = a.cell? p := World.cell?_of_block (h.block p.block hp hn)
theorem Blk.chg {g : Nat} {t : TypeId} {cs : Array Value} (h : Blk w g t cs) (hb : Chg S w w') (hn : ¬ S g) : Blk w' g t cs := (hb.block g h.lt hn).trans h
end
/-! ### a slice that owns its cells; of its row the first k of them may be frozen -/
def Own (w : World) (e : TypeId) (size : Nat) (v : Value) (n : Nat) (xs : List Value) (k : Nat) : Prop :=
  xs.length = n * size ∧ ((v = .slice none 0 0 ∧ n = 0) ∨
    ∃ g off cap cur fz, v = .slice (some ⟨g, off, none⟩) n cap ∧ w.heap[g]? = some (.cells cur e fz) ∧ fz.2 ≤ off + k ∧ n ≤ cap ∧ cap ≤ maxLen ∧ off + cap * size ≤ cur.size ∧ ∀ j, j < n * size → cur[off + j]? = xs[j]?)
theorem setCells_heap {g o : Nat} {e : TypeId} {fz : Nat × Nat} : ∀ (vs : List Value) (o : Nat) (cur : Array Value) (w : World), w.heap[g]? = some (.cells cur e fz) → o + vs.length ≤ cur.size →
    ∃ cur', (w.setCells g o vs).heap[g]? = some (.cells cur' e fz) ∧ cur'.size = cur.size ∧ (∀ j, j < vs.length → cur'[o + j]? = vs[j]?) ∧ ∀ i, i < o → cur'[i]? = cur[i]?
  | [], o, cur, w, h, _ => ⟨cur, h, rfl, fun j hj => absurd hj (Nat.not_lt_zero _), fun _ _ => rfl⟩
  | v :: r, o, cur, w, h, hl => by
    have h1 : (w.setCell ⟨g, o, none⟩ v).heap[g]? = some (.cells (cur.setIfInBounds o v) e fz) := by simp [World.setCell, Array.getElem?_modify, h]
    simp only [List.length_cons] at hl
    obtain ⟨cur', a1, a2, a3, a4⟩ := setCells_heap (g := g) (o := o) r (o + 1) _ _ h1 (by simp only [Array.size_setIfInBounds]; omega)
    refine ⟨cur', a1, by rw [a2, Array.size_setIfInBounds], fun j hj => ?_, fun i hi => ?_⟩
    · cases j with
      | zero => rw [Nat.add_zero, a4 o (by omega), Array.getElem?_setIfInBounds_self_of_lt (by omega)]; rfl
      | succ j =>
        have := a3 j (by simp only [List.length_cons] at hj; omega)
        rw [show o + (j + 1) = o + 1 + j by omega, this]; rfl
    · rw [a4 i (by omega), Array.getElem?_setIfInBounds_ne (by omega)]
section
variable {w w' : World} {e : TypeId} {size n k : Nat} {v : Value} {xs : List Value} {S : Nat → Prop}
theorem Own.nil (w : World) (e : TypeId) (size k : Nat) : Own w e size (.slice none 0 0) 0 [] k := ⟨by simp, .inl ⟨rfl, rfl⟩⟩
theorem Own.len (h : Own w e size v n xs k) : xs.length = n * size := h.1
theorem Own.lt (h : Own w e size v n xs k) {b : Nat} (hb : v.ownBlock = some b) : b < w.heap.size := by
  rcases h.2 with ⟨rfl, _⟩ | ⟨g, off, cap, cur, fz, rfl, hg, _⟩
  · simp [Value.ownBlock] at hb
  · simp [Value.ownBlock] at hb
    subst hb
    exact (Array.getElem?_eq_some_iff.1 hg).1
theorem Own.keep (h : Own w e size v n xs k) (hb : ∀ b, v.ownBlock = some b → w'.heap[b]? = w.heap[b]?) : Own w' e size v n xs k := by
  refine ⟨h.1, ?_⟩
  rcases h.2 with hn | ⟨g, off, cap, cur, fz, rfl, hg, rest⟩
  · exact .inl hn
  · exact .inr ⟨g, off, cap, cur, fz, rfl, (hb g rfl).trans hg, rest⟩
theorem Own.chg (h : Own w e size v n xs k) (hc : Chg S w w') (hS : ∀ b, v.ownBlock = some b → ¬ S b) : Own w' e size v n xs k :=
  h.keep fun b hb => hc.block b (h.lt hb) (hS b hb)
theorem Own.mono {k' : Nat} (h : Own w e size v n xs k) (hk : k ≤ k') : Own w e size v n xs k' := by
  refine ⟨h.1, ?_⟩
  rcases h.2 with hn | ⟨g, off, cap, cur, fz, rfl, hg, h1, rest⟩
  · exact .inl hn
  · exact .inr ⟨g, off, cap, cur, fz, rfl, hg, by omega, rest⟩
/-- What an index meets. -/
theorem Own.some_ (h : Own w e size v n xs k) (hn : 0 < n) : ∃ g off cap, v = .slice (some ⟨g, off, none⟩) n cap ∧ n ≤ cap ∧ cap ≤ maxLen ∧ g < w.heap.size ∧ ∀ j, j < n * size → w.cell? ⟨g, off + j, none⟩ = xs[j]? := by
  rcases h.2 with ⟨_, h0⟩ | ⟨g, off, cap, cur, fz, rfl, hg, _, h1, h2, _, h4⟩
  · omega
  · exact ⟨g, off, cap, rfl, h1, h2, (Array.getElem?_eq_some_iff.1 hg).1, fun j hj => (cell_of_row w g (off + j) cur e fz hg).trans (h4 j hj)⟩
theorem Own.form (h : Own w e size v n xs k) : ∃ a cap, v = .slice a n cap ∧ n ≤ cap ∧ cap ≤ maxLen := by
  rcases h.2 with ⟨rfl, rfl⟩ | ⟨g, off, cap, cur, fz, rfl, hg, _, h1, h2, _, h4⟩
  · exact ⟨none, 0, rfl, Nat.le_refl _, by unfold maxLen; omega⟩
  · exact ⟨_, _, rfl, h1, h2⟩
/-- A cell of it written: a store through an index. -/
theorem Own.set {g off cap : Nat} (h : Own w e size (.slice (some ⟨g, off, none⟩) n cap) n xs k) (j : Nat) (hj : j < n * size) (u : Value) : Own (w.setCell ⟨g, off + j, none⟩ u) e size (.slice (some ⟨g, off, none⟩) n cap) n (xs.set j u) k := by
  refine ⟨by rw [List.length_set]; exact h.1, ?_⟩
  rcases h.2 with ⟨h0, _⟩ | ⟨g', off', cap', cur, fz, hv, hg, h1, h2, h3, h4, h5⟩
  · cases h0
  · injection hv with ha _ hcap
    injection ha with ha
    injection ha with e1 e2 _
    subst e1 e2 hcap
    have hlen := h.1
    refine .inr ⟨_, _, _, cur.setIfInBounds (off + j) u, fz, rfl, by simp [World.setCell, Array.getElem?_modify, hg], h1, h2, h3, by simpa using h4, fun i hi => ?_⟩
    by_cases hij : i = j
    · subst hij
      have hlt : off + i < cur.size := by
        have := h5 i hi
        rw [List.getElem?_eq_getElem (by omega)] at this
        exact (Array.getElem?_eq_some_iff.1 this).1
      rw [Array.getElem?_setIfInBounds_self_of_lt hlt, List.getElem?_set_self (by omega)]
    · rw [Array.getElem?_setIfInBounds_ne (by omega), List.getElem?_set_ne (by omega)]
      exact h5 i hi
/-- 'v[m:]'. -/
theorem Own.from_ {g off cap : Nat} (h : Own w e size (.slice (some ⟨g, off, none⟩) n cap) n xs k) (m : Nat) (hm : m ≤ n) : Own w e size (.slice (some ⟨g, off + m * size, none⟩) (n - m) (cap - m)) (n - m) (xs.drop (m * size)) (k - m * size) := by
  refine ⟨by rw [List.length_drop, h.1, Nat.sub_mul], ?_⟩
  rcases h.2 with ⟨h0, _⟩ | ⟨g', off', cap', cur, fz, hv, hg, h1, h2, h3, h4, h5⟩
  · cases h0
  · injection hv with ha _ hcap
    injection ha with ha
    injection ha with e1 e2 _
    subst e1 e2 hcap
    refine .inr ⟨_, _, _, cur, fz, rfl, hg, by omega, by omega, by omega, ?_, fun i hi => ?_⟩
    · have : m * size + (cap - m) * size = cap * size := by rw [← Nat.add_mul, Nat.add_sub_of_le (by omega)]
      omega
    · rw [List.getElem?_drop, Nat.add_assoc]
      exact h5 _ (by have : m * size + (n - m) * size = n * size := by rw [← Nat.add_mul, Nat.add_sub_of_le hm]
                     omega)
theorem Own.frozen0 {g off cap : Nat} (h : Own w e size (.slice (some ⟨g, off, none⟩) n cap) n xs 0) (j : Nat) : w.frozen? ⟨g, off + j, none⟩ = false := by
  rcases h.2 with ⟨h0, _⟩ | ⟨g', off', cap', cur, fz, hv, hg, h1, _⟩
  · cases h0
  · injection hv with ha _ hcap
    injection ha with ha
    injection ha with e1 e2 _
    subst e1 e2 hcap
    obtain ⟨lo, hi⟩ := fz
    simp only at h1
    have : ¬ (off + j < hi) := by omega
    simp [World.frozen?, hg, this]
theorem Own.alloc (h : Own w e size v n xs k) (o : Obj) : Own (w.alloc o) e size v n xs k := h.keep fun b hb => Below.heap_alloc w o b (h.lt hb)
theorem Own.far (h : Own w e size v n xs k) {p : Addr} (hp : v.ownBlock ≠ some p.block) (u : Value) : Own (w.setCell p u) e size v n xs k :=
  h.keep fun b hb => Below.heap_setCell w p u b (fun e => hp (e ▸ hb))
/-- A row of the call's own, just laid. -/
theorem Own.made (w : World) (cur : Array Value) (e : TypeId) (size n : Nat) (k : Nat) (hs : cur.size = n * size) (hm : n ≤ maxLen) : Own (w.alloc (.cells cur e)) e size (.slice (some ⟨w.heap.size, 0, none⟩) n n) n cur.toList k :=
  ⟨by simpa using hs, .inr ⟨_, _, _, cur, (0, 0), rfl, heap_alloc_new w _, Nat.zero_le _, Nat.le_refl _, hm, by omega, fun j _ => by simp⟩⟩
/-- As a source of an append. -/
theorem Own.src {P : Program} (h : Own w e size v n xs k) {tx e' : TypeId} (hk : P.underlying tx = some (.slice e')) (h1 : ∀ u ∈ xs, u.oneCell' = true) : Src P size tx v n xs w := by
  have hl := h.1
  rcases h.2 with ⟨rfl, rfl⟩ | ⟨g, off, cap, cur, fz, rfl, hg, _, _, _, _, h5⟩
  · have : xs = [] := List.eq_nil_of_length_eq_zero (by simpa using hl)
    subst this
    exact Src.ofNil w hk 0
  · refine Src.ofSlice w hk _ _ _ xs hl (fun j u hu => ?_) h1
    have hj : j < n * size := by
      rw [← hl]
      exact (List.getElem?_eq_some_iff.1 hu).1
    have hadd : (⟨g, off, none⟩ : Addr).add j = ⟨g, off + j, none⟩ := by unfold Addr.add; split <;> simp_all
    rw [hadd, cell_of_row w g (off + j) cur e fz hg, h5 j hj, hu]
end
section
variable {P : Program}
theorem run_append_at (w : World) (t tx ty e : TypeId) (i : TypeInfo) (z : Value) (size bytes : Nat) (ht : P.underlying t = some (.slice e)) (hi : P.info? e = some i) (hz : i.zero = some z)
    (hsize : i.size = size) (hby : i.bytes = bytes) (hzs : z.cells.size = size)
    (v : Value) (n : Nat) (xs : List Value) (k : Nat) (hown : Own w e size v n xs k) (hk : k ≤ n * size)
    (x : Value) (m : Nat) (news : List Value) (hs : Src P size tx x m news w) (h63 : n + m ≤ maxLen) (hbytes : (n + m) * bytes ≤ 140737488355328) :
    ∃ v' w', (Builtin.append_ #[t, tx] ty #[v, x]).run P w = .ok v' w' ∧ Own w' e size v' (n + m) (xs ++ news) k ∧ Chg (fun b => v.ownBlock = some b) w w' ∧
      (∀ b, v'.ownBlock = some b → v.ownBlock = some b ∨ w.heap.size ≤ b) ∧ (m = 0 → v' = v) := by
  have hsmall : n + m ≤ 9223372036854775807 := by simp only [maxLen] at h63; omega
  subst hsize
  subst hby
  have hlen : (xs ++ news).length = (n + m) * i.size := by rw [List.length_append, hown.1, hs.newsLen, Nat.add_mul]
  have grow : ∀ (bs : Option Addr) (sc : Nat), v = .slice bs n sc → sc < n + m → (Builtin.firstCells i.size n (.slice bs n sc)).run P w.drew = .ok xs.toArray w.drew →
      ∃ v' w', (Builtin.append_ #[t, tx] ty #[v, x]).run P w = .ok v' w' ∧ Own w' e i.size v' (n + m) (xs ++ news) k ∧ Chg (fun b => v.ownBlock = some b) w w' ∧
      (∀ b, v'.ownBlock = some b → v.ownBlock = some b ∨ w.heap.size ≤ b) ∧ (m = 0 → v' = v) := by
    rintro bs sc rfl hg hold
    have hrun := run_append_grow_src (P := P) w t tx ty e i z ht hi hz bs n sc xs hold x m news hs hg (by omega) (growslice_fits hg hbytes)
    have hge := grownCap_ge w (n + m) sc e
    have hcm := grownCap_le_maxLen w (n + m) sc e h63
    refine ⟨_, _, hrun, ⟨hlen, .inr ⟨w.heap.size, 0, _, _, (0, 0), rfl, heap_alloc_new w.drew _, Nat.zero_le _, hge, hcm, ?_, fun j hj => ?_⟩⟩, ((Chg.refl _ w).drew).alloc _, fun b hb => .inr ?_, ?_⟩
    · rw [Array.size_append, List.size_toArray, hlen, size_zeroCells, hzs, ← Nat.add_mul, Nat.zero_add]
      exact Nat.mul_le_mul_right _ (by omega)
    · rw [Nat.zero_add, Array.getElem?_append_left (by rw [List.size_toArray, hlen]; exact hj), List.getElem?_toArray]
    · simp [Value.ownBlock] at hb
      omega
    · rintro rfl
      exfalso
      obtain ⟨a', c', hv, h1, _⟩ := hown.form
      injection hv with _ _ hc
      omega
  have hl := hown.1
  rcases hown.2 with ⟨rfl, rfl⟩ | ⟨g, off, cap, cur, fz, rfl, hg, hfz, hnc, hcm, hcs, hcells⟩
  · have hx : xs = [] := List.eq_nil_of_length_eq_zero (by simpa using hl)
    subst hx
    rcases Nat.eq_zero_or_pos m with rfl | hm
    · have hne : news = [] := List.eq_nil_of_length_eq_zero (by simpa using hs.newsLen)
      subst hne
      exact ⟨_, _, run_append_nothing (P := P) w t tx ty e i ht hi none 0 0 (Nat.le_refl _) x hs, Own.nil w e _ k, Chg.refl _ w, fun b hb => .inl hb, fun _ => rfl⟩
    · exact grow none 0 rfl (by omega) (run_firstCells_none w.drew i.size 0 0 0)
  · by_cases hroom : n + m ≤ cap
    · have hfitm : (n + m) * i.size ≤ cap * i.size := Nat.mul_le_mul_right _ hroom
      rw [Nat.add_mul] at hfitm
      have hnl := hs.newsLen
      have hr := run_append_room_src (P := P) w t tx ty e i ht hi g off n cap x m news hs hroom (fun j hj => by
          rw [cell_of_row w g _ cur e fz hg, Array.getElem?_eq_getElem (by omega)]; rfl) (fun j hj => by
          have : ¬ (off + n * i.size + j < fz.2) := by omega
          obtain ⟨lo, hi'⟩ := fz
          simp only at this
          simp [World.frozen?, hg, this])
      obtain ⟨cur', a1, a2, a3, a4⟩ := setCells_heap (g := g) (o := 0) news (off + n * i.size) cur w hg (by omega)
      refine ⟨_, _, hr, ⟨hlen, .inr ⟨g, off, cap, cur', fz, rfl, a1, hfz, hroom, hcm, by omega, fun j hj => ?_⟩⟩, ⟨World.os_setCells w g _ news, ?_, World.output_setCells w g _ news, ?_, fun b hb hne => World.heap_setCells_other w g _ news hb (fun e => hne (by simp [Value.ownBlock, e]))⟩, fun b hb => .inl (by simpa [Value.ownBlock] using hb), fun h0 => by rw [h0, Nat.add_zero]⟩
      · by_cases hjn : j < n * i.size
        · rw [a4 _ (by omega), List.getElem?_append_left (by omega)]
          exact hcells j hjn
        · rw [List.getElem?_append_right (by omega), hl]
          have := a3 (j - n * i.size) (by rw [Nat.add_mul] at hj; omega)
          rw [← this]
          congr 1
          omega
      · have : ∀ (vs : List Value) (o : Nat) (w : World), (w.setCells g o vs).tape = w.tape := by
          intro vs
          induction vs with
          | nil => intros; rfl
          | cons u r ih => intro o w; exact (ih (o + 1) _).trans rfl
        exact this _ _ _
      · have : ∀ (vs : List Value) (o : Nat) (w : World), (w.setCells g o vs).heap.size = w.heap.size := by
          intro vs
          induction vs with
          | nil => intros; rfl
          | cons u r ih => intro o w; exact (ih (o + 1) _).trans (World.size_setCell _ _ _)
        rw [this]
        exact Nat.le_refl _
    · refine grow (some ⟨g, off, none⟩) cap rfl (by omega) (run_firstCells_some w.drew i.size n ⟨g, off, none⟩ n cap xs hl (fun j u hu => ?_))
      have hj : j < n * i.size := by
        rw [← hl]
        exact (List.getElem?_eq_some_iff.1 hu).1
      have hadd : (⟨g, off, none⟩ : Addr).add j = ⟨g, off + j, none⟩ := by unfold Addr.add; split <;> simp_all
      rw [hadd]
      exact (cell_of_row w g (off + j) cur e fz hg).trans ((hcells j hj).trans hu)
/-- append onto a slice that is owned, at whatever offset, of whatever source. -/
theorem wpList_appAt {ops : Array Oper} {rest : List Oper} {a : Act} {w : World} {Q : Exit → Act → World → Prop} {d : Option Tmp} {t T U : TypeId} {pos : String} {af : Array Edge} {s x : Operand}
    (e : TypeId) (z : Value) (size bytes : Nat) (ht : P.underlying T = some (.slice e)) (hinfo : (P.info? e).map (fun i => (i.zero, i.size, i.bytes)) = some (some z, size, bytes))
    (hzs : z.cells.size = size) (v : Value) (n : Nat) (xs : List Value) (k : Nat) (y : Value) (m : Nat) (news : List Value) (hs : a.eval s = v) (hx : a.eval x = y)
    (hown : Own w e size v n xs k) (hk : k ≤ n * size) (hsrc : Src P size U y m news w) (h63 : n + m ≤ maxLen) (hbytes : (n + m) * bytes ≤ 140737488355328)
    (h : ∀ v' w', Own w' e size v' (n + m) (xs ++ news) k → Chg (fun b => v.ownBlock = some b) w w' → (∀ b, v'.ownBlock = some b → v.ownBlock = some b ∨ w.heap.size ≤ b) → (m = 0 → v' = v) → wpList P ops Q rest (a.put d v') w') :
    wpList P ops Q (⟨d, .call { callee := .builtin .append, args := #[s, x], argTypes := #[T, U] }, t, pos, af, none⟩ :: rest) a w := by
  obtain ⟨i, hi, hz, hsize, hby⟩ := info_parts hinfo
  obtain ⟨v', w', hr, h2, h3, h4, h5⟩ := run_append_at (P := P) w T U t e i z size bytes ht hi hz hsize hby hzs v n xs k hown hk y m news hsrc h63 hbytes
  refine wpList_plain rfl fun K hK => ?_
  unfold Oper.wp execOp
  simp only [resolve, invoke, builtin, Sem.run_bind, Sem.run_pure, Result.andThen_ok, List.map_toArray, List.map_cons, List.map_nil, hs, hx, hr]
  exact hK _ _ (h v' w' h2 h3 h4 h5)
end
/-! ### bytes as cells, and a row whose head String() freezes -/
def bcells (l : List UInt8) : List Value := l.map fun b => Value.int .u8 b.toNat
end Go.Proofs.Ytgpfjcogaheopaa
