/- Several texts in one. -/
import Derived.Test.YtgpfjcogaheopaaEM
import Derived.Test.YtgpfjcogaheopaaPR
import Derived.Test.YtgpfjcogaheopaaPS
set_option linter.all false
section
/- What lies while the document's reader reads a case. -/
namespace Go.Proofs.Ytgpfjcogaheopaa
open Go.RowKit Lx
set_option maxRecDepth 100000
/-- Parts whose nodes' slices lie in none of p's blocks. -/
def PartsC (w1 : World) (p : Value) (W : World) (v : Value) (ps : List (List Nd)) : Prop := ∃ cs, Own W 23 1 v ps.length cs 0 ∧ ∀ i (h : i < ps.length), ∃ u, cs[i]? = some u ∧ NdS (fun k => p.ownBlock = some k ∨ low w1 k) W u ps[i] ∧ ∀ g, u.ownBlock = some g → w1.heap.size ≤ g
/-- A case's node under way. -/
structure CasD (w w1 W : World) (rb : Nat) (T : List Tok) (st : DS) (A B : Nat) (ss : List (List UInt8)) (P : List (List (List UInt8))) (ps : List (List Nd)) (b p v : Value) : Prop where
 st : DIs W rb T st
 box : Blk W B 33 #[.int .i64 14, .string ⟨#[]⟩, .bool false, .slice none 0 0, b, .slice none 0 0, p, .slice none 0 0]
 res : Blk W A 33 #[.int .i64 0, .string ⟨#[]⟩, .bool false, .slice none 0 0, .slice none 0 0, .slice none 0 0, .slice none 0 0, .slice none 0 0]
 hA : w.heap.size ≤ A
 hB : w.heap.size ≤ B
 ne : A ≠ B
 lA : A < w1.heap.size
 lB : B < w1.heap.size
 words : StrS W b ss
 nb : ∀ k, b.ownBlock = some k → w.heap.size ≤ k
 pats : PatS (low w) W p P
 parts : PartsC w1 p W v ps
 nv : ∀ k, v.ownBlock = some k → w.heap.size ≤ k
 kb : ∀ ms ∈ ps, KB ms
 gr : w.grownBy W (some rb)
 rbl : rb < w.heap.size
 ls : w1.heap.size ≤ W.heap.size
/-- Patterns under way. -/
structure StD (w W : World) (rb : Nat) (T : List Tok) (st : DS) (v : Value) (L : List (List UInt8)) : Prop where
 st : DIs W rb T st
 own : StrS W v L
 new : ∀ k, v.ownBlock = some k → w.heap.size ≤ k
 gr : w.grownBy W (some rb)
 rbl : rb < w.heap.size
section
variable {w w1 W W' wA : World} {rb A B : Nat} {T : List Tok} {st st' : DS} {ss : List (List UInt8)} {P : List (List (List UInt8))} {ps : List (List Nd)} {b p v vA u : Value} {L : List (List UInt8)}
theorem StD.nil (h : DIs W rb T st) (hb : rb < W.heap.size) : StD W W rb T st (.slice none 0 0) [] := ⟨h, Own.nil _ _ _ _, fun k hk => (by cases hk), only_refl W _, hb⟩
theorem StD.step (h : StD w W rb T st v L) (hg : W.grownBy W' (some rb)) (ht : DIs W' rb T st') : StD w W' rb T st' v L :=
 ⟨ht, own_rb hg h.st.hasT h.own (by decide), h.new, only_trans h.gr hg, h.rbl⟩
theorem StD.grown (h : StD w W rb T st v L) (hg : W.grownBy W' none) : StD w W' rb T st v L := h.step (gr_rb hg) (h.st.grown hg)
theorem StD.app (h : StD w W rb T st v L) (o : Obj) {x : List UInt8} (ho : Own wA 9 1 vA (L.length + 1) (L.map sv ++ [sv x]) 0) (hc : Chg (fun k => v.ownBlock = some k) (W.alloc o) wA) (hn : ∀ k, vA.ownBlock = some k → v.ownBlock = some k ∨ (W.alloc o).heap.size ≤ k) : StD w wA rb T st vA (L ++ [x]) := by
 refine ⟨(h.st.grown (only_alloc (only_refl W none) o)).chg hc (fun k e => by have := h.new k e; have := h.rbl; omega), ?_, fun k hk => ?_, gr_app h.gr o hc h.new, h.rbl⟩
 ·unfold StrS
  rw [List.length_append, List.length_singleton, List.map_append]
  exact ho
 ·rcases hn k hk with e | e
  ·exact h.new k e
  ·rw [World.size_alloc] at e
   have := h.gr.size
   omega
theorem CasD.step (h : CasD w w1 W rb T st A B ss P ps b p v) (hg : W.grownBy W' (some rb)) (ht : DIs W' rb T st') : CasD w w1 W' rb T st' A B ss P ps b p v := by
 have hT := h.st.hasT
 obtain ⟨cs, p1, p2, p3⟩ := h.pats
 obtain ⟨ds, q1, q2⟩ := h.parts
 exact ⟨ht, Blk.grown h.box hg (fun e => by injection e with e; have := h.hB; have := h.rbl; omega), Blk.grown h.res hg (fun e => by injection e with e; have := h.hA; have := h.rbl; omega), h.hA, h.hB, h.ne, h.lA, h.lB, own_rb hg hT h.words (by decide), h.nb,
  ⟨cs, own_rb hg hT p1 (by decide), p2, fun i hi => by obtain ⟨u, hu, hs, ha⟩ := p3 i hi; exact ⟨u, hu, own_rb hg hT hs (by decide), ha⟩⟩,
  ⟨ds, own_rb hg hT q1 (by decide), fun i hi => by obtain ⟨u, hu, hn, h3⟩ := q2 i hi; exact ⟨u, hu, hn.drb hg hT, h3⟩⟩, h.nv, h.kb, only_trans h.gr hg, h.rbl, Nat.le_trans h.ls hg.size⟩
theorem CasD.grown (h : CasD w w1 W rb T st A B ss P ps b p v) (hg : W.grownBy W' none) : CasD w w1 W' rb T st A B ss P ps b p v := h.step (gr_rb hg) (h.st.grown hg)
theorem CasD.start {ts : List Tok} {d : Nat} (h : DIs w rb T (.ok ts d)) : CasD w ((w.alloc (.cells #[.int .i64 0, .string ⟨#[]⟩, .bool false, .slice none 0 0, .slice none 0 0, .slice none 0 0, .slice none 0 0, .slice none 0 0] 33)).alloc (.cells #[.int .i64 14, .string ⟨#[]⟩, .bool false, .slice none 0 0, .slice none 0 0, .slice none 0 0, .slice none 0 0, .slice none 0 0] 33)) ((w.alloc (.cells #[.int .i64 0, .string ⟨#[]⟩, .bool false, .slice none 0 0, .slice none 0 0, .slice none 0 0, .slice none 0 0, .slice none 0 0] 33)).alloc (.cells #[.int .i64 14, .string ⟨#[]⟩, .bool false, .slice none 0 0, .slice none 0 0, .slice none 0 0, .slice none 0 0, .slice none 0 0] 33)) rb T (.ok ts d) w.heap.size (w.heap.size + 1) [] [] [] (.slice none 0 0) (.slice none 0 0) (.slice none 0 0) := by
 have h1 := Blk.new (w.alloc (.cells #[.int .i64 0, .string ⟨#[]⟩, .bool false, .slice none 0 0, .slice none 0 0, .slice none 0 0, .slice none 0 0, .slice none 0 0] 33)) 33 #[.int .i64 14, .string ⟨#[]⟩, .bool false, .slice none 0 0, .slice none 0 0, .slice none 0 0, .slice none 0 0, .slice none 0 0]
 rw [World.size_alloc] at h1
 refine ⟨(h.grown (only_alloc (only_refl w none) _)).grown (only_alloc (only_refl _ none) _), h1, (Blk.new w 33 _).alloc _, Nat.le_refl _, by omega, by omega, by rw [World.size_alloc, World.size_alloc]; omega, by rw [World.size_alloc, World.size_alloc]; omega, Own.nil _ _ _ _, fun k hk => (by cases hk), ⟨[], Own.nil _ _ _ _, fun k hk => (by cases hk), fun i hi => absurd hi (by simp)⟩, ⟨[], Own.nil _ _ _ _, fun i hi => absurd hi (by simp)⟩, fun k hk => (by cases hk), fun m hm => (by cases hm), only_alloc (only_alloc (only_refl w _) _) _, h.lb, Nat.le_refl _⟩
theorem strs1 (W : World) (x : List UInt8) : StrS (W.alloc (.cells #[.string ⟨x.toArray⟩] 9)) (.slice (some ⟨W.heap.size, 0, none⟩) 1 1) [x] :=
 ⟨rfl, .inr ⟨W.heap.size, 0, 1, _, (0, 0), rfl, Blk.new W 9 _, Nat.le_refl _, Nat.le_refl _, by unfold maxLen; omega, by show 0 + 1 * 1 ≤ 1; omega, fun j hj => (by (have hj1 : j < 1 := hj); (have h0 : j = 0 := by omega); subst h0; rfl)⟩⟩
/-- The word of the case. -/
theorem CasD.setW (h : CasD w w1 W rb T st A B [] [] [] (.slice none 0 0) (.slice none 0 0) (.slice none 0 0)) (x : List UInt8) : CasD w w1 ((W.alloc (.cells #[.string ⟨x.toArray⟩] 9)).setCell ⟨B, 4, none⟩ (.slice (some ⟨W.heap.size, 0, none⟩) 1 1)) rb T st A B [x] [] [] (.slice (some ⟨W.heap.size, 0, none⟩) 1 1) (.slice none 0 0) (.slice none 0 0) := by
 have h1 := h.grown (only_alloc (only_refl W none) (.cells #[.string ⟨x.toArray⟩] 9))
 have hlt := Blk.lt h.box
 have hne : W.heap.size ≠ B := by omega
 refine ⟨h1.st.fresh (Nat.lt_of_lt_of_le h.rbl h.hB) 4 _, Blk.set_ h1.box 4 _, Blk.far h1.res (p := ⟨B, 4, none⟩) h.ne _, h.hA, h.hB, h.ne, h.lA, h.lB, Own.far (strs1 W x) (p := ⟨B, 4, none⟩) (fun e => hne (Option.some.inj e)) _, fun k hk => by have h5 : W.heap.size = k := Option.some.inj hk; have := h.gr.size; omega, ⟨[], Own.nil _ _ _ _, fun k hk => (by cases hk), fun i hi => absurd hi (by simp)⟩, ⟨[], Own.nil _ _ _ _, fun i hi => absurd hi (by simp)⟩, fun k hk => (by cases hk), fun m hm => (by cases hm), only_setCell h1.gr (p := ⟨B, 4, none⟩) (.inr h.hB) _, h.rbl, Nat.le_trans h1.ls (only_setCell (only_refl _ (some B)) (p := ⟨B, 4, none⟩) (.inl rfl) _).size⟩
/-- Nodes that lie beside p's block, when p grows. -/
theorem nds_pats {ns : List Nd} {pA : Value} (h : NdS (fun k => p.ownBlock = some k ∨ low w1 k) W u ns) (o : Obj) (hT : ∀ k, p.ownBlock = some k → HasT (W.alloc o) k 28) (hc : Chg (fun k => p.ownBlock = some k) (W.alloc o) wA) (hn : ∀ k, pA.ownBlock = some k → p.ownBlock = some k ∨ (W.alloc o).heap.size ≤ k) : NdS (fun k => pA.ownBlock = some k ∨ low w1 k) wA u ns := by
 have h2 := (h.grown (only_alloc (only_refl W none) o)).more (S := fun k => (W.alloc o).heap.size ≤ k) (fun _ h => h)
 obtain ⟨cs, x1, x2⟩ := h2
 refine ⟨cs, x1.chg hc (fun g hg e => absurd ((x1.hasT hg).uniq (hT g e)) (by decide)), fun i hi => ?_⟩
 obtain ⟨x, y, r, p', k, e, hn2⟩ := x2 i hi
 refine ⟨x, y, r, p', k, e, (NdAt.chg hc (fun k e => .inl (.inl e)) hn2).mono fun k hk => ?_⟩
 rcases hk with hk | hk
 ·rcases hn k hk with e | e
  ·exact .inl (.inl e)
  ·exact .inr e
 ·exact .inl (.inr hk)
/-- One clause's patterns. -/
theorem CasD.appP (h : CasD w w1 W rb T st A B ss P ps b p v) {cs : List Value} (h1 : Own W 28 1 p P.length cs 0) (h3 : ∀ i (h : i < P.length), ∃ u, cs[i]? = some u ∧ StrS W u P[i] ∧ Av (low w) u) (o : Obj) {v9 pA : Value} (h9 : StrS W v9 L) (n9 : ∀ k, v9.ownBlock = some k → w.heap.size ≤ k)
  (ho : Own wA 28 1 pA (P.length + 1) (cs ++ [v9]) 0) (hc : Chg (fun k => p.ownBlock = some k) (W.alloc o) wA) (hn : ∀ k, pA.ownBlock = some k → p.ownBlock = some k ∨ (W.alloc o).heap.size ≤ k) :
  Blk wA B 33 #[.int .i64 14, .string ⟨#[]⟩, .bool false, .slice none 0 0, b, .slice none 0 0, p, .slice none 0 0] ∧ CasD w w1 (wA.setCell ⟨B, 6, none⟩ pA) rb T st A B ss (P ++ [L]) ps b pA v ∧
  ∀ (u : Value) (ns : List Nd), NdS (fun k => p.ownBlock = some k ∨ low w1 k) W u ns → (∀ g, u.ownBlock = some g → w1.heap.size ≤ g) → NdS (fun k => pA.ownBlock = some k ∨ low w1 k) (wA.setCell ⟨B, 6, none⟩ pA) u ns := by
 have hgW := only_alloc (only_refl W none) o
 have hh := h.grown hgW
 have hT : ∀ k, p.ownBlock = some k → HasT (W.alloc o) k 28 := fun k e => Own.hasT (old_own hgW h1) e
 have hbx : Blk wA B 33 #[.int .i64 14, .string ⟨#[]⟩, .bool false, .slice none 0 0, b, .slice none 0 0, p, .slice none 0 0] := Blk.chg hh.box hc (fun e => absurd ((hT _ e).uniq hh.box.hasT) (by decide))
 have hrs : Blk wA A 33 #[.int .i64 0, .string ⟨#[]⟩, .bool false, .slice none 0 0, .slice none 0 0, .slice none 0 0, .slice none 0 0, .slice none 0 0] := Blk.chg hh.res hc (fun e => absurd ((hT _ e).uniq hh.res.hasT) (by decide))
 have np : ∀ k, p.ownBlock = some k → w.heap.size ≤ k := fun k hk => by obtain ⟨_, _, ha, _⟩ := h.pats; exact Nat.not_lt.1 (ha k hk)
 have npA : ∀ k, pA.ownBlock = some k → w.heap.size ≤ k := fun k hk => by
  rcases hn k hk with e | e
  ·exact np k e
  ·rw [World.size_alloc] at e
   have := h.gr.size
   omega
 have hcc : Chg (fun k => p.ownBlock = some k ∨ k = B) (W.alloc o) (wA.setCell ⟨B, 6, none⟩ pA) := Chg.setCell (Chg.mono hc fun k _ e => .inl e) (p := ⟨B, 6, none⟩) (.inl (.inr rfl)) pA
 have hlow : ∀ k, (p.ownBlock = some k ∨ k = B) → w.heap.size ≤ k := fun k e => by
  rcases e with e | rfl
  ·exact np k e
  ·exact h.hB
 have far : ∀ {e : TypeId} {s n k : Nat} {v : Value} {xs : List Value}, Own W e s v n xs k → e ≠ 28 → e ≠ 33 → Own (wA.setCell ⟨B, 6, none⟩ pA) e s v n xs k := fun ho h1 h2 => (old_own hgW ho).chg hcc fun g hg e => by
  rcases e with e | rfl
  ·exact h1 (((old_own hgW ho).hasT hg).uniq (hT g e))
  ·exact h2 (((old_own hgW ho).hasT hg).uniq hh.box.hasT)
 have keep : ∀ (u : Value) (ns : List Nd), NdS (fun k => p.ownBlock = some k ∨ low w1 k) W u ns → (∀ g, u.ownBlock = some g → w1.heap.size ≤ g) → NdS (fun k => pA.ownBlock = some k ∨ low w1 k) (wA.setCell ⟨B, 6, none⟩ pA) u ns := fun u ns hu hg => (nds_pats hu o hT hc hn).far33 (q := ⟨B, 6, none⟩) (fun e => Nat.not_lt.2 (hg _ e) h.lB) hbx.hasT _
 obtain ⟨ds, q1, q2⟩ := h.parts
 refine ⟨hbx, ⟨(h.st.grown hgW).chg hcc (fun k e => by have := hlow k e; have := h.rbl; omega), Blk.set_ hbx 6 _, Blk.far hrs (p := ⟨B, 6, none⟩) h.ne _, h.hA, h.hB, h.ne, h.lA, h.lB, far h.words (by decide) (by decide), h.nb, ⟨cs ++ [v9], ?_, fun k hk e => absurd e (Nat.not_lt.2 (npA k hk)), fun i hi => ?_⟩, ⟨ds, far q1 (by decide) (by decide), fun i hi => by obtain ⟨u, hu, hn, h4⟩ := q2 i hi; exact ⟨u, hu, keep u _ hn h4, h4⟩⟩, h.nv, h.kb, gr_app h.gr o hcc hlow, h.rbl, Nat.le_trans hh.ls hcc.size⟩, keep⟩
 ·rw [List.length_append, List.length_singleton]
  exact ho.far (p := ⟨B, 6, none⟩) (fun e => absurd ((Own.hasT ho e).uniq hbx.hasT) (by decide)) _
 ·rw [List.length_append, List.length_singleton] at hi
  have hl := h1.len
  by_cases hin : i < P.length
  ·obtain ⟨u, hu, hs, ha⟩ := h3 i hin
   refine ⟨u, by rw [List.getElem?_append_left (by omega)]; exact hu, ?_, ha⟩
   rw [List.getElem_append_left hin]
   exact far hs (by decide) (by decide)
  ·obtain rfl : i = P.length := by omega
   refine ⟨v9, by rw [List.getElem?_append_right (by omega), show P.length - cs.length = 0 by omega]; rfl, ?_, fun k hk e => absurd e (Nat.not_lt.2 (n9 k hk))⟩
   rw [List.getElem_append_right (Nat.le_refl _)]
   simp only [Nat.sub_self, List.getElem_cons_zero]
   exact far h9 (by decide) (by decide)
/-- One clause's body. -/
theorem CasD.appB (h : CasD w w1 W rb T st A B ss P ps b p v) {cs : List Value} (h1 : Own W 23 1 v ps.length cs 0) (h2 : ∀ i (h : i < ps.length), ∃ u, cs[i]? = some u ∧ NdS (fun k => p.ownBlock = some k ∨ low w1 k) W u ps[i] ∧ ∀ g, u.ownBlock = some g → w1.heap.size ≤ g) (o : Obj) {ms : List Nd} (hu : NdS (fun k => p.ownBlock = some k ∨ low w1 k) W u ms) (hk : KB ms) (hun : ∀ g, u.ownBlock = some g → w1.heap.size ≤ g)
  (ho : Own wA 23 1 vA (ps.length + 1) (cs ++ [u]) 0) (hc : Chg (fun k => v.ownBlock = some k) (W.alloc o) wA) (hn : ∀ k, vA.ownBlock = some k → v.ownBlock = some k ∨ (W.alloc o).heap.size ≤ k) : CasD w w1 wA rb T st A B ss P (ps ++ [ms]) b p vA := by
 have hgW := only_alloc (only_refl W none) o
 have hh := h.grown hgW
 have hT : ∀ k, v.ownBlock = some k → HasT (W.alloc o) k 23 := fun k e => Own.hasT (old_own hgW h1) e
 have far : ∀ {e : TypeId} {s n k : Nat} {v : Value} {xs : List Value}, Own W e s v n xs k → e ≠ 23 → Own wA e s v n xs k := fun ho h1 => (old_own hgW ho).chg hc fun g hg e => h1 (((old_own hgW ho).hasT hg).uniq (hT g e))
 obtain ⟨ds, p1, p2, p3⟩ := h.pats
 refine ⟨(h.st.grown hgW).chg hc (fun k e => by have := h.nv k e; have := h.rbl; omega), Blk.chg hh.box hc (fun e => absurd ((hT _ e).uniq hh.box.hasT) (by decide)), Blk.chg hh.res hc (fun e => absurd ((hT _ e).uniq hh.res.hasT) (by decide)), h.hA, h.hB, h.ne, h.lA, h.lB, far h.words (by decide), h.nb, ⟨ds, far p1 (by decide), p2, fun i hi => by obtain ⟨u, hu, hs, ha⟩ := p3 i hi; exact ⟨u, hu, far hs (by decide), ha⟩⟩, ⟨cs ++ [u], by rw [List.length_append, List.length_singleton]; exact ho, fun i hi => ?_⟩, fun k hk => ?_, fun m hm => ?_, gr_app h.gr o hc h.nv, h.rbl, Nat.le_trans hh.ls hc.size⟩
 ·rw [List.length_append, List.length_singleton] at hi
  have hl := h1.len
  by_cases hin : i < ps.length
  ·obtain ⟨u', hu', hn', h3'⟩ := h2 i hin
   refine ⟨u', by rw [List.getElem?_append_left (by omega)]; exact hu', ?_⟩
   rw [List.getElem_append_left hin]
   exact ⟨(hn'.grown hgW).chgP hc hT, h3'⟩
  ·obtain rfl : i = ps.length := by omega
   refine ⟨u, by rw [List.getElem?_append_right (by omega), show ps.length - cs.length = 0 by omega]; rfl, ?_⟩
   rw [List.getElem_append_right (Nat.le_refl _)]
   simp only [Nat.sub_self, List.getElem_cons_zero]
   exact ⟨(hu.grown hgW).chgP hc hT, hun⟩
 ·rcases hn k hk with e | e
  ·exact h.nv k e
  ·rw [World.size_alloc] at e
   have := h.gr.size
   omega
 ·rw [List.mem_append, List.mem_singleton] at hm
  rcases hm with hm | rfl
  ·exact h.kb m hm
  ·exact hk
end
/-- What cases answers: a node without kids, and the parts. -/
def vCs (w0 w' : World) (n : Nd) (ps : List (List Nd)) (v : Value) : Prop := ∃ b p vp, v = .tuple #[.agg #[.int .i64 14, .string ⟨#[]⟩, .bool false, .slice none 0 0, b, .slice none 0 0, p, .slice none 0 0], vp] ∧ NdAt (low w0) w' (.slice none 0 0) b (.slice none 0 0) p (.slice none 0 0) n ∧ n = { kind := 14, words := n.words, pats := n.pats } ∧ PartsN w0 w' vp ps ∧ (∀ ms ∈ ps, KB ms) ∧ sumL ps ≤ 10000 ∧ ps.length ≤ 600
def CPost (rb : Nat) (T : List Tok) (d N : Nat) (w : World) (R : PR Nd) : Ending → World → Prop := fun e w' => ∃ v n ps st, e = .returned v ∧ vCs w w' n ps v ∧ DIs w' rb T st ∧ w.grownBy w' (some rb) ∧ Sim R d N (sumL ps) (fun Z => .ok { n with kids := (joinP ps).2 } Z (joinP ps).1) st
theorem CasD.fin {w w1 W : World} {rb A B d N : Nat} {T : List Tok} {st : DS} {ss : List (List UInt8)} {P : List (List (List UInt8))} {ps : List (List Nd)} {b p v : Value} {R : PR Nd} (h : CasD w w1 W rb T st A B ss P ps b p v) (hl : w.heap.size ≤ w1.heap.size) (hs : Sim R d N (sumL ps) (fun Z => .ok { kind := 14, words := ss, pats := P, kids := (joinP ps).2 } Z (joinP ps).1) st) (h1 : sumL ps ≤ 10000) (h2 : ps.length ≤ 600) :
  Blk (put8 W A (.int .i64 14) (.string ⟨#[]⟩) (.bool false) (.slice none 0 0) b (.slice none 0 0) p (.slice none 0 0)) A 33 #[.int .i64 14, .string ⟨#[]⟩, .bool false, .slice none 0 0, b, .slice none 0 0, p, .slice none 0 0] ∧
  CPost rb T d N w R (.returned (.tuple #[.agg #[.int .i64 14, .string ⟨#[]⟩, .bool false, .slice none 0 0, b, .slice none 0 0, p, .slice none 0 0], v])) (put8 W A (.int .i64 14) (.string ⟨#[]⟩) (.bool false) (.slice none 0 0) b (.slice none 0 0) p (.slice none 0 0)) := by
 have hc := put8_chg W A (.int .i64 14) (.string ⟨#[]⟩) (.bool false) (.slice none 0 0) b (.slice none 0 0) p (.slice none 0 0)
 have hst := h.st.chg hc (fun k e => by subst e; have := h.hA; have := h.rbl; omega)
 have hgr : w.grownBy (put8 W A (.int .i64 14) (.string ⟨#[]⟩) (.bool false) (.slice none 0 0) b (.slice none 0 0) p (.slice none 0 0)) (some rb) :=
  ⟨hc.os.trans h.gr.os, hc.tape.trans h.gr.tape, hc.output.trans h.gr.output, Nat.le_trans h.gr.size hc.size, fun k hk hne => (hc.block k (Nat.lt_of_lt_of_le hk h.gr.size) (fun e => by have := h.hA; omega)).trans (h.gr.block k hk hne)⟩
 have far : ∀ {e : TypeId} {s n k : Nat} {v : Value} {xs : List Value}, Own W e s v n xs k → e ≠ 33 → Own (put8 W A (.int .i64 14) (.string ⟨#[]⟩) (.bool false) (.slice none 0 0) b (.slice none 0 0) p (.slice none 0 0)) e s v n xs k := fun ho h1 => ho.chg hc fun g hg e => by subst e; exact h1 ((ho.hasT hg).uniq h.res.hasT)
 obtain ⟨ds, p1, p2, p3⟩ := h.pats
 obtain ⟨cs, q1, q2⟩ := h.parts
 have hv : vCs w (put8 W A (.int .i64 14) (.string ⟨#[]⟩) (.bool false) (.slice none 0 0) b (.slice none 0 0) p (.slice none 0 0)) { kind := 14, words := ss, pats := P } ps (.tuple #[.agg #[.int .i64 14, .string ⟨#[]⟩, .bool false, .slice none 0 0, b, .slice none 0 0, p, .slice none 0 0], v]) := by
  refine ⟨b, p, v, rfl, ⟨Own.nil _ _ _ _, far h.words (by decide), Own.nil _ _ _ _, ⟨ds, far p1 (by decide), p2, fun i hi => by obtain ⟨u, hu, hs, ha⟩ := p3 i hi; exact ⟨u, hu, far hs (by decide), ha⟩⟩, Own.nil _ _ _ _, fun k hk => (by cases hk), fun k hk e => absurd e (Nat.not_lt.2 (h.nb k hk)), fun k hk => (by cases hk), fun k hk => (by cases hk)⟩, rfl, ⟨cs, far q1 (by decide), fun i hi => ?_⟩, h.kb, h1, h2⟩
  obtain ⟨u, hu, hn, h4⟩ := q2 i hi
  refine ⟨u, hu, ?_, fun g hg => Nat.le_trans hl (h4 g hg)⟩
  have hn2 : NdS (low w) W u ps[i] := hn.mono fun k hk => .inr (Nat.lt_of_lt_of_le hk hl)
  obtain ⟨es, x1, x2⟩ := hn2
  refine ⟨es, x1.chg hc (fun g hg e => by subst e; have := h4 _ hg; have := h.lA; omega), fun j hj => ?_⟩
  obtain ⟨x, y, r, p', k, e, hn3⟩ := x2 j hj
  have hf : Fr (fun _ => True) W (put8 W A (.int .i64 14) (.string ⟨#[]⟩) (.bool false) (.slice none 0 0) b (.slice none 0 0) p (.slice none 0 0)) := Chg.mono hc fun k _ e => ⟨trivial, .inr (by subst e; exact h.res.hasT)⟩
  exact ⟨x, y, r, p', k, e, hn3.fr hf⟩
 exact ⟨Blk.set_ (Blk.set_ (Blk.set_ (Blk.set_ (Blk.set_ (Blk.set_ (Blk.set_ (Blk.set_ h.res 0 _) 1 _) 2 _) 3 _) 4 _) 5 _) 6 _) 7 _, _, _, _, _, rfl, hv, hst, hgr, hs⟩
end Go.Proofs.Ytgpfjcogaheopaa

end
section
/- The document's cases. -/
namespace Go.Proofs.Ytgpfjcogaheopaa
open Go.RowKit Lx
set_option maxRecDepth 100000
/-- What stands behind the clauses. -/
def Ec : Nd → List Tok → List Nd → PR Nd := fun n ts ns => (needR wEsac ts ns).bind fun _ ts ns => .ok n ts ns
def Nc (s : List UInt8) (P : List (List (List UInt8))) (K : List Int) : Nd := { kind := 14, words := [s], pats := P, kids := K }
/-- Behind a clause's body; behind its patterns. -/
def Kb (lst : Rdr) (f : Nat) (s : List UInt8) (P : List (List (List UInt8))) (K : List Int) (L : List (List UInt8)) : Int → List Tok → List Nd → PR Nd := fun body ts ns => (if isB ts sSemi2 = true then caseL lst f (Nc s (P ++ [L]) (K ++ [body])) (breaksF ts.tail) ns else .ok (Nc s (P ++ [L]) (K ++ [body])) ts ns).bind Ec
def Kf (lst : Rdr) (f : Nat) (s : List UInt8) (P : List (List (List UInt8))) (K : List Int) : List (List UInt8) → List Tok → List Nd → PR Nd := fun L ts ns => (needR sRap ts ns).bind fun _ ts ns => (if beginsB (breaksF ts) = true then lst (breaksF ts) ns else .ok (-1) (breaksF ts) ns).bind (Kb lst f s P K L)
theorem bind_bind {α β γ : Type} (p : PR α) (f : α → List Tok → List Nd → PR β) (g : β → List Tok → List Nd → PR γ) : (p.bind f).bind g = p.bind fun x ts ns => (f x ts ns).bind g := by cases p <;> rfl
theorem case_step (lst : Rdr) (f : Nat) (s : List UInt8) (P : List (List (List UInt8))) (K : List Int) (ts : List Tok) (ns : List Nd) : (caseL lst (f + 1) (Nc s P K) ts ns).bind Ec = if wrdB ts wEsac = true then Ec (Nc s P K) ts ns else (anyR (if sgnB ts sPar = true then ts.tail else ts) ns).bind fun x ts ns => (patsL (ts.length + 1) [x] ts ns).bind (Kf lst f s P K) := by
 rw [caseL]
 split
 ·rfl
 ·rw [bind_bind]
  congr 1
  funext x t1 n1
  rw [bind_bind]
  congr 1
  funext y t2 n2
  show _ = (needR sRap t2 n2).bind _
  rw [bind_bind]
  congr 1
  funext z t3 n3
  rw [bind_bind]
  rfl
theorem case_start {lst : Rdr} {t : Tok} {r : List Tok} {ns : List Nd} (hk : t.k = 1) : caseF lst (t :: r) ns = (needR wIn (breaksF r) ns).bind fun _ ts ns => (caseL lst (ts.length + 1) (Nc t.t [] []) (breaksF ts) ns).bind Ec := by
 unfold caseF anyR
 simp only [hk, if_true]
 rfl
theorem case_no {lst : Rdr} {t : Tok} {r : List Tok} {ns : List Nd} (hk : t.k ≠ 1) : caseF lst (t :: r) ns = wrongR (t :: r) := by
 unfold caseF anyR
 simp only [hk, if_false]
 rfl
theorem any_yes {α : Type} {t : Tok} {r : List Tok} {ns : List Nd} {f : List UInt8 → List Tok → List Nd → PR α} (h : t.k = 1) : (anyR (t :: r) ns).bind f = f t.t r ns := by
 unfold anyR
 simp only [h, if_true]
 rfl
theorem any_no {α : Type} {t : Tok} {r : List Tok} {ns : List Nd} {f : List UInt8 → List Tok → List Nd → PR α} (h : t.k ≠ 1) : (anyR (t :: r) ns).bind f = .bad t.a (if t.k = 4 then 23 else 17) := by
 unfold anyR
 simp only [h, if_false]
 rfl
/-- Behind a clause. -/
def Ka (lst : Rdr) (f : Nat) (s : List UInt8) (P : List (List (List UInt8))) (L : List (List UInt8)) (K : List Int) : List Tok → List Nd → PR Nd := fun ts ns => (if isB ts sSemi2 = true then caseL lst f (Nc s (P ++ [L]) K) (breaksF ts.tail) ns else .ok (Nc s (P ++ [L]) K) ts ns).bind Ec
theorem joinP_nil (ps : List (List Nd)) : joinP (ps ++ [[]]) = ((joinP ps).1, (joinP ps).2 ++ [-1]) := by rw [joinP_snoc]; rfl
set_option maxHeartbeats 16000000 in
theorem dcases_any (n : Nat) (lst : Drd) (hd : DecD 2 lst) (he : EqvD lst) (Hp : ListAny lst n) (rb : Nat) (T ts : List Tok) (d : Nat) (w : World) (h : DIs w rb T (.ok ts d)) (hn : ts.length ≤ n) :
  Calls Try.prog 87 #[.pointer (some ⟨rb, 0, none⟩)] w (CPost rb T d n w (caseF (lst d) ts [])) := by
 have HP := hide (fun tot ps f st W hW hs => Hp Nd (caseF (lst d) ts []) rb T d tot ps f st W hW hs)
 have Hx := hide (fun W st (hW : DIs W rb T st) => dwrong_any rb T st W hW)
 have HNd := hide (fun W st s (hW : DIs W rb T st) => dneed_any rb T st s W hW)
 have HBk := hide (fun W st (hW : DIs W rb T st) => dbreaks_any rb T st W hW)
 have HWd := hide (fun W st s (hW : DIs W rb T st) => dword_any rb T st s W hW)
 have HSg := hide (fun W st s (hW : DIs W rb T st) => dsign_any rb T st s W hW)
 have HBe := hide (fun W st (hW : DIs W rb T st) => dbegins_any rb T st W hW)
 unfold Qb at HWd HSg HBe
 unfold sv at HWd HSg
 unfold Qu at Hx HNd HBk
 unfold sv at HNd
 have HGD := hide h.good
 have HAT := hide (CasD.start h)
 have HDD0 := hide (And.intro hn (And.intro (hd d) (he d)))
 obtain ⟨R, hR⟩ : ∃ R, caseF (lst d) ts [] = R := ⟨_, rfl⟩
 have HR := hide hR
 rw [hR] at HP ⊢
 clear hR h hd he hn Hp
 obtain ⟨t, r, rfl⟩ := HGD.out.1.ne
 go_enter Try.func87, Try.ntmps87
 go_upto_region 3 with (fail)
 generalize (w.alloc (.cells #[.int .i64 0, .string ⟨#[]⟩, .bool false, .slice none 0 0, .slice none 0 0, .slice none 0 0, .slice none 0 0, .slice none 0 0] 33)).alloc (.cells #[.int .i64 14, .string ⟨#[]⟩, .bool false, .slice none 0 0, .slice none 0 0, .slice none 0 0, .slice none 0 0, .slice none 0 0] 33) = W0 at HAT ⊢
 generalize w.heap.size + 1 = B at HAT ⊢
 generalize w.heap.size = A at HAT ⊢
 have HLW := hide HAT.out.gr.size
 obtain ⟨vt, a, fr9, h, hd, hdd⟩ := HAT.out.st
 obtain ⟨c0, c1, c2, c3, c4⟩ := h.cells
 obtain ⟨g, off, cap, t9, r9, rfl, hc, hg, hd2, t0, t1, t2⟩ := h.tok_
 have lb := h.lb
 have hlt := h.lt
 have hib : (0 : Int) ≤ (a : Int) ∧ (a : Int) < ((T.length : Nat) : Int) := by omega
 have hTl := h.tg.len
 obtain ⟨LT, hL⟩ : ∃ LT, T.length = LT := ⟨_, rfl⟩
 have hAL : (a : Int) ≤ 500 := by omega
 have HDA := hide h
 have HDD := hide (And.intro hd hdd)
 have hZ := hd.symm.trans hd2
 injection hZ with hZ1 hZ2
 subst hZ1 hZ2
 rw [hL] at c0 hib hc hTl
 have z1 := Blk.frozen h.blk 1
 clear h hd hdd hd2 hL hlt
 obtain ⟨tk, tt, ta⟩ := t
 simp only [] at t0 t1 t2
 have Hk : Hid (∀ X : World, W0.grownBy X none → (X.cell? ⟨rb, 0, none⟩ = some (.slice (some ⟨g, off, none⟩) LT cap) ∧ X.cell? ⟨rb, 1, none⟩ = some (.int .i64 a) ∧ X.cell? ⟨g, off + a * 3, none⟩ = some (.int .i64 tk) ∧ X.cell? ⟨g, off + a * 3 + 1, none⟩ = some (.string ⟨tt.toArray⟩) ∧ X.cell? ⟨g, off + a * 3 + 2, none⟩ = some (.int .i64 ta))) :=
  hide (fun X hw => ⟨old_cell hw lb c0, old_cell hw lb c1, old_cell hw hg t0, old_cell hw hg t1, old_cell hw hg t2⟩)
 go_region_held3 (fun X => X.cell? ⟨rb, 0, none⟩ = some (.slice (some ⟨g, off, none⟩) LT cap) ∧ X.cell? ⟨rb, 1, none⟩ = some (.int .i64 a) ∧ X.cell? ⟨g, off + a * 3, none⟩ = some (.int .i64 tk) ∧ X.cell? ⟨g, off + a * 3 + 1, none⟩ = some (.string ⟨tt.toArray⟩) ∧ X.cell? ⟨g, off + a * 3 + 2, none⟩ = some (.int .i64 ta))
  (first | go_keep | exact Hk.out _ (by repeat' (first | (with_reducible exact only_refl _ _) | (with_reducible refine none_setCell ?_ ?_ _) | (with_reducible refine none_trans ?_ hg) | (with_reducible refine only_drew ?_) | (with_reducible refine only_alloc ?_ _) | omega | (simp; done))))
  (fail)
 have hg3 := only_drew (only_alloc (only_refl W0 none) (.cells #[.int .i64 tk, .string ⟨tt.toArray⟩, .int .i64 ta] 41))
 have HB4 := hide (show Blk (W0.alloc (.cells #[.int .i64 tk, .string ⟨tt.toArray⟩, .int .i64 ta] 41)).drew W0.heap.size 41 #[.int .i64 tk, .string ⟨tt.toArray⟩, .int .i64 ta] from Blk.new W0 41 _)
 have HA3 := hide (HAT.out.grown hg3)
 have e3 := old_cell hg3 lb c3
 have le := Nat.lt_of_lt_of_le lb hg3.size
 generalize (W0.alloc (.cells #[.int .i64 tk, .string ⟨tt.toArray⟩, .int .i64 ta] 41)).drew = W3, W0.heap.size = B4 at HB4 HA3 e3 le ⊢
 clear Hk hg3
 clear c0 c1 c2 c3 c4 t0 t1 t2 hg lb hib hTl hAL hc z1
 have x0 : W3.cell? ⟨B4, 0, none⟩ = some (.int .i64 tk) := Blk.cell HB4.out 0
 have x1 : W3.cell? ⟨B4, 1, none⟩ = some (.string ⟨tt.toArray⟩) := Blk.cell HB4.out 1
 have lx := Blk.lt HB4.out
 by_cases k1 : tk = 1
 ·subst k1
  have HR1 := hide (show R = (needR wIn (breaksF r) []).bind fun _ ts ns => (caseL (lst d) (ts.length + 1) (Nc tt [] []) (breaksF ts) ns).bind Ec from HR.out.symm.trans (case_start rfl))
  have lB := Blk.lt HA3.out.box
  have zB := Blk.frozen HA3.out.box 4
  have y4 : W3.cell? ⟨B, 4, none⟩ = some (.slice none 0 0) := Blk.cell HA3.out.box 4
  have h7 := CasD.setW HA3.out tt
  rw [World.setCell_alloc_past _ _ _ _ (Blk.lt HA3.out.box)] at h7
  have HA7 := hide h7
  clear h7
  go_upto_region 8 with (fail)
  generalize (W3.setCell ⟨B, 4, none⟩ (.slice (some ⟨W3.heap.size, 0, none⟩) 1 1)).alloc (.cells #[.string ⟨tt.toArray⟩] 9) = W7 at HA7 ⊢
  obtain ⟨bw, hbw⟩ : ∃ b, Value.slice (some ⟨W3.heap.size, 0, none⟩) 1 1 = b := ⟨_, rfl⟩
  rw [hbw] at HA7
  have HBW := hide (show ∃ b1, bw = .slice b1 1 1 from ⟨_, hbw.symm⟩)
  clear x0 x1 lx lB zB y4 e3 le hbw
  obtain ⟨vt, a, fr9, h, hd, hdd⟩ := HA7.out.st
  obtain ⟨c0, c1, c2, c3, c4⟩ := h.cells
  obtain ⟨g, off, cap, t9, r9, rfl, hc, hg, hd2, t0, t1, t2⟩ := h.tok_
  have lb := h.lb
  have hlt := h.lt
  have hib : (0 : Int) ≤ (a : Int) ∧ (a : Int) < ((T.length : Nat) : Int) := by omega
  have hTl := h.tg.len
  obtain ⟨LT, hL⟩ : ∃ LT, T.length = LT := ⟨_, rfl⟩
  have hAL : (a : Int) ≤ 500 := by omega
  have HDA := hide h
  have HDD := hide (And.intro hd hdd)
  have hZ := hd.symm.trans hd2
  injection hZ with hZ1 hZ2
  subst hZ1 hZ2
  rw [hL] at c0 hib hc hTl
  have z1 := Blk.frozen h.blk 1
  clear h hd hdd hd2 hL hlt
  have hnx := DIs.next HDA.out HDD.out.1 HDD.out.2 rfl (show (1 : Nat) ≠ 4 by decide)
  have HA8 := hide (HA7.out.step (only_setCell (only_refl W7 (some rb)) (p := ⟨rb, 1, none⟩) (.inl rfl) (.int .i64 ((a : Int) + 1))) hnx)
  clear hnx
  go_upto_region 9 with (fail)
  generalize W7.setCell ⟨rb, 1, none⟩ (.int .i64 ((a : Int) + 1)) = W8 at HA8 ⊢
  clear c0 c1 c2 c3 c4 t0 t1 t2 hg lb hib hTl hAL hc z1
  have HQ := hide (HBk.out W8 _ HA8.out.st)
  go_wp2_with fail
  refine HQ.out.mono ?_
  rintro e w9 ⟨rfl, h9, g9⟩
  have HA9 := hide (HA8.out.step g9 h9)
  have HGb := hide (show breaksD (.ok r d) = .ok (breaksF r) d from rfl)
  have HS9 := hide (show Sim R d n 0 (fun Z => (needR wIn Z []).bind fun _ ts ns => (caseL (lst d) (ts.length + 1) (Nc tt [] []) (breaksF ts) ns).bind Ec) (breaksD (.ok r d)) from Sim.breaks (C := fun Z => (needR wIn Z []).bind fun _ ts ns => (caseL (lst d) (ts.length + 1) (Nc tt [] []) (breaksF ts) ns).bind Ec) ⟨rfl, HR1.out, by have := HGD.out.2.2.2.1; simp only [List.length_cons] at this; omega, by have := HDD0.out.1; simp only [List.length_cons] at this; omega, HGD.out.1.tail (show (1 : Nat) ≠ 4 by decide), HGD.out.2.1.tail⟩)
  have HQ10 := hide (HNd.out w9 _ wIn HA9.out.st)
  have HS10 := hide (show Sim R d n 0 (fun Z => (caseL (lst d) (Z.length + 1) (Nc tt [] []) (breaksF Z) []).bind Ec) (needD wIn (breaksD (.ok r d))) from Sim.need HS9.out)
  obtain ⟨s10, hs10⟩ : ∃ s, needD wIn (breaksD (.ok r d)) = s := ⟨_, rfl⟩
  rw [hs10] at HQ10 HS10
  unfold wIn at HQ10
  clear h9 g9 hs10
  go_wp2_with fail
  refine HQ10.out.mono ?_
  rintro e w10 ⟨rfl, h10, g10⟩
  have HA10 := hide (HA9.out.step g10 h10)
  clear h10 g10
  have HQ11 := hide (HBk.out w10 s10 HA10.out.st)
  go_wp2_with fail
  refine HQ11.out.mono ?_
  rintro e w11 ⟨rfl, h11, g11⟩
  have HA11 := hide (HA10.out.step g11 h11)
  clear h11 g11
  have HOR := hide (show (∃ f Z, breaksD s10 = .ok Z d ∧ R = (caseL (lst d) f (Nc tt [] []) Z []).bind Ec ∧ Z.length < f ∧ Z.length ≤ n ∧ 10 * Z.length ≤ 5000) ∨ (∃ a k, breaksD s10 = .er a k ∧ R = .bad a k) by
   cases s10 with
   | er a k => exact .inr ⟨a, k, rfl, HS10.out⟩
   | ok Z d2 =>
    obtain ⟨h1, h2, h3, h4, h5, h6⟩ := HS10.out
    subst h1
    have hb := breaks_good h5
    exact .inl ⟨Z.length + 1, breaksF Z, rfl, h2, by omega, by omega, by omega⟩)
  obtain ⟨s11, hs11⟩ : ∃ s, breaksD s10 = s := ⟨_, rfl⟩
  rw [hs11] at HA11 HOR
  clear hs11
  go_upto_block 0 with (fail)
  go_cut [5] (fun v5 wx => ∃ (P : List (List (List UInt8))) (ps : List (List Nd)) (p : Value) (st : DS), ps.length = P.length ∧ CasD w W0 wx rb T st A B [tt] P ps bw p v5 ∧ Sim R d n (sumL ps) (fun Z => Ec (Nc tt P (joinP ps).2) Z (joinP ps).1) st ∧ sumL ps ≤ 10000 ∧ ps.length ≤ 600)
  case rest =>
   obtain ⟨P, ps, p, st, hpl, hA, hS, hsm, hps⟩ := hcut
   have HA := hide hA
   obtain ⟨pc, pp1, _, _⟩ := hA.pats
   obtain ⟨p1, p3, rfl, _, _⟩ := pp1.form
   obtain ⟨vc, vv1, _⟩ := hA.parts
   obtain ⟨v1, v3, rfl, _, _⟩ := vv1.form
   obtain ⟨b1, rfl⟩ := HBW.out
   have HQn := hide (HNd.out wc st wEsac HA.out.st)
   have HS2 := hide (show Sim R d n (sumL ps) (fun Z => .ok (Nc tt P (joinP ps).2) Z (joinP ps).1) (needD wEsac st) from Sim.need hS)
   have HSM := hide (And.intro hsm hps)
   have HPL := hide hpl
   obtain ⟨st2, hst2⟩ : ∃ s, needD wEsac st = s := ⟨_, rfl⟩
   rw [hst2] at HQn HS2
   unfold wEsac at HQn
   clear hst2 hA hS hsm pp1 vv1 hpl
   go_wp2_with fail
   refine HQn.out.mono ?_
   rintro e w12 ⟨rfl, h12, g12⟩
   have HA12 := hide (HA.out.step g12 h12)
   clear h12 g12
   obtain ⟨x0, x1, x2, x3, x4, x5, x6, x7, lB⟩ := box8 HA12.out.box
   obtain ⟨y0, y1, y2, y3, y4, y5, y6, y7, lA⟩ := box8 HA12.out.res
   have zA0 := Blk.frozen HA12.out.res 0
   have zA1 := Blk.frozen HA12.out.res 1
   have zA2 := Blk.frozen HA12.out.res 2
   have zA3 := Blk.frozen HA12.out.res 3
   have zA4 := Blk.frozen HA12.out.res 4
   have zA5 := Blk.frozen HA12.out.res 5
   have zA6 := Blk.frozen HA12.out.res 6
   have zA7 := Blk.frozen HA12.out.res 7
   have HZW := hide (CasD.fin HA12.out HLW.out HS2.out (by have := HSM.out.1; omega) HSM.out.2)
   obtain ⟨hz3, hz4⟩ := HZW.out
   unfold put8 at hz3 hz4
   clear HZW
   go_wp2_with fail
   generalize ((((((((w12.setCell ⟨A, 0, none⟩ (.int .i64 14)).setCell ⟨A, 1, none⟩ (.string ⟨#[]⟩)).setCell ⟨A, 2, none⟩ (.bool false)).setCell ⟨A, 3, none⟩ (.slice none 0 0)).setCell ⟨A, 4, none⟩ (.slice b1 1 1)).setCell ⟨A, 5, none⟩ (.slice none 0 0)).setCell ⟨A, 6, none⟩ (.slice p1 P.length p3)).setCell ⟨A, 7, none⟩ (.slice none 0 0)) = W8 at hz3 hz4 ⊢
   obtain ⟨o0, o1, o2, o3, o4, o5, o6, o7, lP⟩ := box8 hz3
   refine bodyPost_ret (v := .tuple #[.agg #[.int .i64 14, .string ⟨#[]⟩, .bool false, .slice none 0 0, .slice b1 1 1, .slice none 0 0, .slice p1 P.length p3, .slice none 0 0], .slice v1 ps.length v3]) (by simp [results, Try.results87, go_sem, o0, o1, o2, o3, o4, o5, o6, o7]) rfl ?_
   exact hz4
  go_wp2_with fail
  go_loopg [5, 7, 8, 9, 10, 11, 12, 13, 14] n (fun g v5 v7 v8 v9 v10 v11 v12 v13 v14 wr => ∃ (P : List (List (List UInt8))) (ps : List (List Nd)) (p : Value) (st : DS), ps.length = P.length ∧ CasD w W0 wr rb T st A B [tt] P ps bw p v5 ∧ sumL ps ≤ 5000 ∧ ps.length ≤ 600 ∧ ((∃ f Z, st = .ok Z d ∧ R = (caseL (lst d) f (Nc tt P (joinP ps).2) Z (joinP ps).1).bind Ec ∧ Z.length < f ∧ Z.length ≤ g ∧ Z.length ≤ n ∧ sumL ps + 10 * Z.length ≤ 5000 ∧ ps.length + Z.length ≤ 600) ∨ (∃ a k, st = .er a k ∧ R = .bad a k)))
  case atStart =>
   refine ⟨[], [], _, s11, rfl, HA11.out, by simp [sumL], by simp, ?_⟩
   rcases HOR.out with ⟨f, Z, e, h1, h2, h3, h4⟩ | h
   ·exact .inl ⟨f, Z, e, h1, h2, h3, h3, by simpa [sumL] using h4, by simp only [List.length_nil]; omega⟩
   ·exact .inr h
  case round =>
   obtain ⟨P, ps, p, st, hpl, hA, hsm, hps, hor⟩ := hrel
   obtain ⟨wk, hwk⟩ : ∃ x, x = wr := ⟨_, rfl⟩
   subst hwk
   obtain ⟨g0, hg0⟩ : ∃ x, x = gk := ⟨_, rfl⟩
   subst hg0
   have HA := hide hA
   have HSM := hide (And.intro hpl (And.intro hsm hps))
   obtain ⟨pc, pp1, _, _⟩ := hA.pats
   obtain ⟨p1, p3, rfl, _, _⟩ := pp1.form
   obtain ⟨vc, vv1, _⟩ := hA.parts
   obtain ⟨v1, v3, rfl, _, _⟩ := vv1.form
   clear hA pp1 vv1 hsm hps hpl
   rcases hor with ⟨f, Z, rfl, hR, hf, hg, hZn, hfew, hpz⟩ | ⟨ea, ek, rfl, hR⟩
   ·obtain ⟨f, rfl⟩ : ∃ f', f = f' + 1 := ⟨f - 1, by omega⟩
    rw [case_step] at hR
    have HR2 := hide hR
    have HF := hide (And.intro hf (And.intro hg (And.intro hZn (And.intro hfew hpz))))
    have HGo := hide HA.out.st.good
    clear hR hf hg hZn hfew hpz
    obtain ⟨vt, a, fr, h, hd, hdd⟩ := HA.out.st
    obtain ⟨c0, c1, c2, c3, c4⟩ := h.cells
    have lb := h.lb
    clear h hd hdd
    have HQ := hide (show Calls Try.prog 60 #[.pointer (some ⟨rb, 0, none⟩), .string ⟨(wEsac).toArray⟩] wk fun e w' => e = .returned (.bool (wrdB Z wEsac)) ∧ wk.grownBy w' none from HWd.out wk _ wEsac HA.out.st)
    obtain ⟨b1, hb1⟩ : ∃ b, wrdB Z wEsac = b := ⟨_, rfl⟩
    rw [hb1] at HQ HR2
    unfold wEsac at HQ
    clear hb1
    go_wp2_with fail
    refine HQ.out.mono ?_
    rintro e w13 ⟨rfl, g13⟩
    have HA13 := hide (HA.out.grown g13)
    clear g13 c0 c1 c2 c3 c4 lb
    cases b1 with
    | true =>
     go_wp2_with fail
     go_meet
     exact ⟨P, ps, _, .ok Z d, HSM.out.1, HA13.out, ⟨rfl, HR2.out, by have := HF.out; omega, by have := HF.out; omega, HGo.out.1, HGo.out.2.1⟩, by have := HSM.out.2.1; omega, HSM.out.2.2⟩
    | false =>
     have HQp := hide (show Calls Try.prog 29 #[.pointer (some ⟨rb, 0, none⟩), .string ⟨(sPar).toArray⟩] w13 fun e w' => e = .returned (.bool (sgnB Z sPar)) ∧ w13.grownBy w' none from HSg.out w13 _ sPar HA13.out.st)
     obtain ⟨bo, hbo⟩ : ∃ b, sgnB Z sPar = b := ⟨_, rfl⟩
     rw [hbo] at HQp HR2
     have HBO := hide hbo
     unfold sPar at HQp
     have HR3 := hide (show R = (anyR (if bo = true then Z.tail else Z) (joinP ps).1).bind fun x ts ns => (patsL (ts.length + 1) [x] ts ns).bind (Kf (lst d) f tt P (joinP ps).2) from HR2.out)
     clear hbo
     go_wp2_with fail
     refine HQp.out.mono ?_
     rintro e w15 ⟨rfl, g15⟩
     have HA15 := hide (HA13.out.grown g15)
     clear g15
     go_upto_if 66 with (fail)
     go_cut [] (fun wx => ∃ Z1 : List Tok, Z1 = (if bo = true then Z.tail else Z) ∧ Z1.length ≤ Z.length ∧ CasD w W0 wx rb T (.ok Z1 d) A B [tt] P ps bw (.slice p1 P.length p3) (.slice v1 ps.length v3))
     case first =>
      cases bo with
      | false =>
       go_wp2_with fail
       go_meet
       exact ⟨Z, rfl, Nat.le_refl _, HA15.out⟩
      | true =>
       obtain ⟨tz, rz, hz⟩ := HGo.out.1.ne
       subst hz
       have HK2 := hide (sgn_k HBO.out).1
       obtain ⟨vt, a, fr9, h, hd, hdd⟩ := HA15.out.st
       obtain ⟨c0, c1, c2, c3, c4⟩ := h.cells
       obtain ⟨g, off, cap, t9, r9, rfl, hc, hg, hd2, t0, t1, t2⟩ := h.tok_
       have lb := h.lb
       have hlt := h.lt
       have hib : (0 : Int) ≤ (a : Int) ∧ (a : Int) < ((T.length : Nat) : Int) := by omega
       have hTl := h.tg.len
       obtain ⟨LT, hL⟩ : ∃ LT, T.length = LT := ⟨_, rfl⟩
       have hAL : (a : Int) ≤ 500 := by omega
       have HDA := hide h
       have HDD := hide (And.intro hd hdd)
       have hZ := hd.symm.trans hd2
       injection hZ with hZ1 hZ2
       subst hZ1 hZ2
       rw [hL] at c0 hib hc hTl
       have z1 := Blk.frozen h.blk 1
       clear h hd hdd hd2 hL hlt
       have hnx := DIs.next HDA.out HDD.out.1 HDD.out.2 rfl (by have := HK2.out; omega)
       have HA16 := hide (HA15.out.step (only_setCell (only_refl w15 (some rb)) (p := ⟨rb, 1, none⟩) (.inl rfl) (.int .i64 ((a : Int) + 1))) hnx)
       clear hnx
       go_wp2_with fail
       go_meet
       exact ⟨rz, rfl, by simp, HA16.out⟩
     case rest =>
      obtain ⟨Z1, hZ1, hZl, hA⟩ := hcut
      have HA17 := hide hA
      rw [← hZ1] at HR3
      have HZL := hide hZl
      obtain ⟨w17, hw17⟩ : ∃ x, x = wc := ⟨_, rfl⟩
      subst hw17
      have HLP := hide (show ∃ f2, R = (anyR Z1 (joinP ps).1).bind (fun x ts ns => (patsL f2 ([] ++ [x]) ts ns).bind (Kf (lst d) f tt P (joinP ps).2)) ∧ Z1.length ≤ f2 by
       obtain ⟨tz, rz, hz⟩ := hA.st.good.1.ne
       subst hz
       refine ⟨rz.length + 1, ?_, Nat.le_refl _⟩
       rw [HR3.out]
       by_cases hk : tz.k = 1
       ·rw [any_yes hk, any_yes hk]; rfl
       ·rw [any_no hk, any_no hk])
      have HS17 := hide (StD.nil hA.st (Nat.lt_of_lt_of_le HA17.out.rbl HA17.out.gr.size))
      clear hZ1 hZl hA
      go_upto_block 2 with (fail)
      go_cut [9] (fun v9 wx => ∃ (L : List (List UInt8)) (st2 : DS), StD w17 wx rb T st2 v9 L ∧ Sim R d n (sumL ps) (fun Z => Kf (lst d) f tt P (joinP ps).2 L Z (joinP ps).1) st2 ∧ L.length ≤ 600 ∧ (∀ Z2 d2, st2 = .ok Z2 d2 → Z2.length + 1 ≤ Z.length))
      case rest =>
       obtain ⟨L, st2, hS, hSim, hL, hZ2⟩ := hcut
       have HS20 := hide hS
       have HSim := hide hSim
       have HLL := hide (And.intro hL hZ2)
       have HA20 := hide (HA17.out.step hS.gr hS.st)
       obtain ⟨f9, c9, rfl, _, _⟩ := Own.form hS.own
       clear hS hSim hL hZ2
       have HQn := hide (HNd.out wc st2 sRap HA20.out.st)
       have HS28 := hide (show Sim R d n (sumL ps) (fun Z => (if beginsB (breaksF Z) = true then lst d (breaksF Z) (joinP ps).1 else PR.ok (-1) (breaksF Z) (joinP ps).1).bind (Kb (lst d) f tt P (joinP ps).2 L)) (needD sRap st2) from Sim.need HSim.out)
       have HZ28 := hide (show ∀ Z2 d2, needD sRap st2 = .ok Z2 d2 → Z2.length + 1 ≤ Z.length from fun Z2 d2 e => by
        cases st2 with
        | er a k => cases e
        | ok Z9 d9 => have h1 := HLL.out.2 Z9 d9 rfl; have h2 := (needD_len e).1; omega)
       obtain ⟨s28, hs28⟩ : ∃ s, needD sRap st2 = s := ⟨_, rfl⟩
       rw [hs28] at HQn HS28 HZ28
       unfold sRap at HQn
       clear hs28
       go_wp2_with fail
       refine HQn.out.mono ?_
       rintro e w28 ⟨rfl, h28, g28⟩
       have HA28 := hide (HA20.out.step g28 h28)
       have HT28 := hide (HS20.out.step g28 h28)
       clear h28 g28
       have HQb := hide (HBk.out w28 s28 HA28.out.st)
       have HS29 := hide (show Sim R d n (sumL ps) (fun Z => (if beginsB Z = true then lst d Z (joinP ps).1 else PR.ok (-1) Z (joinP ps).1).bind (Kb (lst d) f tt P (joinP ps).2 L)) (breaksD s28) from Sim.breaks (C := fun Z => (if beginsB Z = true then lst d Z (joinP ps).1 else PR.ok (-1) Z (joinP ps).1).bind (Kb (lst d) f tt P (joinP ps).2 L)) HS28.out)
       have HZ29 := hide (show ∀ Z2 d2, breaksD s28 = .ok Z2 d2 → Z2.length + 1 ≤ Z.length from fun Z2 d2 e => by
        cases hs : s28 with
        | er a k => rw [hs] at e; cases e
        | ok Z9 d9 =>
         rw [hs] at e
         injection e with e1 e2
         have h1 := HZ28.out Z9 d9 hs
         have hg : Good Z9 := by have := HS28.out; rw [hs] at this; exact this.2.2.2.2.1
         have h2 := (breaks_good hg).2
         rw [← e1]
         omega)
       obtain ⟨s29, hs29⟩ : ∃ s, breaksD s28 = s := ⟨_, rfl⟩
       rw [hs29] at HQb HS29 HZ29
       clear hs29
       go_wp2_with fail
       refine HQb.out.mono ?_
       rintro e w29 ⟨rfl, h29, g29⟩
       have HA29 := hide (HA28.out.step g29 h29)
       have HT29 := hide (HT28.out.step g29 h29)
       clear h29 g29
       have HQe := hide (HBe.out w29 s29 HA29.out.st)
       obtain ⟨bb, hbb⟩ : ∃ b, beginsD s29 = b := ⟨_, rfl⟩
       rw [hbb] at HQe
       have HBB := hide hbb
       clear hbb
       go_wp2_with fail
       refine HQe.out.mono ?_
       rintro e w30 ⟨rfl, g30⟩
       have HA30 := hide (HA29.out.grown g30)
       have HT30 := hide (HT29.out.grown g30)
       clear g30
       go_upto_if 123 with (fail)
       go_cut [13] (fun v13 wx => ∃ (ms : List Nd) (st3 : DS), vNd w30 wx ms v13 ∧ DIs wx rb T st3 ∧ w30.grownBy wx (some rb) ∧ Sim R d n (sumL ps + ms.length) (fun Z => Ka (lst d) f tt P L (joinP (ps ++ [ms])).2 Z (joinP (ps ++ [ms])).1) st3 ∧ ms.length ≤ 5000 ∧ (∀ Z2 d2, st3 = .ok Z2 d2 → Z2.length + 1 ≤ Z.length))
       case first =>
        cases bb with
        | true =>
         have HS30 := hide (show Sim R d n (sumL ps) (fun Z => (lst d Z (joinP ps).1).bind (Kb (lst d) f tt P (joinP ps).2 L)) s29 by
          cases hs : s29 with
          | er a k => have := HBB.out; rw [hs] at this; cases this
          | ok Z9 d9 =>
           have h1 := HS29.out
           have h2 := HBB.out
           rw [hs] at h1 h2
           exact ⟨h1.1, h1.2.1.trans (by have h3 : beginsB Z9 = true := h2; simp only [h3, if_true]), h1.2.2⟩)
         have HLc := hide (HP.out (sumL ps) ps _ s29 w30 HA30.out.st HS30.out)
         go_wp2_with fail
         refine HLc.out.mono ?_
         rintro e w33 ⟨v, ms, st3, rfl, hv, h33, g33, hs33, hne, hml, hlt, her⟩
         obtain ⟨y1, y2, rfl⟩ := hv.form
         have HV := hide hv
         have HM33 := hide (And.intro h33 (And.intro g33 (And.intro hs33 (And.intro hne (And.intro hml (And.intro hlt her))))))
         clear hv h33 g33 hs33 hne hml hlt her
         go_wp2_with fail
         go_meet
         obtain ⟨h33, g33, hs33, hne, hml, hlt, her⟩ := HM33.out
         refine ⟨ms, st3, HV.out, h33, g33, ?_, hml, fun Z2 d2 e => ?_⟩
         ·cases st3 with
          | er a k => exact hs33
          | ok Z9 d9 =>
           refine ⟨hs33.1, hs33.2.1.trans ?_, hs33.2.2⟩
           show Kb _ _ _ _ _ _ _ _ _ = Ka _ _ _ _ _ _ _ _
           have hj := joinP_step (ps := ps) (hne Z9 d9 rfl)
           rw [show (joinP (ps ++ [ms])).2 = (joinP ps).2 ++ [(((joinP ps).1.length + ms.length : Nat) : Int) - 1] by rw [hj]]
           rfl
         ·cases hs : s29 with
          | er a k => have := her a k hs; rw [this] at e; cases e
          | ok Z9 d9 =>
           have h1 := hlt Z9 d9 Z2 d2 hs e
           have h2 := HZ29.out Z9 d9 hs
           omega
        | false =>
         go_wp2_with fail
         go_meet
         refine ⟨[], s29, vNd.nil _ _, HA30.out.st, only_refl _ _, ?_, by simp, HZ29.out⟩
         cases hs : s29 with
         | er a k => have := HS29.out; rw [hs] at this; exact this
         | ok Z9 d9 =>
          have h1 := HS29.out
          have h2 := HBB.out
          rw [hs] at h1 h2
          refine ⟨h1.1, h1.2.1.trans ?_, h1.2.2⟩
          have h3 : beginsB Z9 = false := h2
          simp only [h3]
          rw [joinP_nil]
          rfl
       case rest =>
        obtain ⟨ms, st3, hv, h33, g33, hs33, hml, hlt⟩ := hcut
        have HV := hide hv
        have HA33 := hide (HA30.out.step g33 h33)
        have HT33 := hide (HT30.out.step g33 h33)
        have HS33 := hide hs33
        have HML := hide (And.intro hml hlt)
        have HSZ := hide HA30.out.ls
        obtain ⟨y1, y2, rfl⟩ := hv.form
        obtain ⟨qcs, qp1, _, _⟩ := HA30.out.pats
        have HVN := hide (show NdS (fun k => (Value.slice p1 P.length p3).ownBlock = some k ∨ low W0 k) wc (.slice y1 ms.length y2) ms from hv.1.mono (fun k hk => by
         rcases hk with hk | hk
         ·exact Own.lt qp1 hk
         ·exact Nat.lt_of_lt_of_le hk HSZ.out))
        have HVW := hide (fun g hg => Nat.le_trans HSZ.out (hv.2.2.2 g hg))
        obtain ⟨pcs, q1, qav, q3⟩ := HA33.out.pats
        have HP1 := hide q1
        have HP3 := hide q3
        have hPl : P.length ≤ 600 := by have := HSM.out; omega
        have hpl6 : ps.length ≤ 600 := by have := HSM.out; omega
        clear hv h33 g33 hs33 hml hlt qp1 q1 qav q3
        have lB := Blk.lt HA33.out.box
        have zB := Blk.frozen HA33.out.box 6
        have x6 : wc.cell? ⟨B, 6, none⟩ = some (.slice p1 P.length p3) := Blk.cell HA33.out.box 6
        go_upto_region 35 with (at_builtin; go_loud (refine wpList_appAt 28 (.slice none 0 0) 1 24 Try.underlying30 infoStrs rfl (.slice p1 P.length p3) P.length pcs 0 _ 1 [.slice f9 L.length c9] rfl rfl (Own.alloc HP1.out _) (by omega) (srcP (Blk.new _ _ _) rfl) (by unfold maxLen; omega) (by omega) ?_); intro vA wA ho hc hn2 _; (have hap := CasD.appP HA33.out HP1.out HP3.out _ HT33.out.own (fun k hk => Nat.le_trans HA17.out.gr.size (HT33.out.new k hk)) ho hc hn2); (have lBA := Blk.lt hap.1); (have zBA := Blk.frozen hap.1 6); (have xBA : wA.cell? ⟨B, 6, none⟩ = some (.slice p1 P.length p3) := Blk.cell hap.1 6); (have HAP := hide hap.2.1); (have HVK := hide (hap.2.2 _ _ HVN.out HVW.out)); (obtain ⟨fa, ca, rfl, _, _⟩ := Own.form ho); clear ho hc hn2 hap)
        generalize wA.setCell ⟨B, 6, none⟩ (.slice fa (P.length + 1) ca) = W34 at HAP HVK ⊢
        clear lBA zBA xBA lB zB x6
        obtain ⟨vcs, u1, u2⟩ := HAP.out.parts
        have HU1 := hide u1
        have HU2 := hide u2
        clear u1 u2
        go_upto_region 36 with (at_builtin; refine wpList_appAt 23 (.slice none 0 0) 1 24 Try.underlying63 infoNds rfl (.slice v1 ps.length v3) ps.length vcs 0 _ 1 [.slice y1 ms.length y2] rfl rfl (Own.alloc HU1.out _) (by omega) (srcPn _ _ y1 ms.length y2 rfl) (by unfold maxLen; omega) (by omega) ?_; intro vB wB ho hc hn2 _; (have HAB := hide (CasD.appB HAP.out HU1.out HU2.out _ HVK.out HV.out.2.1 HVW.out ho hc hn2)); (obtain ⟨aA, cA, rfl, _, _⟩ := Own.form ho); clear ho hc hn2)
        have HQs := hide (HSg.out wB st3 sSemi2 HAB.out.st)
        obtain ⟨bn, hbn⟩ : ∃ b, sgnD st3 sSemi2 = b := ⟨_, rfl⟩
        rw [hbn] at HQs
        have HBN := hide hbn
        unfold sSemi2 at HQs
        clear hbn
        go_wp2_with fail
        refine HQs.out.mono ?_
        rintro e w36 ⟨rfl, g36⟩
        have HA36 := hide (HAB.out.grown g36)
        clear g36
        cases bn with
        | false =>
         go_wp2_with fail
         go_meet
         refine ⟨P ++ [L], ps ++ [ms], _, st3, by rw [List.length_append, List.length_append, HSM.out.1]; rfl, HA36.out, ?_, ?_, ?_⟩
         ·rw [sumL_snoc]
          cases st3 with
          | er a k => exact HS33.out
          | ok Z9 d9 =>
           have h1 := HS33.out
           have hb : isB Z9 sSemi2 = false := (h1.2.2.2.2.2.sgn (by decide)).trans HBN.out
           refine ⟨h1.1, h1.2.1.trans ?_, h1.2.2⟩
           show Ka _ _ _ _ _ _ Z9 _ = Ec _ Z9 _
           unfold Ka
           rw [if_neg (by rw [hb]; decide)]
           rfl
         ·rw [sumL_snoc]
          have := HSM.out.2.1
          have := HML.out.1
          omega
         ·rw [List.length_append, List.length_singleton]
          have := HF.out.2.2.2.2
          have := HGo.out.1.pos
          omega
        | true =>
         cases st3 with
         | er a k => have h9 : false = true := HBN.out; cases h9
         | ok Z9 d9 =>
          obtain ⟨hd9, hR9, hfew9, hn9, hg9, hw9⟩ := HS33.out
          subst hd9
          have hb9 : isB Z9 sSemi2 = true := (hw9.sgn (by decide)).trans HBN.out
          obtain ⟨t9, r9, hz9⟩ := hg9.ne
          subst hz9
          have HK9 := hide (is_k hb9).1
          have HGr := hide (breaks_good (hg9.tail (is_k hb9).1))
          have HR9 := hide (show R = (caseL (lst d9) f (Nc tt (P ++ [L]) (joinP (ps ++ [ms])).2) (breaksF r9) (joinP (ps ++ [ms])).1).bind Ec from hR9.trans (by
           show Ka _ _ _ _ _ _ (t9 :: r9) _ = _
           unfold Ka
           rw [if_pos hb9]
           rfl))
          have HB9 := hide (And.intro hfew9 (HML.out.2 _ _ rfl))
          clear hR9 hfew9 hn9 hg9 hw9 hb9
          obtain ⟨vt, a, fr9, h, hd, hdd⟩ := HA36.out.st
          obtain ⟨c0, c1, c2, c3, c4⟩ := h.cells
          obtain ⟨g, off, cap, t9, r9, rfl, hc, hg, hd2, t0, t1, t2⟩ := h.tok_
          have lb := h.lb
          have hlt := h.lt
          have hib : (0 : Int) ≤ (a : Int) ∧ (a : Int) < ((T.length : Nat) : Int) := by omega
          have hTl := h.tg.len
          obtain ⟨LT, hL⟩ : ∃ LT, T.length = LT := ⟨_, rfl⟩
          have hAL : (a : Int) ≤ 500 := by omega
          have HDA := hide h
          have HDD := hide (And.intro hd hdd)
          have hZ := hd.symm.trans hd2
          injection hZ with hZ1 hZ2
          subst hZ1 hZ2
          rw [hL] at c0 hib hc hTl
          have z1 := Blk.frozen h.blk 1
          clear h hd hdd hd2 hL hlt
          have hnx := DIs.next HDA.out HDD.out.1 HDD.out.2 rfl HK9.out
          have HA38 := hide (HA36.out.step (only_setCell (only_refl w36 (some rb)) (p := ⟨rb, 1, none⟩) (.inl rfl) (.int .i64 ((a : Int) + 1))) hnx)
          clear hnx
          go_upto_region 39 with (fail)
          generalize w36.setCell ⟨rb, 1, none⟩ (.int .i64 ((a : Int) + 1)) = W38 at HA38 ⊢
          clear c0 c1 c2 c3 c4 t0 t1 t2 hg lb hib hTl hAL hc z1
          have HQ39 := hide (HBk.out W38 _ HA38.out.st)
          go_wp2_with fail
          refine HQ39.out.mono ?_
          rintro e w39 ⟨rfl, h39, g39⟩
          have HA39 := hide (HA38.out.step g39 h39)
          clear h39 g39
          have HLX := hide (show (breaksF r9).length + 2 ≤ Z.length by have h1 := HGr.out.2; have h2 := HB9.out.2; simp only [List.length_cons] at h2; omega)
          go_wp2_with fail
          go_roundg (g0 - 1)
          case rel => exact ⟨P ++ [L], ps ++ [ms], _, _, by rw [List.length_append, List.length_append, HSM.out.1]; rfl, HA39.out, by rw [sumL_snoc]; have := HB9.out.1; omega, by rw [List.length_append, List.length_singleton]; have := HF.out; have := HLX.out; omega, .inl ⟨f, breaksF r9, rfl, HR9.out, by have := HF.out; have := HLX.out; omega, by have := HF.out; have := HLX.out; omega, by have := HF.out; have := HLX.out; omega, by rw [sumL_snoc]; have h1 := HB9.out.1; have h2 := HGr.out.2; simp only [List.length_cons] at h1; omega, by rw [List.length_append, List.length_singleton]; have := HF.out; have := HLX.out; omega⟩⟩
          case measure => have := HF.out; have := HLX.out; omega
      go_wp2_with fail
      go_loopg [9, 10, 11] Z1.length (fun g v9 v10 v11 wr => ∃ (f2 : Nat) (L : List (List UInt8)) (Z2 : List Tok), R = (anyR Z2 (joinP ps).1).bind (fun x ts ns => (patsL f2 (L ++ [x]) ts ns).bind (Kf (lst d) f tt P (joinP ps).2)) ∧ Z2.length ≤ f2 ∧ Z2.length ≤ g ∧ L.length + Z2.length ≤ Z1.length ∧ StD w17 wr rb T (.ok Z2 d) v9 L)
      case atStart =>
       obtain ⟨f2, h1, h2⟩ := HLP.out
       exact ⟨f2, [], Z1, h1, h2, Nat.le_refl _, by simp, HS17.out⟩
      case round =>
       obtain ⟨f2, L, Z2, hR2, hf2, hg2, hl2, hS⟩ := hrel
       obtain ⟨wm, hwm⟩ : ∃ x, x = wr := ⟨_, rfl⟩
       subst hwm
       have HS := hide hS
       have HR2b := hide hR2
       have HF2 := hide (And.intro hf2 (And.intro hg2 hl2))
       have hL5 : L.length ≤ 500 := by have := HZL.out; have := HGo.out.2.2.2.1; omega
       obtain ⟨f9, c9, rfl, _, _⟩ := Own.form hS.own
       obtain ⟨t7, r7, hz7⟩ := hS.st.good.1.ne
       subst hz7
       clear hS hR2 hf2 hg2 hl2
       obtain ⟨vt, a, fr9, h, hd, hdd⟩ := HS.out.st
       obtain ⟨c0, c1, c2, c3, c4⟩ := h.cells
       obtain ⟨g, off, cap, t9, r9, rfl, hc, hg, hd2, t0, t1, t2⟩ := h.tok_
       have lb := h.lb
       have hlt := h.lt
       have hib : (0 : Int) ≤ (a : Int) ∧ (a : Int) < ((T.length : Nat) : Int) := by omega
       have hTl := h.tg.len
       obtain ⟨LT, hL⟩ : ∃ LT, T.length = LT := ⟨_, rfl⟩
       have hAL : (a : Int) ≤ 500 := by omega
       have HDA := hide h
       have HDD := hide (And.intro hd hdd)
       have hZ := hd.symm.trans hd2
       injection hZ with hZ1 hZ2
       subst hZ1 hZ2
       rw [hL] at c0 hib hc hTl
       have z1 := Blk.frozen h.blk 1
       clear h hd hdd hd2 hL hlt
       obtain ⟨tk7, tt7, ta7⟩ := t7
       simp only [] at t0 t1 t2
       go_upto_region 20 with (fail)
       have Hk : Hid (∀ X : World, wm.grownBy X none → (X.cell? ⟨rb, 0, none⟩ = some (.slice (some ⟨g, off, none⟩) LT cap) ∧ X.cell? ⟨rb, 1, none⟩ = some (.int .i64 a) ∧ X.cell? ⟨g, off + a * 3, none⟩ = some (.int .i64 tk7) ∧ X.cell? ⟨g, off + a * 3 + 1, none⟩ = some (.string ⟨tt7.toArray⟩) ∧ X.cell? ⟨g, off + a * 3 + 2, none⟩ = some (.int .i64 ta7))) :=
        hide (fun X hw => ⟨old_cell hw lb c0, old_cell hw lb c1, old_cell hw hg t0, old_cell hw hg t1, old_cell hw hg t2⟩)
       go_region_held3 (fun X => X.cell? ⟨rb, 0, none⟩ = some (.slice (some ⟨g, off, none⟩) LT cap) ∧ X.cell? ⟨rb, 1, none⟩ = some (.int .i64 a) ∧ X.cell? ⟨g, off + a * 3, none⟩ = some (.int .i64 tk7) ∧ X.cell? ⟨g, off + a * 3 + 1, none⟩ = some (.string ⟨tt7.toArray⟩) ∧ X.cell? ⟨g, off + a * 3 + 2, none⟩ = some (.int .i64 ta7))
        (first | go_keep | exact Hk.out _ (by repeat' (first | (with_reducible exact only_refl _ _) | (with_reducible refine none_setCell ?_ ?_ _) | (with_reducible refine none_trans ?_ hg) | (with_reducible refine only_drew ?_) | (with_reducible refine only_alloc ?_ _) | omega | (simp; done))))
        (fail)
       have hg3 := only_drew (only_alloc (only_refl wm none) (.cells #[.int .i64 tk7, .string ⟨tt7.toArray⟩, .int .i64 ta7] 41))
       have HB7 := hide (show Blk (wm.alloc (.cells #[.int .i64 tk7, .string ⟨tt7.toArray⟩, .int .i64 ta7] 41)).drew wm.heap.size 41 #[.int .i64 tk7, .string ⟨tt7.toArray⟩, .int .i64 ta7] from Blk.new wm 41 _)
       have HS20 := hide (HS.out.grown hg3)
       generalize (wm.alloc (.cells #[.int .i64 tk7, .string ⟨tt7.toArray⟩, .int .i64 ta7] 41)).drew = W20, wm.heap.size = B7 at HB7 HS20 ⊢
       clear Hk hg3
       clear c0 c1 c2 c3 c4 t0 t1 t2 hg lb hib hTl hAL hc z1
       have x0 : W20.cell? ⟨B7, 0, none⟩ = some (.int .i64 tk7) := Blk.cell HB7.out 0
       have x1 : W20.cell? ⟨B7, 1, none⟩ = some (.string ⟨tt7.toArray⟩) := Blk.cell HB7.out 1
       have lx := Blk.lt HB7.out
       by_cases k7 : tk7 = 1
       ·subst k7
        obtain ⟨f3, rfl⟩ : ∃ f', f2 = f' + 1 := ⟨f2 - 1, by have := HF2.out.1; simp only [List.length_cons] at this; omega⟩
        have HR3 := hide (show R = (patsL (f3 + 1) (L ++ [tt7]) r7 (joinP ps).1).bind (Kf (lst d) f tt P (joinP ps).2) from HR2b.out.trans (any_yes rfl))
        go_upto_region 24 with (at_builtin; refine wpList_appAt 9 (.string ⟨#[]⟩) 1 16 Try.underlying28 infoStr rfl (.slice f9 L.length c9) L.length (L.map sv) 0 _ 1 [sv tt7] rfl rfl (Own.alloc HS20.out.own _) (by omega) (srcS _ _ tt7 rfl) (by unfold maxLen; omega) (by omega) ?_; intro vA wA ho hc7 hn2 _; (have HS23 := hide (StD.app HS20.out _ ho hc7 hn2)); (obtain ⟨fa, ca, rfl, _, _⟩ := Own.form ho); clear ho hc7 hn2)
        clear x0 x1 lx
        obtain ⟨vt, a, fr9, h, hd, hdd⟩ := HS23.out.st
        obtain ⟨c0, c1, c2, c3, c4⟩ := h.cells
        obtain ⟨g, off, cap, t9, r9, rfl, hc, hg, hd2, t0, t1, t2⟩ := h.tok_
        have lb := h.lb
        have hlt := h.lt
        have hib : (0 : Int) ≤ (a : Int) ∧ (a : Int) < ((T.length : Nat) : Int) := by omega
        have hTl := h.tg.len
        obtain ⟨LT, hL⟩ : ∃ LT, T.length = LT := ⟨_, rfl⟩
        have hAL : (a : Int) ≤ 500 := by omega
        have HDA := hide h
        have HDD := hide (And.intro hd hdd)
        have hZ := hd.symm.trans hd2
        injection hZ with hZ1 hZ2
        subst hZ2
        clear hZ1
        rw [hL] at c0 hib hc hTl
        have z1 := Blk.frozen h.blk 1
        clear h hd hdd hd2 hL hlt
        have hnx := DIs.next HDA.out HDD.out.1 HDD.out.2 rfl (show (1 : Nat) ≠ 4 by decide)
        have HS24 := hide (HS23.out.step (only_setCell (only_refl wA (some rb)) (p := ⟨rb, 1, none⟩) (.inl rfl) (.int .i64 ((a : Int) + 1))) hnx)
        clear hnx
        go_upto_region 25 with (fail)
        generalize wA.setCell ⟨rb, 1, none⟩ (.int .i64 ((a : Int) + 1)) = W24 at HS24 ⊢
        clear c0 c1 c2 c3 c4 t0 t1 t2 hg lb hib hTl hAL hc z1
        have HG7 := hide HS24.out.st.good
        have HQ := hide (show Calls Try.prog 29 #[.pointer (some ⟨rb, 0, none⟩), .string ⟨(sBar).toArray⟩] W24 fun e w' => e = .returned (.bool (isB r7 sBar)) ∧ W24.grownBy w' none by rw [HG7.out.2.1.sgn (by decide)]; exact HSg.out W24 _ sBar HS24.out.st)
        obtain ⟨bm, hbm⟩ : ∃ b, isB r7 sBar = b := ⟨_, rfl⟩
        rw [hbm] at HQ
        have HBM := hide hbm
        unfold sBar at HQ
        clear hbm
        go_wp2_with fail
        refine HQ.out.mono ?_
        rintro e w25 ⟨rfl, g25⟩
        have HS25 := hide (HS24.out.grown g25)
        clear g25
        cases bm with
        | false =>
         go_wp2_with fail
         go_meet
         refine ⟨L ++ [tt7], .ok r7 d, HS25.out, ⟨rfl, ?_, ?_, ?_, HG7.out.1, HG7.out.2.1⟩, ?_, fun Z9 d9 e => ?_⟩
         ·rw [HR3.out, patsL, if_neg (by rw [HBM.out]; decide)]
          rfl
         ·have h1 := HF.out; have h2 := HF2.out; have h3 := HZL.out; simp only [List.length_cons] at h2; omega
         ·have h1 := HF.out; have h2 := HF2.out; have h3 := HZL.out; simp only [List.length_cons] at h2; omega
         ·rw [List.length_append, List.length_singleton]; omega
         ·injection e with e1 _; rw [← e1]; have h2 := HF2.out; have h3 := HZL.out; simp only [List.length_cons] at h2; omega
        | true =>
         obtain ⟨t8, r8, hz8⟩ := HG7.out.1.ne
         subst hz8
         have HK8 := hide (is_k HBM.out).1
         have HR4 := hide (show R = (anyR r8 (joinP ps).1).bind (fun x ts ns => (patsL f3 ((L ++ [tt7]) ++ [x]) ts ns).bind (Kf (lst d) f tt P (joinP ps).2)) by
          rw [HR3.out, patsL, if_pos HBM.out, bind_bind]
          rfl)
         obtain ⟨vt, a, fr9, h, hd, hdd⟩ := HS25.out.st
         obtain ⟨c0, c1, c2, c3, c4⟩ := h.cells
         obtain ⟨g, off, cap, t9, r9, rfl, hc, hg, hd2, t0, t1, t2⟩ := h.tok_
         have lb := h.lb
         have hlt := h.lt
         have hib : (0 : Int) ≤ (a : Int) ∧ (a : Int) < ((T.length : Nat) : Int) := by omega
         have hTl := h.tg.len
         obtain ⟨LT, hL⟩ : ∃ LT, T.length = LT := ⟨_, rfl⟩
         have hAL : (a : Int) ≤ 500 := by omega
         have HDA := hide h
         have HDD := hide (And.intro hd hdd)
         have hZ := hd.symm.trans hd2
         injection hZ with hZ1 hZ2
         subst hZ1 hZ2
         rw [hL] at c0 hib hc hTl
         have z1 := Blk.frozen h.blk 1
         clear h hd hdd hd2 hL hlt
         have hnx := DIs.next HDA.out HDD.out.1 HDD.out.2 rfl HK8.out
         have HS27 := hide (HS25.out.step (only_setCell (only_refl w25 (some rb)) (p := ⟨rb, 1, none⟩) (.inl rfl) (.int .i64 ((a : Int) + 1))) hnx)
         clear hnx
         go_wp2_with fail
         go_roundg (gk - 1)
         case rel => exact ⟨f3, L ++ [tt7], r8, HR4.out, by have h2 := HF2.out; simp only [List.length_cons] at h2; omega, by have h2 := HF2.out; simp only [List.length_cons] at h2; omega, by rw [List.length_append, List.length_singleton]; have h2 := HF2.out; simp only [List.length_cons] at h2; omega, HS27.out⟩
         case measure => have h2 := HF2.out; simp only [List.length_cons] at h2; omega
       ·have qk : ((tk7 : Int) != 1) = true := by rw [bne_iff_ne]; omega
        have HRN := hide (show R = .bad ta7 (if tk7 = 4 then 23 else 17) from HR2b.out.trans (any_no k7))
        clear k7
        go_wp2_with fail
        refine (Hx.out W20 _ HS20.out.st).mono ?_
        rintro e w22 ⟨rfl, h22, g22⟩
        have HS22 := hide (HS20.out.step g22 h22)
        clear h22 g22
        go_wp2_with fail
        go_meet
        exact ⟨L, _, HS22.out, HRN.out, by omega, fun Z9 d9 e => by have e2 : DS.er ta7 (if tk7 = 4 then 23 else 17) = DS.ok Z9 d9 := e; cases e2⟩
   ·obtain ⟨vt, i, dd, h, hk0⟩ := HA.out.st
    obtain ⟨c0, c1, c2, c3, c4⟩ := h.cells
    have lb := h.lb
    have qk : (ek == 0) = false := beq_eq_false_iff_ne.2 hk0
    have HRr := hide hR
    clear h hk0 hR
    go_wp2_with fail
    go_meet
    exact ⟨P, ps, _, _, HSM.out.1, HA.out, HRr.out, by have := HSM.out.2.1; omega, HSM.out.2.2⟩
 ·have qk : ((tk : Int) != 1) = true := by rw [bne_iff_ne]; omega
  have HS := hide (show Sim R d n (sumL []) (fun Z => .ok { kind := 14, words := [], pats := [], kids := (joinP []).2 } Z (joinP []).1) (wrongD (.ok (⟨tk, tt, ta⟩ :: r) d)) from HR.out.symm.trans (case_no k1))
  clear k1
  go_wp2_with fail
  refine (Hx.out W3 _ HA3.out.st).mono ?_
  rintro e w6 ⟨rfl, h6, g6⟩
  have HA6 := hide (HA3.out.step g6 h6)
  clear h6 g6
  obtain ⟨x0, x1, x2, x3, x4, x5, x6, x7, lB⟩ := box8 HA6.out.box
  obtain ⟨y0, y1, y2, y3, y4, y5, y6, y7, lA⟩ := box8 HA6.out.res
  have zA0 := Blk.frozen HA6.out.res 0
  have zA1 := Blk.frozen HA6.out.res 1
  have zA2 := Blk.frozen HA6.out.res 2
  have zA3 := Blk.frozen HA6.out.res 3
  have zA4 := Blk.frozen HA6.out.res 4
  have zA5 := Blk.frozen HA6.out.res 5
  have zA6 := Blk.frozen HA6.out.res 6
  have zA7 := Blk.frozen HA6.out.res 7
  have HZW := hide (CasD.fin HA6.out HLW.out HS.out (by simp [sumL]) (by simp))
  obtain ⟨hz3, hz4⟩ := HZW.out
  unfold put8 at hz3 hz4
  clear HZW
  go_wp2_with fail
  generalize ((((((((w6.setCell ⟨A, 0, none⟩ (.int .i64 14)).setCell ⟨A, 1, none⟩ (.string ⟨#[]⟩)).setCell ⟨A, 2, none⟩ (.bool false)).setCell ⟨A, 3, none⟩ (.slice none 0 0)).setCell ⟨A, 4, none⟩ (.slice none 0 0)).setCell ⟨A, 5, none⟩ (.slice none 0 0)).setCell ⟨A, 6, none⟩ (.slice none 0 0)).setCell ⟨A, 7, none⟩ (.slice none 0 0)) = W8 at hz3 hz4 ⊢
  obtain ⟨o0, o1, o2, o3, o4, o5, o6, o7, lP⟩ := box8 hz3
  refine bodyPost_ret (v := .tuple #[.agg #[.int .i64 14, .string ⟨#[]⟩, .bool false, .slice none 0 0, .slice none 0 0, .slice none 0 0, .slice none 0 0, .slice none 0 0], .slice none 0 0]) (by simp [results, Try.results87, go_sem, o0, o1, o2, o3, o4, o5, o6, o7]) rfl ?_
  exact hz4
end Go.Proofs.Ytgpfjcogaheopaa

end
