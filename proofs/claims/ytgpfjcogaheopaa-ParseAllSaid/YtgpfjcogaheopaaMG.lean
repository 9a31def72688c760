/- Several texts in one. -/
import Derived.Test.YtgpfjcogaheopaaME
import Derived.Test.YtgpfjcogaheopaaEA
import Derived.Test.YtgpfjcogaheopaaMK
import Derived.Deep.LoopGhost
set_option linter.all false
section
/- Parts put together: the document's join. -/
namespace Go.Proofs.Ytgpfjcogaheopaa
open Go.RowKit Lx
set_option maxRecDepth 100000
section
variable {w w' W W' : World} {rb : Nat} {v : Value} {av : Nat → Prop}
/-- A change of the reader's block alone. -/
theorem rb_chg (h : w.grownBy w' (some rb)) : Chg (fun k => k = rb) w w' := Chg.of_grown h fun k hk => by injection hk with hk; exact hk.symm
theorem own_rb (h : w.grownBy w' (some rb)) (ht : HasT w rb 50) {e : TypeId} {s n k : Nat} {xs : List Value} (ho : Own w e s v n xs k) (hne : e ≠ 50) : Own w' e s v n xs k :=
 ho.chg (rb_chg h) fun _g hg e => hne ((ho.hasT hg).uniq (e ▸ ht))
theorem DIs.hasT {T : List Tok} {st : DS} (h : DIs w rb T st) : HasT w rb 50 := by
 cases st with
 | ok ts d => obtain ⟨vt, a, f, h, _⟩ := h; exact h.blk.hasT
 | er x k => obtain ⟨vt, i, d, h, _⟩ := h; exact h.blk.hasT
theorem NdAt.drb {av : Nat → Prop} {a b r p k : Value} {n : Nd} (h : NdAt av w a b r p k n) (hg : w.grownBy w' (some rb)) (ht : HasT w rb 50) : NdAt av w' a b r p k n := by
 refine ⟨own_rb hg ht h.sets (by decide), own_rb hg ht h.words (by decide), own_rb hg ht h.rds (by decide), ?_, own_rb hg ht h.kids (by decide), h.ha, h.hb, h.hr, h.hk⟩
 obtain ⟨cs, h1, h3, h2⟩ := h.pats
 exact ⟨cs, own_rb hg ht h1 (by decide), h3, fun i hi => by obtain ⟨u, hu, hs, hv⟩ := h2 i hi; exact ⟨u, hu, own_rb hg ht hs (by decide), hv⟩⟩
theorem NdS.drb {av : Nat → Prop} {ns : List Nd} (h : NdS av w v ns) (hg : w.grownBy w' (some rb)) (ht : HasT w rb 50) : NdS av w' v ns := by
 obtain ⟨cs, h1, h2⟩ := h
 exact ⟨cs, own_rb hg ht h1 (by decide), fun i hi => by obtain ⟨x, y, r, p, k, e, hn⟩ := h2 i hi; exact ⟨x, y, r, p, k, e, hn.drb hg ht⟩⟩
/-- The blocks that stood there already. -/
def low (w0 : World) : Nat → Prop := fun k => k < w0.heap.size
/-- Parts in memory. -/
def PartsS (av : Nat → Prop) (w : World) (v : Value) (ps : List (List Nd)) : Prop := ∃ cs, Own w 23 1 v ps.length cs 0 ∧ ∀ i (h : i < ps.length), ∃ u, cs[i]? = some u ∧ NdS av w u ps[i]
theorem NdS.form {av : Nat → Prop} {ns : List Nd} (h : NdS av w v ns) : ∃ a cap, v = .slice a ns.length cap ∧ ns.length ≤ cap := by
 obtain ⟨cs, h1, _⟩ := h
 obtain ⟨a, cap, e, hc, _⟩ := h1.form
 exact ⟨a, cap, e, hc⟩
/-- One node's cells. -/
theorem NdS.at_ {av : Nat → Prop} {l : List Nd} (h : NdS av w v l) (i : Nat) (hi : i < l.length) : ∃ g off cap a b r p k, v = .slice (some ⟨g, off, none⟩) l.length cap ∧ g < w.heap.size ∧ NdAt av w a b r p k l[i] ∧
  w.cell? ⟨g, off + i * 8, none⟩ = some (.int .i64 l[i].kind) ∧ w.cell? ⟨g, off + i * 8 + 1, none⟩ = some (sv l[i].name) ∧ w.cell? ⟨g, off + i * 8 + 2, none⟩ = some (.bool l[i].inn) ∧ w.cell? ⟨g, off + i * 8 + 3, none⟩ = some a ∧
  w.cell? ⟨g, off + i * 8 + 4, none⟩ = some b ∧ w.cell? ⟨g, off + i * 8 + 5, none⟩ = some r ∧ w.cell? ⟨g, off + i * 8 + 6, none⟩ = some p ∧ w.cell? ⟨g, off + i * 8 + 7, none⟩ = some k := by
 obtain ⟨cs, h1, h2⟩ := h
 obtain ⟨g, off, cap, rfl, _, _, hg, hcs⟩ := h1.some_ (by omega)
 obtain ⟨a, b, r, p, k, e, hn⟩ := h2 i hi
 have hc : ∀ j, j < 8 → w.cell? ⟨g, off + i * 8 + j, none⟩ = (ndCells l[i] a b r p k)[j]? := by
  intro j hj
  rw [Nat.add_assoc, hcs _ (by omega), ← e, List.getElem?_take, if_pos hj, List.getElem?_drop]
 exact ⟨g, off, cap, a, b, r, p, k, rfl, hg, hn, hc 0 (by omega), hc 1 (by omega), hc 2 (by omega), hc 3 (by omega), hc 4 (by omega), hc 5 (by omega), hc 6 (by omega), hc 7 (by omega)⟩
theorem PartsS.at_ {ps : List (List Nd)} (h : PartsS av w v ps) (i : Nat) (hi : i < ps.length) : ∃ g off cap a c, v = .slice (some ⟨g, off, none⟩) ps.length cap ∧ g < w.heap.size ∧ w.cell? ⟨g, off + i, none⟩ = some (.slice a ps[i].length c) ∧ NdS av w (.slice a ps[i].length c) ps[i] := by
 obtain ⟨cs, h1, h2⟩ := h
 obtain ⟨g, off, cap, rfl, _, _, hg, hcs⟩ := h1.some_ (by omega)
 obtain ⟨u, hu, hn⟩ := h2 i hi
 obtain ⟨a, c, rfl, _⟩ := hn.form
 refine ⟨g, off, cap, a, c, rfl, hg, ?_, hn⟩
 have := hcs i (by omega)
 rw [this, hu]
end
/-- What lies while join goes on: the box of the node, its kids, what is out. -/
structure JAt (av : Nat → Prop) (w W : World) (nb : Nat) (n : Nd) (a b r p vk vo : Value) (out : List Nd) (kids : List Int) : Prop where
 lo : ∀ k, av k → k < w.heap.size
 gr : w.grownBy W none
 low : w.heap.size ≤ nb
 box : Blk W nb 33 (ndCells n a b r p vk).toArray
 kd : IntS W vk kids
 kn : ∀ g, vk.ownBlock = some g → w.heap.size ≤ g
 out : NdS (fun k => vk.ownBlock = some k ∨ av k) W vo out
 on : ∀ g, vo.ownBlock = some g → w.heap.size ≤ g ∧ g ≠ nb
section
variable {av : Nat → Prop} {w W W' wA : World} {nb : Nat} {n : Nd} {a b r p vk vo vA : Value} {out : List Nd} {kids : List Int}
theorem JAt.grown (h : JAt av w W nb n a b r p vk vo out kids) (hg : W.grownBy W' none) : JAt av w W' nb n a b r p vk vo out kids :=
 ⟨h.lo, none_trans h.gr hg, h.low, Blk.grown h.box hg (by simp), old_own hg h.kd, h.kn, h.out.grown hg, h.on⟩
theorem ndCells_set (n : Nd) (a b r p k u : Value) : (ndCells n a b r p k).toArray.setIfInBounds 7 u = (ndCells n a b r p u).toArray := by simp [ndCells]
theorem NdS.far33 {av : Nat → Prop} {w : World} {v : Value} {ns : List Nd} (h : NdS av w v ns) {q : Addr} (hq : v.ownBlock ≠ some q.block) (ht : HasT w q.block 33) (u : Value) : NdS av (w.setCell q u) v ns := by
 obtain ⟨cs, h1, h2⟩ := h
 have hf : Fr (fun _ => True) w (w.setCell q u) := (Fr.refl _ w).set trivial (.inr ht) u
 exact ⟨cs, h1.far hq u, fun i hi => by obtain ⟨x, y, r, p', k, e, hn⟩ := h2 i hi; exact ⟨x, y, r, p', k, e, hn.fr hf⟩⟩
theorem gr_chg {S : Nat → Prop} (hg : w.grownBy W none) (o : Obj) (hc : Chg S (W.alloc o) wA) (hS : ∀ k, S k → w.heap.size ≤ k) : w.grownBy wA none := by
 have h1 := only_alloc hg o
 exact ⟨hc.os.trans h1.os, hc.tape.trans h1.tape, hc.output.trans h1.output, Nat.le_trans h1.size hc.size, fun k hk hne => (hc.block k (Nat.lt_of_lt_of_le hk h1.size) (fun e => by have := hS k e; omega)).trans (h1.block k hk hne)⟩
/-- A kid's number behind the others. -/
theorem JAt.kid (h : JAt av w W nb n a b r p vk vo out kids) (o : Obj) {y : Int} (ho : Own wA 3 1 vA (kids.length + 1) (kids.map (Value.int .i64) ++ [.int .i64 y]) 0) (hc : Chg (fun g => vk.ownBlock = some g) (W.alloc o) wA) (hn : ∀ g, vA.ownBlock = some g → vk.ownBlock = some g ∨ (W.alloc o).heap.size ≤ g) :
  Blk wA nb 33 (ndCells n a b r p vk).toArray ∧ JAt av w (wA.setCell ⟨nb, 7, none⟩ vA) nb n a b r p vA vo out (kids ++ [y]) := by
 have hgW := only_alloc (only_refl W none) o
 have h1 := h.grown hgW
 have hT : ∀ k, vk.ownBlock = some k → HasT (W.alloc o) k 3 := fun k e => Own.hasT h1.kd e
 have hb : Blk wA nb 33 (ndCells n a b r p vk).toArray := Blk.chg h1.box hc fun e => absurd ((hT _ e).uniq h1.box.hasT) (by decide)
 have hgA : w.grownBy wA none := gr_chg h.gr o hc h.kn
 have hout : NdS (fun k => vA.ownBlock = some k ∨ av k) wA vo out := by
  have h2 := (h1.out.more (S := fun k => (W.alloc o).heap.size ≤ k) (fun _ h => h))
  obtain ⟨cs, x1, x2⟩ := h2
  refine ⟨cs, x1.chg hc (fun g hg e => absurd ((x1.hasT hg).uniq (hT g e)) (by decide)), fun i hi => ?_⟩
  obtain ⟨x, y, r, p', k, e, hn2⟩ := x2 i hi
  refine ⟨x, y, r, p', k, e, (NdAt.chg hc (fun k e => .inl (.inl e)) hn2).mono fun k hk => ?_⟩
  rcases hk with hk | hk
  ·rcases hn k hk with e | e
   ·exact .inl (.inl e)
   ·exact .inr e
  ·exact .inl (.inr hk)
 refine ⟨hb, ⟨h.lo, none_setCell hgA (p := ⟨nb, 7, none⟩) h.low _, h.low, ?_, ?_, fun g hg => ?_, ?_, h.on⟩⟩
 ·have := Blk.set_ hb 7 vA
  rw [ndCells_set] at this
  exact this
 ·have hne : vA.ownBlock ≠ some nb := fun e => absurd ((ho.hasT e).uniq hb.hasT) (by decide)
  unfold IntS
  rw [List.length_append, List.length_singleton, List.map_append]
  exact ho.far (p := ⟨nb, 7, none⟩) hne _
 ·rcases hn g hg with e | e
  ·exact h.kn g e
  ·rw [World.size_alloc] at e
   have := h.gr.size
   omega
 ·exact hout.far33 (q := ⟨nb, 7, none⟩) (fun e => (h.on _ e).2 rfl) hb.hasT _
/-- A node behind the others. -/
theorem JAt.node (h : JAt av w W nb n a b r p vk vo out kids) {W2 : World} (hg : W.grownBy W2 none) {cs : List Value} (h1 : Own W 33 8 vo out.length cs 0) (h2 : ∀ i (h : i < out.length), ∃ a b r p k, (cs.drop (i * 8)).take 8 = ndCells out[i] a b r p k ∧ NdAt (fun k => vk.ownBlock = some k ∨ av k) W a b r p k out[i])
  {x : Nd} {xa xb xr xp xk vkk : Value} (hx : NdAt av W xa xb xr xp xk x) {ks : List Int} (hkk : IntS W2 vkk ks) (hkn : ∀ g, vkk.ownBlock = some g → W.heap.size ≤ g)
  (o : Obj) (ho : Own wA 33 8 vA (out.length + 1) (cs ++ ndCells { x with kids := ks } xa xb xr xp vkk) 0) (hc : Chg (fun g => vo.ownBlock = some g) (W2.alloc o) wA) (hn : ∀ g, vA.ownBlock = some g → vo.ownBlock = some g ∨ (W2.alloc o).heap.size ≤ g) :
  JAt av w wA nb n a b r p vk vA (out ++ [{ x with kids := ks }]) kids := by
 have hgW := only_alloc hg o
 have hh := h.grown hgW
 have hT : ∀ k, vo.ownBlock = some k → HasT (W2.alloc o) k 33 := fun k e => Own.hasT (old_own hgW h1) e
 have hf : Fr (fun _ => True) (W2.alloc o) wA := Chg.mono hc fun k _ e => ⟨trivial, .inr (hT k e)⟩
 have hkT : ∀ k, vk.ownBlock = some k → HasT (W2.alloc o) k 3 := fun k e => Own.hasT hh.kd e
 refine ⟨h.lo, gr_chg (none_trans h.gr hg) o hc (fun k e => (h.on k e).1), h.low, Blk.chg hh.box hc (fun e => (h.on _ e).2 rfl), hh.kd.chg hc (fun g hg e => absurd ((hkT g hg).uniq (hT g e)) (by decide)), h.kn, ?_, fun g hg => ?_⟩
 ·have hlen := h1.len
  refine NdS.add (w := W2.alloc o) (base := fun _ => True) hlen (fun i hi => ?_) ho hf ?_
  ·obtain ⟨x1, x2, x3, x4, x5, e, hnd⟩ := h2 i hi
   exact ⟨x1, x2, x3, x4, x5, e, hnd.fr (base := fun _ => False) (Fr.of_grown hgW)⟩
  ·have hx2 := hx.fr (base := fun _ => False) (Fr.of_grown hgW)
   have avd : ∀ {e : TypeId} {s m k : Nat} {v : Value} {xs : List Value}, Own (W2.alloc o) e s v m xs k → e ≠ 3 → Av av v → Av (fun k => vk.ownBlock = some k ∨ av k) v := fun hv hne ha g hg hk => hk.elim (fun hk => hne ((hv.hasT hg).uniq (hkT g hk))) (fun hk => ha g hg hk)
   obtain ⟨cs2, p1, pa, p2⟩ := hx2.pats
   refine ⟨hx2.sets, hx2.words, hx2.rds, ⟨cs2, p1, avd p1 (by decide) pa, fun i hi => ?_⟩, Own.alloc hkk o, avd hx2.sets (by decide) hx2.ha, avd hx2.words (by decide) hx2.hb, avd hx2.rds (by decide) hx2.hr, fun g hg hk => ?_⟩
   ·obtain ⟨u, hu, hs, ua⟩ := p2 i hi
    exact ⟨u, hu, hs, avd hs (by decide) ua⟩
   ·have h3 := hkn g hg
    rcases hk with hk | hk
    ·have h4 := Own.lt h.kd hk
     omega
    ·have h4 := h.lo g hk
     have h5 := h.gr.size
     omega
 ·rcases hn g hg with e | e
  ·exact h.on g e
  ·have h5 := hh.gr.size
   have h6 := Blk.lt hh.box
   omega
end
theorem take_snoc {α : Type} {l : List α} {i : Nat} (h : i < l.length) : l.take (i + 1) = l.take i ++ [l[i]] := List.take_succ_eq_append_getElem h
end Go.Proofs.Ytgpfjcogaheopaa

end
section
/- The walk of the document's join. -/
namespace Go.Proofs.Ytgpfjcogaheopaa
open Go.RowKit Lx
set_option maxRecDepth 100000
def sumL (ps : List (List Nd)) : Nat := (ps.map List.length).sum
theorem joinP_sum : ∀ ps : List (List Nd), (joinP ps).1.length = sumL ps := by
 intro ps
 have : ∀ (ps : List (List Nd)) (a : List Nd × List Int), (ps.foldl joinStep a).1.length = a.1.length + sumL ps := by
  intro ps
  induction ps with
  | nil => intro a; rfl
  | cons q ps ih =>
   intro a
   rw [List.foldl_cons, ih]
   have hs : sumL (q :: ps) = q.length + sumL ps := by simp [sumL]
   rw [hs]
   unfold joinStep
   split
   ·rename_i h; subst h; simp
   ·simp [shN]; omega
 rw [joinP, this]
 simp
theorem sumL_take (ps : List (List Nd)) (i : Nat) (h : i < ps.length) : sumL (ps.take i) + ps[i].length ≤ sumL ps := by
 have h1 : ps = ps.take i ++ ps[i] :: ps.drop (i + 1) := by
  rw [← List.drop_eq_getElem_cons h, List.take_append_drop]
 have h2 : sumL ps = sumL (ps.take i) + (ps[i].length + sumL (ps.drop (i + 1))) := by
  refine (congrArg sumL h1).trans ?_
  unfold sumL
  rw [List.map_append, List.sum_append, List.map_cons, List.sum_cons]
 omega
/-- Kids are not many, and stand among the nodes, or are none. -/
def KB (ms : List Nd) : Prop := ∀ x ∈ ms, x.kids.length ≤ 1000 ∧ ∀ k ∈ x.kids, k < ms.length ∧ (k < 0 → k = -1)
theorem KB.zero {ms : List Nd} (h : KB ms) : ms.map (Nd.sh 0) = ms := by
 have : ∀ l : List Nd, (∀ x ∈ l, ∀ k ∈ x.kids, k < 0 → k = -1) → l.map (Nd.sh 0) = l := by
  intro l
  induction l with
  | nil => intro _; rfl
  | cons n l ih =>
   intro hl
   rw [List.map_cons, ih fun x hx => hl x (List.mem_cons_of_mem _ hx)]
   have hk : ∀ ks : List Int, (∀ k ∈ ks, k < 0 → k = -1) → ks.map (kdS 0) = ks := by
    intro ks
    induction ks with
    | nil => intro _; rfl
    | cons k ks ihk =>
     intro hks
     rw [List.map_cons, ihk fun x hx => hks x (List.mem_cons_of_mem _ hx)]
     have : kdS 0 k = k := by
      unfold kdS
      split
      ·rename_i hneg; rw [hks k (List.mem_cons_self ..) hneg]
      ·omega
     rw [this]
   have : Nd.sh 0 n = n := by
    unfold Nd.sh
    rw [hk n.kids (hl n (List.mem_cons_self ..))]
   rw [this]
 exact this ms fun x hx k hk => ((h x hx).2 k hk).2
theorem shN_kb {pre ms : List Nd} (h1 : KB pre) (h2 : KB ms) : KB (shN pre ms) := by
 intro x hx
 unfold shN at hx
 rw [shN_len]
 rw [List.mem_append] at hx
 rcases hx with hx | hx
 ·exact ⟨(h1 x hx).1, fun k hk => ⟨by have := ((h1 x hx).2 k hk).1; omega, ((h1 x hx).2 k hk).2⟩⟩
 ·obtain ⟨y, hy, rfl⟩ := List.mem_map.1 hx
  obtain ⟨h3, h4⟩ := h2 y hy
  refine ⟨by show (y.kids.map _).length ≤ 1000; rw [List.length_map]; exact h3, fun k hk => ?_⟩
  obtain ⟨j, hj, rfl⟩ := List.mem_map.1 (show k ∈ y.kids.map (kdS pre.length) from hk)
  have := (h4 j hj).1
  unfold kdS
  split
  ·exact ⟨by omega, fun _ => rfl⟩
  ·exact ⟨by omega, fun h => by omega⟩
theorem joinP_kb : ∀ ps : List (List Nd), (∀ ms ∈ ps, KB ms) → KB (joinP ps).1 ∧ ∀ k ∈ (joinP ps).2, k < (joinP ps).1.length ∧ (k < 0 → k = -1) := by
 intro ps h
 have : ∀ (ps : List (List Nd)) (a : List Nd × List Int), (∀ ms ∈ ps, KB ms) → KB a.1 → (∀ k ∈ a.2, k < a.1.length ∧ (k < 0 → k = -1)) → KB (ps.foldl joinStep a).1 ∧ ∀ k ∈ (ps.foldl joinStep a).2, k < (ps.foldl joinStep a).1.length ∧ (k < 0 → k = -1) := by
  intro ps
  induction ps with
  | nil => intro a _ h1 h2; exact ⟨h1, h2⟩
  | cons q ps ih =>
   intro a h0 h1 h2
   rw [List.foldl_cons]
   refine ih _ (fun m hm => h0 m (List.mem_cons_of_mem _ hm)) ?_ ?_
   ·unfold joinStep
    split
    ·exact h1
    ·exact shN_kb h1 (h0 q (List.mem_cons_self ..))
   ·unfold joinStep
    split
    ·intro k hk
     rw [List.mem_append, List.mem_singleton] at hk
     rcases hk with hk | rfl
     ·exact h2 k hk
     ·exact ⟨by show (-1 : Int) < (a.1.length : Int); omega, fun _ => rfl⟩
    ·rename_i hq
     have := List.length_pos_iff.2 hq
     intro k hk
     rw [List.mem_append, List.mem_singleton] at hk
     refine ⟨?_, fun hneg => ?_⟩
     ·show k < ((shN a.1 q).length : Int)
      rw [shN_len]
      rcases hk with hk | rfl
      ·have := (h2 k hk).1; omega
      ·omega
     ·rcases hk with hk | rfl
      ·exact (h2 k hk).2 hneg
      ·omega
 exact this ps ([], []) h (fun _ h => by cases h) (fun _ h => by cases h)
theorem joinR_kb {ps : List (List Nd)} {n : Nd} (h : ∀ ms ∈ ps, KB ms) (hl : ps.length ≤ 1000) (hn : n.kids = []) : KB (joinR ps n) := by
 obtain ⟨h1, h2⟩ := joinP_kb ps h
 intro x hx
 unfold joinR at hx
 have hL : (joinR ps n).length = (joinP ps).1.length + 1 := by simp [joinR]
 rw [hL]
 rw [List.mem_append, List.mem_singleton] at hx
 rcases hx with hx | rfl
 ·exact ⟨(h1 x hx).1, fun k hk => ⟨by have := ((h1 x hx).2 k hk).1; omega, ((h1 x hx).2 k hk).2⟩⟩
 ·rw [hn, List.nil_append]
  exact ⟨by rw [joinP_len]; exact hl, fun k hk => ⟨by have := (h2 k hk).1; omega, (h2 k hk).2⟩⟩
theorem ndForms {av : Nat → Prop} {w : World} {a b r p k : Value} {n : Nd} (h : NdAt av w a b r p k n) : ∃ a1 a2 a3 b1 b2 b3 r1 r2 r3 p1 p2 p3 k1 k3, a = .slice a1 a2 a3 ∧ b = .slice b1 b2 b3 ∧ r = .slice r1 r2 r3 ∧ p = .slice p1 p2 p3 ∧ k = .slice k1 n.kids.length k3 := by
 obtain ⟨x1, y1, e1, _⟩ := h.sets.form
 obtain ⟨x2, y2, e2, _⟩ := h.words.form
 obtain ⟨x3, y3, e3, _⟩ := h.rds.form
 obtain ⟨cs, hp, _, _⟩ := h.pats
 obtain ⟨x4, y4, e4, _⟩ := hp.form
 obtain ⟨x5, y5, e5, _⟩ := h.kids.form
 exact ⟨_, _, _, _, _, _, _, _, _, _, _, _, _, _, e1, e2, e3, e4, e5⟩
def JPost (av : Nat → Prop) (w : World) (l : List Nd) (e : Ending) (w' : World) : Prop := ∃ v, e = .returned v ∧ NdS av w' v l ∧ (∀ g, v.ownBlock = some g → w.heap.size ≤ g) ∧ w.grownBy w' none
theorem ints_at {w : World} {v : Value} {l : List Int} (h : IntS w v l) (i : Nat) (hi : i < l.length) : ∃ g off cap, v = .slice (some ⟨g, off, none⟩) l.length cap ∧ g < w.heap.size ∧ w.cell? ⟨g, off + i, none⟩ = some (.int .i64 l[i]) := by
 obtain ⟨g, off, cap, rfl, _, _, hg, hcs⟩ := h.some_ (by omega)
 refine ⟨g, off, cap, rfl, hg, ?_⟩
 rw [hcs i (by omega), List.getElem?_map, List.getElem?_eq_getElem hi]
 rfl
/-- What lies while the kids of one node are told. -/
structure MAt (W W2 : World) (xb : Nat) (C : Array Value) (v : Value) (ks : List Int) : Prop where
 gr : W.grownBy W2 none
 box : Blk W2 xb 33 C
 kd : IntS W2 v ks
 kn : ∀ g, v.ownBlock = some g → W.heap.size ≤ g
section
variable {W W2 W3 wA : World} {xb : Nat} {C : Array Value} {v vA : Value} {ks : List Int}
theorem MAt.grown (h : MAt W W2 xb C v ks) (hg : W2.grownBy W3 none) : MAt W W3 xb C v ks := ⟨none_trans h.gr hg, Blk.grown h.box hg (by simp), old_own hg h.kd, h.kn⟩
theorem MAt.kid (h : MAt W W2 xb C v ks) (o : Obj) {y : Int} (ho : Own wA 3 1 vA (ks.length + 1) (ks.map (Value.int .i64) ++ [.int .i64 y]) 0) (hc : Chg (fun g => v.ownBlock = some g) (W2.alloc o) wA) (hn : ∀ g, vA.ownBlock = some g → v.ownBlock = some g ∨ (W2.alloc o).heap.size ≤ g) : MAt W wA xb C vA (ks ++ [y]) := by
 have h1 := h.grown (only_alloc (only_refl W2 none) o)
 refine ⟨gr_chg h.gr o hc h.kn, Blk.chg h1.box hc (fun e => absurd ((Own.hasT h1.kd e).uniq h1.box.hasT) (by decide)), ?_, fun g hg => ?_⟩
 ·unfold IntS
  rw [List.length_append, List.length_singleton, List.map_append]
  exact ho
 ·rcases hn g hg with e | e
  ·exact h.kn g e
  ·have := h1.gr.size
   omega
end
/-- The node itself behind the others. -/
theorem JAt.fin {av : Nat → Prop} {w W wA : World} {nb : Nat} {n : Nd} {a b r p vk vo vA : Value} {out : List Nd} {kids : List Int} (h : JAt av w W nb n a b r p vk vo out kids) (hx : NdAt av w a b r p (.slice none 0 0) n) {cs : List Value} (h1 : Own W 33 8 vo out.length cs 0) (h2 : ∀ i (h : i < out.length), ∃ a b r p k, (cs.drop (i * 8)).take 8 = ndCells out[i] a b r p k ∧ NdAt (fun k => vk.ownBlock = some k ∨ av k) W a b r p k out[i])
  (o : Obj) (ho : Own wA 33 8 vA (out.length + 1) (cs ++ ndCells { n with kids := kids } a b r p vk) 0) (hc : Chg (fun g => vo.ownBlock = some g) (W.alloc o) wA) (hn : ∀ g, vA.ownBlock = some g → vo.ownBlock = some g ∨ (W.alloc o).heap.size ≤ g) :
  NdS av wA vA (out ++ [{ n with kids := kids }]) ∧ (∀ g, vA.ownBlock = some g → w.heap.size ≤ g) ∧ w.grownBy wA none := by
 have hgW := only_alloc (only_refl W none) o
 have hh := h.grown hgW
 have hT : ∀ k, vo.ownBlock = some k → HasT (W.alloc o) k 33 := fun k e => Own.hasT (old_own hgW h1) e
 have hf : Fr (fun _ => True) (W.alloc o) wA := Chg.mono hc fun k _ e => ⟨trivial, .inr (hT k e)⟩
 refine ⟨?_, fun g hg => ?_, gr_chg h.gr o hc (fun k e => (h.on k e).1)⟩
 ·refine NdS.add (w := W.alloc o) (base := fun _ => True) h1.len (fun i hi => ?_) ho hf ?_
  ·obtain ⟨x1, x2, x3, x4, x5, e, hnd⟩ := h2 i hi
   exact ⟨x1, x2, x3, x4, x5, e, (hnd.fr (base := fun _ => False) (Fr.of_grown hgW)).mono fun _ hk => .inr hk⟩
  ·have hx2 := hx.fr (base := fun _ => False) (Fr.of_grown (none_trans h.gr hgW))
   exact ⟨hx2.sets, hx2.words, hx2.rds, hx2.pats, hh.kd, hx2.ha, hx2.hb, hx2.hr, fun g hg hk => by have h4 := h.lo g hk; have h5 := h.kn g hg; omega⟩
 ·rcases hn g hg with e | e
  ·exact (h.on g e).1
  ·have := hh.gr.size
   omega
set_option maxHeartbeats 16000000 in
theorem djoin_any (av : Nat → Prop) (ps : List (List Nd)) (n : Nd) (vp a b r p : Value) (w : World) (hav : ∀ k, av k → k < w.heap.size) (hP : PartsS av w vp ps) (hn : NdAt av w a b r p (.slice none 0 0) n) (hk : n.kids = []) (hb : ∀ ms ∈ ps, KB ms) (ht : sumL ps ≤ 60000) (hl : ps.length ≤ 1000) :
  Calls Try.prog 31 #[vp, .agg (ndCells n a b r p (.slice none 0 0)).toArray] w (JPost av w (joinR ps n)) := by
 have HP := hide hP
 have HN := hide hn
 have HB := hide hb
 have HT := hide ht
 have HL := hide hl
 have HR := hide (show joinR ps n = (joinP ps).1 ++ [{ n with kids := (joinP ps).2 }] by unfold joinR; rw [hk]; rfl)
 obtain ⟨R, hR⟩ : ∃ R, joinR ps n = R := ⟨_, rfl⟩
 rw [hR] at HR ⊢
 clear hR
 obtain ⟨ap, capp, rfl, _, _⟩ : ∃ ap capp, vp = .slice ap ps.length capp ∧ ps.length ≤ capp ∧ True := by
  obtain ⟨cs, h1, _⟩ := hP
  obtain ⟨x, y, e, h2, _⟩ := h1.form
  exact ⟨x, y, e, h2, trivial⟩
 obtain ⟨a1, a2, a3, b1, b2, b3, r1, r2, r3, p1, p2, p3, _, _, rfl, rfl, rfl, rfl, _⟩ := ndForms hn
 have HJ0 := hide (⟨hav, only_alloc (only_refl w none) _, Nat.le_refl _, Blk.new w 33 (ndCells n (.slice a1 a2 a3) (.slice b1 b2 b3) (.slice r1 r2 r3) (.slice p1 p2 p3) (.slice none 0 0)).toArray, Own.nil _ _ _ _, fun g hg => (by cases hg), NdS.nil _ _, fun g hg => (by cases hg)⟩ : JAt av w (w.alloc (.cells (ndCells n (.slice a1 a2 a3) (.slice b1 b2 b3) (.slice r1 r2 r3) (.slice p1 p2 p3) (.slice none 0 0)).toArray 33)) w.heap.size n (.slice a1 a2 a3) (.slice b1 b2 b3) (.slice r1 r2 r3) (.slice p1 p2 p3) (.slice none 0 0) (.slice none 0 0) [] [])
 obtain ⟨nk, nn, ni, nset, nwd, nrd, npt, nkd⟩ := n
 unfold ndCells sv at HJ0
 simp only [] at HJ0
 unfold ndCells sv JPost
 simp only [] at hk ⊢
 subst hk
 clear hP hn hb ht hl
 go_enter Try.func31, Try.ntmps31
 go_wp2_with fail
 go_loopg [5, 6, 7, 8, 9, 10, 11] ps.length (fun g v5 v6 v7 v8 v9 v10 v11 wr => ∃ (i : Nat) (vk : Value), v6 = .int .i64 i ∧ i ≤ ps.length ∧ ps.length - i ≤ g ∧ JAt av w wr w.heap.size ⟨nk, nn, ni, nset, nwd, nrd, npt, []⟩ (.slice a1 a2 a3) (.slice b1 b2 b3) (.slice r1 r2 r3) (.slice p1 p2 p3) vk v5 (joinP (ps.take i)).1 (joinP (ps.take i)).2)
 case atStart => exact ⟨0, .slice none 0 0, rfl, Nat.zero_le _, Nat.le_refl _, HJ0.out⟩
 case round =>
  obtain ⟨g0, hg0⟩ : ∃ x, x = gk := ⟨_, rfl⟩
  subst hg0
  obtain ⟨i, vk, rfl, hi, hgi, hJ⟩ := hrel
  have HG := hide hgi
  have HJ := hide hJ
  obtain ⟨ao, co, rfl, _⟩ := hJ.out.form
  obtain ⟨ak, ck, rfl, _, _⟩ := Own.form hJ.kd
  clear hgi hJ HJ0
  by_cases hlt : i < ps.length
  ·have q0 : decide ((i : Int) < (ps.length : Int)) = true := decide_eq_true (by omega)
   have hib : (0 : Int) ≤ (i : Int) ∧ (i : Int) < (ps.length : Int) := by omega
   obtain ⟨gp, op, cpp, am, cm, e1, hgpw, u0w, hM⟩ := HP.out.at_ i hlt
   injection e1 with e1 _ e2
   subst e1 e2
   have u0 := old_cell HJ.out.gr hgpw u0w
   have hgp := Nat.lt_of_lt_of_le hgpw HJ.out.gr.size
   have HM := hide hM
   have hi1 : (i : Int) ≤ 1000 := by have := HL.out; omega
   have hsum := sumL_take ps i hlt
   have hjs := joinP_sum (ps.take i)
   have hjl := joinP_len (ps.take i)
   have hST := hide (show joinP (ps.take (i + 1)) = joinStep (joinP (ps.take i)) ps[i] by rw [take_snoc hlt, joinP_snoc])
   have HBM := hide (HB.out _ (List.getElem_mem hlt))
   have hkl : (joinP (ps.take i)).2.length ≤ 1000 := by rw [hjl, List.length_take]; have := HL.out; omega
   have hol : (joinP (ps.take i)).1.length + ps[i].length ≤ 60000 := by rw [hjs]; have := HT.out; omega
   obtain ⟨ms, hms⟩ : ∃ ms, ps[i] = ms := ⟨_, rfl⟩
   rw [hms] at u0 u0w HM hST HBM hol
   have HU := hide (And.intro hgpw u0w)
   clear hms hM hsum hjs hjl hgpw u0w
   obtain ⟨A, hA⟩ : ∃ A, joinP (ps.take i) = A := ⟨_, rfl⟩
   rw [hA] at hST HJ hkl hol
   simp only [hA]
   clear hA
   obtain ⟨out, kids⟩ := A
   simp only [] at HJ hkl hol hST ⊢
   by_cases hem : ms = []
   ·subst hem
    have HST := hide (show joinP (ps.take (i + 1)) = (out, kids ++ [-1]) from hST.out)
    have hb7 := HJ.out.box
    unfold ndCells at hb7
    have f7 : wr.cell? ⟨w.heap.size, 7, none⟩ = some (.slice ak kids.length ck) := Blk.cell hb7 7
    have l7 := Blk.lt hb7
    clear hb7 hST
    go_wp2_with (at_builtin; refine wpList_appAt 3 (.int .i64 0) 1 8 Try.underlying31 infoInt rfl (.slice ak kids.length ck) kids.length (kids.map (Value.int .i64)) 0 _ 1 [.int .i64 (-1)] rfl rfl (Own.alloc HJ.out.kd _) (by omega) (srcI _ _ (-1) rfl) (by unfold maxLen; omega) (by omega) ?_; intro vA wA ho hc hn2 _; (have hk2 := HJ.out.kid _ ho hc hn2); (have zA := Blk.frozen hk2.1 7); (have lA := Blk.lt hk2.1); (have yA : wA.cell? ⟨w.heap.size, 7, none⟩ = some (.slice ak kids.length ck) := Blk.cell hk2.1 7); (have HJA := hide hk2.2); (obtain ⟨aA, cA, rfl, _, _⟩ := Own.form ho); clear ho hc hn2 hk2)
    go_roundg (g0 - 1)
    case rel => exact ⟨i + 1, _, by go_num, by omega, by have := HG.out; omega, by rw [HST.out]; exact HJA.out⟩
    case measure => have := HG.out; omega
   ·have HST := hide (show joinP (ps.take (i + 1)) = (shN out ms, kids ++ [((out.length + ms.length : Nat) : Int) - 1]) from hST.out.trans (if_neg hem))
    have hmp : 0 < ms.length := List.length_pos_iff.2 hem
    have q1 : ((ms.length : Int) == 0) = false := by rw [beq_eq_false_iff_ne]; omega
    clear hST hem hmp
    go_wp2_with fail
    clear q1 u0 hgp
    go_loopg [5, 8, 9, 10, 11] ms.length (fun g v5 v8 v9 v10 v11 wk => ∃ k : Nat, v8 = .int .i64 k ∧ k ≤ ms.length ∧ ms.length - k ≤ g ∧ JAt av w wk w.heap.size ⟨nk, nn, ni, nset, nwd, nrd, npt, []⟩ (.slice a1 a2 a3) (.slice b1 b2 b3) (.slice r1 r2 r3) (.slice p1 p2 p3) (.slice ak kids.length ck) v5 (out ++ (ms.take k).map (Nd.sh out.length)) kids)
    case atStart => exact ⟨0, rfl, Nat.zero_le _, Nat.le_refl _, by simpa using HJ.out⟩
    case round =>
     obtain ⟨wk, hwk⟩ : ∃ x, x = wr := ⟨_, rfl⟩
     subst hwk
     obtain ⟨g1, hg1⟩ : ∃ x, x = gk := ⟨_, rfl⟩
     subst hg1
     obtain ⟨k, rfl, hk, hgk, hJk⟩ := hrel
     have HGk := hide hgk
     obtain ⟨O, hO⟩ : ∃ O, out ++ (ms.take k).map (Nd.sh out.length) = O := ⟨_, rfl⟩
     have HO := hide hO
     rw [hO] at hJk
     clear hO
     have HJk := hide hJk
     obtain ⟨ao, co, rfl, _⟩ := hJk.out.form
     have u0 := old_cell hJk.gr HU.out.1 HU.out.2
     have hgp := Nat.lt_of_lt_of_le HU.out.1 hJk.gr.size
     have hOL : O.length ≤ 60000 := by rw [← HO.out, List.length_append, List.length_map, List.length_take]; omega
     clear hgk hJk
     by_cases hkl2 : k < ms.length
     ·have q1 : decide ((k : Int) < (ms.length : Int)) = true := decide_eq_true (by omega)
      have hik : (0 : Int) ≤ (k : Int) ∧ (k : Int) < (ms.length : Int) := by omega
      obtain ⟨gm, om, cmm, xa, xb, xr, xp, xk, e1, hgm, hx, x0, x1, x2, x3, x4, x5, x6, x7⟩ := (HM.out.grown HJk.out.gr).at_ k hkl2
      injection e1 with e1 _ e2
      subst e1 e2
      obtain ⟨xa1, xa2, xa3, xb1, xb2, xb3, xr1, xr2, xr3, xp1, xp2, xp3, xk1, xk3, rfl, rfl, rfl, rfl, rfl⟩ := ndForms hx
      have HKB := hide (HBM.out _ (List.getElem_mem hkl2))
      obtain ⟨X, hX⟩ : ∃ X, ms[k] = X := ⟨_, rfl⟩
      have HXS := hide (show (ms.take (k + 1)).map (Nd.sh out.length) = (ms.take k).map (Nd.sh out.length) ++ [X.sh out.length] by rw [take_snoc hkl2, List.map_append, hX]; rfl)
      rw [hX] at hx x0 x1 x2 x7 HKB
      have HX := hide hx
      clear hX hx
      obtain ⟨xkd, xnn, xin, xset, xwd, xrd, xpt, xks⟩ := X
      simp only [] at x0 x1 x2 x7
      unfold sv at x1
      have HMA := hide (⟨only_alloc (only_refl wk none) _, Blk.new wk 33 #[.int .i64 xkd, .string ⟨xnn.toArray⟩, .bool xin, .slice xa1 xa2 xa3, .slice xb1 xb2 xb3, .slice xr1 xr2 xr3, .slice xp1 xp2 xp3, .slice xk1 xks.length xk3], Own.nil _ _ _ _, fun g hg => (by cases hg)⟩ : MAt wk (wk.alloc (.cells #[.int .i64 xkd, .string ⟨xnn.toArray⟩, .bool xin, .slice xa1 xa2 xa3, .slice xb1 xb2 xb3, .slice xr1 xr2 xr3, .slice xp1 xp2 xp3, .slice xk1 xks.length xk3] 33)) wk.heap.size #[.int .i64 xkd, .string ⟨xnn.toArray⟩, .bool xin, .slice xa1 xa2 xa3, .slice xb1 xb2 xb3, .slice xr1 xr2 xr3, .slice xp1 xp2 xp3, .slice xk1 xks.length xk3] (.slice none 0 0) [])
      have hxkl : xks.length ≤ 1000 := HKB.out.1
      have hoL : out.length ≤ 60000 := by omega
      go_wp2_with fail
      go_loopg [10, 11] xks.length (fun g v10 v11 wm => ∃ m : Nat, v11 = .int .i64 m ∧ m ≤ xks.length ∧ xks.length - m ≤ g ∧ MAt wk wm wk.heap.size #[.int .i64 xkd, .string ⟨xnn.toArray⟩, .bool xin, .slice xa1 xa2 xa3, .slice xb1 xb2 xb3, .slice xr1 xr2 xr3, .slice xp1 xp2 xp3, .slice xk1 xks.length xk3] v10 ((xks.take m).map (kdS out.length)))
      case atStart => exact ⟨0, rfl, Nat.zero_le _, Nat.le_refl _, HMA.out⟩
      case round =>
       clear x0 x1 x2 x3 x4 x5 x6 x7 hgm u0
       obtain ⟨m, rfl, hm, hgm, hMA⟩ := hrel
       obtain ⟨K, hK⟩ : ∃ K, (xks.take m).map (kdS out.length) = K := ⟨_, rfl⟩
       have hKl : K.length = m := by rw [← hK, List.length_map, List.length_take]; omega
       have HKe := hide hK
       have HKl := hide hKl
       rw [hK] at hMA
       have HMB := hide hMA
       have HGm := hide hgm
       obtain ⟨a10, c10, rfl, _, _⟩ := Own.form hMA.kd
       have hbx := hMA.box
       have f7 : wr.cell? ⟨wk.heap.size, 7, none⟩ = some (.slice xk1 xks.length xk3) := Blk.cell hbx 7
       have l7 := Blk.lt hbx
       have z7 := Blk.frozen hbx 7
       have f0 : wr.cell? ⟨wk.heap.size, 0, none⟩ = some (.int .i64 xkd) := Blk.cell hbx 0
       have f1 : wr.cell? ⟨wk.heap.size, 1, none⟩ = some (.string ⟨xnn.toArray⟩) := Blk.cell hbx 1
       have f2 : wr.cell? ⟨wk.heap.size, 2, none⟩ = some (.bool xin) := Blk.cell hbx 2
       have f3 : wr.cell? ⟨wk.heap.size, 3, none⟩ = some (.slice xa1 xa2 xa3) := Blk.cell hbx 3
       have f4 : wr.cell? ⟨wk.heap.size, 4, none⟩ = some (.slice xb1 xb2 xb3) := Blk.cell hbx 4
       have f5 : wr.cell? ⟨wk.heap.size, 5, none⟩ = some (.slice xr1 xr2 xr3) := Blk.cell hbx 5
       have f6 : wr.cell? ⟨wk.heap.size, 6, none⟩ = some (.slice xp1 xp2 xp3) := Blk.cell hbx 6
       have hK1000 : K.length ≤ 1000 := by omega
       clear hgm hMA hbx hK hKl
       by_cases hml : m < xks.length
       ·have q2 : decide ((m : Int) < (xks.length : Int)) = true := decide_eq_true (by omega)
        have him : (0 : Int) ≤ (m : Int) ∧ (m : Int) < (xks.length : Int) := by omega
        obtain ⟨gx, ox, cx, e1, hgx, y0⟩ := ints_at HX.out.kids m hml
        injection e1 with e1 _ e2
        subst e1 e2
        have y1 := old_cell HMB.out.gr hgx y0
        have hgx1 := Nat.lt_of_lt_of_le hgx HMB.out.gr.size
        have hym := (HKB.out.2 _ (List.getElem_mem hml)).1
        have HKN := hide (show (xks.take (m + 1)).map (kdS out.length) = K ++ [kdS out.length xks[m]] by rw [take_snoc hml, List.map_append, HKe.out]; rfl)
        obtain ⟨y, hy⟩ : ∃ y, xks[m] = y := ⟨_, rfl⟩
        rw [hy] at y1 hym HKN
        clear hy y0 hgx
        by_cases hneg : y < 0
        ·have q3 : decide (y < (0 : Int)) = true := decide_eq_true hneg
         have HKN := hide (show (xks.take (m + 1)).map (kdS out.length) = K ++ [-1] by rw [HKN.out]; unfold kdS; rw [if_pos hneg])
         go_wp2_with (at_builtin; refine wpList_appAt 3 (.int .i64 0) 1 8 Try.underlying31 infoInt rfl (.slice a10 K.length c10) K.length (K.map (Value.int .i64)) 0 _ 1 [.int .i64 (-1)] rfl rfl (Own.alloc HMB.out.kd _) (by omega) (srcI _ _ (-1) rfl) (by unfold maxLen; omega) (by omega) ?_; intro vA wA ho hc hn2 _; (have HMC := hide (HMB.out.kid _ ho hc hn2)); (obtain ⟨aA, cA, rfl, _, _⟩ := Own.form ho); clear ho hc hn2)
         go_roundg (gk - 1)
         case rel => exact ⟨m + 1, by go_num, by omega, by have := HGm.out; omega, by rw [HKN.out]; exact HMC.out⟩
         case measure => have := HGm.out; omega
        ·have q3 : decide (y < (0 : Int)) = false := decide_eq_false hneg
         have HKN := hide (show (xks.take (m + 1)).map (kdS out.length) = K ++ [y + (out.length : Int)] by rw [HKN.out]; unfold kdS; rw [if_neg hneg])
         go_wp2_with (at_builtin; refine wpList_appAt 3 (.int .i64 0) 1 8 Try.underlying31 infoInt rfl (.slice a10 K.length c10) K.length (K.map (Value.int .i64)) 0 _ 1 [.int .i64 (y + (out.length : Int))] rfl rfl (Own.alloc HMB.out.kd _) (by omega) (srcI _ _ (y + (out.length : Int)) rfl) (by unfold maxLen; omega) (by omega) ?_; intro vA wA ho hc hn2 _; (have HMC := hide (HMB.out.kid _ ho hc hn2)); (obtain ⟨aA, cA, rfl, _, _⟩ := Own.form ho); clear ho hc hn2)
         go_roundg (gk - 1)
         case rel => exact ⟨m + 1, by go_num, by omega, by have := HGm.out; omega, by rw [HKN.out]; exact HMC.out⟩
         case measure => have := HGm.out; omega
       ·obtain rfl : m = xks.length := by omega
        have q2 : decide ((xks.length : Int) < (xks.length : Int)) = false := decide_eq_false (by omega)
        go_upto_region 20 with (fail)
        have hB9 := Blk.set_ HMB.out.box 7 (.slice a10 K.length c10)
        have hg9 := none_setCell HMB.out.gr (p := ⟨wk.heap.size, 7, none⟩) (Nat.le_refl _) (.slice a10 K.length c10)
        have hk9 := Own.far HMB.out.kd (p := ⟨wk.heap.size, 7, none⟩) (fun e => absurd ((Own.hasT HMB.out.kd e).uniq HMB.out.box.hasT) (by decide)) (.slice a10 K.length c10)
        generalize wr.setCell ⟨wk.heap.size, 7, none⟩ (.slice a10 K.length c10) = W9 at hB9 hg9 hk9 ⊢
        clear f0 f1 f2 f3 f4 f5 f6 f7 l7 z7
        have hB9 : Blk W9 wk.heap.size 33 #[.int .i64 xkd, .string ⟨xnn.toArray⟩, .bool xin, .slice xa1 xa2 xa3, .slice xb1 xb2 xb3, .slice xr1 xr2 xr3, .slice xp1 xp2 xp3, .slice a10 K.length c10] := hB9
        have f0 : W9.cell? ⟨wk.heap.size, 0, none⟩ = some (.int .i64 xkd) := Blk.cell hB9 0
        have f1 : W9.cell? ⟨wk.heap.size, 1, none⟩ = some (.string ⟨xnn.toArray⟩) := Blk.cell hB9 1
        have f2 : W9.cell? ⟨wk.heap.size, 2, none⟩ = some (.bool xin) := Blk.cell hB9 2
        have f3 : W9.cell? ⟨wk.heap.size, 3, none⟩ = some (.slice xa1 xa2 xa3) := Blk.cell hB9 3
        have f4 : W9.cell? ⟨wk.heap.size, 4, none⟩ = some (.slice xb1 xb2 xb3) := Blk.cell hB9 4
        have f5 : W9.cell? ⟨wk.heap.size, 5, none⟩ = some (.slice xr1 xr2 xr3) := Blk.cell hB9 5
        have f6 : W9.cell? ⟨wk.heap.size, 6, none⟩ = some (.slice xp1 xp2 xp3) := Blk.cell hB9 6
        have f7 : W9.cell? ⟨wk.heap.size, 7, none⟩ = some (.slice a10 K.length c10) := Blk.cell hB9 7
        have l7 := Blk.lt hB9
        obtain ⟨cs, h1, h2⟩ := HJk.out.out
        have HO1 := hide h1
        have HO2 := hide h2
        have HOW := hide (old_own hg9 h1)
        have HG9 := hide hg9
        have HK9 := hide (show IntS W9 (.slice a10 K.length c10) K from hk9)
        clear hB9 h1 h2 hg9 hk9
        go_wp2_with (at_builtin; refine wpList_appAt 33 (.agg #[.int .i64 0, .string ⟨#[]⟩, .bool false, .slice none 0 0, .slice none 0 0, .slice none 0 0, .slice none 0 0, .slice none 0 0]) 8 152 Try.underlying23 infoNode rfl (.slice ao O.length co) O.length cs 0 _ 1 (ndCells ⟨xkd, xnn, xin, xset, xwd, xrd, xpt, K⟩ (.slice xa1 xa2 xa3) (.slice xb1 xb2 xb3) (.slice xr1 xr2 xr3) (.slice xp1 xp2 xp3) (.slice a10 K.length c10)) rfl rfl (Own.alloc HOW.out _) (by omega) (srcN _ _ ⟨xkd, xnn, xin, xset, xwd, xrd, xpt, K⟩ xa1 xb1 xr1 xp1 a10 xa2 xa3 xb2 xb3 xr2 xr3 xp2 xp3 K.length c10 rfl) (by unfold maxLen; omega) (by omega) ?_; intro vA wA ho hc hn2 _; (have HJ9 := hide (JAt.node HJk.out HG9.out HO1.out HO2.out HX.out HK9.out HMB.out.kn _ ho hc hn2)); (obtain ⟨aA, cA, rfl, _, _⟩ := Own.form ho); clear ho hc hn2)
        go_roundg (g1 - 1)
        case rel => exact ⟨k + 1, by go_num, by omega, by have := HGk.out; omega, by
         have e1 := HKe.out
         rw [List.take_length] at e1
         rw [HXS.out, ← List.append_assoc, HO.out]
         unfold Nd.sh
         simp only []
         rw [e1]
         exact HJ9.out⟩
        case measure => have := HGk.out; omega
     ·obtain rfl : k = ms.length := by omega
      have q1 : decide ((ms.length : Int) < (ms.length : Int)) = false := decide_eq_false (by omega)
      have hsO : O = shN out ms := by rw [← HO.out, List.take_length]; rfl
      have HOl := hide (show ((out.length + ms.length : Nat) : Int) - 1 = (O.length : Int) - 1 by rw [hsO, shN_len])
      have HSO := hide hsO
      have hb7 := HJk.out.box
      unfold ndCells at hb7
      have f7 : wk.cell? ⟨w.heap.size, 7, none⟩ = some (.slice ak kids.length ck) := Blk.cell hb7 7
      have l7 := Blk.lt hb7
      clear hb7 hsO
      go_wp2_with (at_builtin; refine wpList_appAt 3 (.int .i64 0) 1 8 Try.underlying31 infoInt rfl (.slice ak kids.length ck) kids.length (kids.map (Value.int .i64)) 0 _ 1 [.int .i64 ((O.length : Int) - 1)] rfl rfl (Own.alloc HJk.out.kd _) (by omega) (srcI _ _ ((O.length : Int) - 1) rfl) (by unfold maxLen; omega) (by omega) ?_; intro vA wA ho hc hn2 _; (have hk2 := HJk.out.kid _ ho hc hn2); (have zA := Blk.frozen hk2.1 7); (have lA := Blk.lt hk2.1); (have yA : wA.cell? ⟨w.heap.size, 7, none⟩ = some (.slice ak kids.length ck) := Blk.cell hk2.1 7); (have HJA := hide hk2.2); (obtain ⟨aA, cA, rfl, _, _⟩ := Own.form ho); clear ho hc hn2 hk2)
      go_roundg (g0 - 1)
      case rel => exact ⟨i + 1, _, by go_num, by omega, by have := HG.out; omega, by rw [HST.out, HOl.out, ← HSO.out]; exact HJA.out⟩
      case measure => have := HG.out; omega
  ·obtain rfl : i = ps.length := by omega
   have q0 : decide ((ps.length : Int) < (ps.length : Int)) = false := decide_eq_false (by omega)
   have hol : (joinP ps).1.length ≤ 60000 := by rw [joinP_sum]; exact HT.out
   have HJ := hide (by have := HJ.out; rw [List.take_length] at this; exact this)
   simp only [List.take_length]
   have hb7 := HJ.out.box
   unfold ndCells sv at hb7
   simp only [] at hb7
   have f0 : wr.cell? ⟨w.heap.size, 0, none⟩ = some (.int .i64 nk) := Blk.cell hb7 0
   have f1 : wr.cell? ⟨w.heap.size, 1, none⟩ = some (.string ⟨nn.toArray⟩) := Blk.cell hb7 1
   have f2 : wr.cell? ⟨w.heap.size, 2, none⟩ = some (.bool ni) := Blk.cell hb7 2
   have f3 : wr.cell? ⟨w.heap.size, 3, none⟩ = some (.slice a1 a2 a3) := Blk.cell hb7 3
   have f4 : wr.cell? ⟨w.heap.size, 4, none⟩ = some (.slice b1 b2 b3) := Blk.cell hb7 4
   have f5 : wr.cell? ⟨w.heap.size, 5, none⟩ = some (.slice r1 r2 r3) := Blk.cell hb7 5
   have f6 : wr.cell? ⟨w.heap.size, 6, none⟩ = some (.slice p1 p2 p3) := Blk.cell hb7 6
   have f7 : wr.cell? ⟨w.heap.size, 7, none⟩ = some (.slice ak (joinP ps).2.length ck) := Blk.cell hb7 7
   have l7 := Blk.lt hb7
   obtain ⟨cs, h1, h2⟩ := HJ.out.out
   have HO1 := hide h1
   have HO2 := hide h2
   clear hb7 h1 h2
   go_wp2_with (at_builtin; refine wpList_appAt 33 (.agg #[.int .i64 0, .string ⟨#[]⟩, .bool false, .slice none 0 0, .slice none 0 0, .slice none 0 0, .slice none 0 0, .slice none 0 0]) 8 152 Try.underlying23 infoNode rfl (.slice ao (joinP ps).1.length co) (joinP ps).1.length cs 0 _ 1 (ndCells ⟨nk, nn, ni, nset, nwd, nrd, npt, (joinP ps).2⟩ (.slice a1 a2 a3) (.slice b1 b2 b3) (.slice r1 r2 r3) (.slice p1 p2 p3) (.slice ak (joinP ps).2.length ck)) rfl rfl (Own.alloc HO1.out _) (by omega) (srcN _ _ ⟨nk, nn, ni, nset, nwd, nrd, npt, (joinP ps).2⟩ a1 b1 r1 p1 ak a2 a3 b2 b3 r2 r3 p2 p3 (joinP ps).2.length ck rfl) (by unfold maxLen; omega) (by omega) ?_; intro vA wA ho hc hn2 _; (have HF := hide (JAt.fin HJ.out HN.out HO1.out HO2.out _ ho hc hn2)); (obtain ⟨aA, cA, rfl, _, _⟩ := Own.form ho); clear ho hc hn2)
   go_ret
   exact ⟨_, rfl, by rw [HR.out]; exact HF.out.1, HF.out.2.1, HF.out.2.2⟩
end Go.Proofs.Ytgpfjcogaheopaa

end
