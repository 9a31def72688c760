/- wp_region_perm for a region whose forced operations may panic (a call that gives up), where the post does not look at the temporaries of what has panicked; a forced call. -/
import Derived.Test.YtgpfjcogaheopaaPerm
import Derived.Test.YtgpfjcogaheopaaTree
set_option linter.all false
namespace Go.Proofs.Ytgpfjcogaheopaa
open Go.RowKit
section
variable {P : Program} {ops : Array Oper} {Q : Exit → Act → World → Prop} {md : Region.Mode} {S : World → Prop}
theorem wpAnyS_permP {l : List Oper} {n : Nat} (hsel : Region.noSelect l.toArray = true) (hs : Region.sinkB md l.toArray n = true) (hc : Region.chainB md l.toArray n = true) (hn : n < l.toArray.size) (fs : List Nat)
  (hQ : ∀ c a w d v, Q (.panic c) (a.put d v) w → Q (.panic c) a w) : ∀ (qs : List Nat) (listed : Array Bool) (a : Act) (w : World), HeadInv md l.toArray n listed → permB md l.toArray n fs qs listed = true → S w →
  wpTake P l.toArray S (fun a' => wpForce P l.toArray S Q (pick fs l) a' w) (pick qs l) a → wpAnyS P md l.toArray Q S n (qs.length + fs.length) listed a w
 | [], listed, a, w, _, hB, _, h => by
  rw [List.length_nil, Nat.zero_add]
  exact wpAnyS_force fs listed a w hB h
 | q :: qs, listed, a, w, inv, hB, hS, h => by
  simp only [permB, Bool.and_eq_true, decide_eq_true_eq] at hB
  obtain ⟨⟨⟨hqn, hr⟩, hf⟩, hB'⟩ := hB
  have hr' : q ∈ Region.ready md l.toArray listed := by simpa using hr
  obtain ⟨_, o, ho, _⟩ := mem_ready.1 hr'
  have ho' : l[q]? = some o := by simpa using ho
  rw [pick_cons ho'] at h
  obtain ⟨v, hy, hK⟩ := h
  rw [List.length_cons, show qs.length + 1 + fs.length = (qs.length + fs.length) + 1 by omega]
  exact wpAnyS_first ho (Region.noSelect_spec hsel) (fun c a w h => hQ c a w _ _ h) hs hc hn hqn _ listed a w inv (Region.free_spec ho hf) hr' hy hS
   (wpAnyS_permP hsel hs hc hn fs hQ qs _ _ w (inv.set hr' hqn) hB' hS hK)
/-- The region: qs are taken first, fs are forced; what panics does not hang on the temporaries. -/
theorem wp_region_permP {id : Nat} {a : Act} {w : World} {l : List Oper} (qs fs : List Nat) (hm : P.follows .mixedOrders = true)
  (hB : (Region.noSelect l.toArray && Region.sinkB .any l.toArray (l.length - 1) && Region.chainB .any l.toArray (l.length - 1) && decide (0 < l.length) && decide (qs.length + fs.length = l.length) && permB .any l.toArray (l.length - 1) fs qs (Array.replicate l.toArray.size false)) = true)
  (S : World → Prop) (hS : S w.drew) (hQ : ∀ c a w d v, Q (.panic c) (a.put d v) w → Q (.panic c) a w) (h : wpTake P l.toArray S (fun a' => wpForce P l.toArray S Q (pick fs l) a' w.drew) (pick qs l) a) : (Code.region id l.toArray true).wp P Q a w := by
 simp only [Bool.and_eq_true, decide_eq_true_eq] at hB
 obtain ⟨⟨⟨⟨⟨hsel, hs⟩, hc⟩, hl⟩, hlen⟩, hp⟩ := hB
 refine wp_region_any hm (wpAny_of_S (n := l.length - 1) (S := S) _ _ _ _ ?_)
 have inv0 : HeadInv .any l.toArray (l.length - 1) (Array.replicate l.toArray.size false) :=
  ⟨by simp, fun j oj _ hl => (by rw [getD_replicate_false] at hl; cases hl), fun t _ ht => getD_in (by simpa using ht) (getD_replicate_false _ _)⟩
 have := wpAnyS_permP (md := .any) hsel hs hc (by simp; omega) fs hQ qs _ a w.drew inv0 hp hS h
 rw [hlen] at this
 simpa using this
theorem ft_one {l : List Oper} {i : Nat} {o : Oper} {R : Act → World → Prop} {a : Act} {w : World} (hi : l[i]? = some o) (h : ∀ K : Act → World → Prop, Shut (∀ a' w', S w' → R a' w' → K a' w') → if Region.wanted o (yielded ops a.tmps) = true then Oper.wp P o a w K Q else K (a.put o.dst undef) w) : wpOne P ops S Q l i R a w := by
 unfold wpOne
 rw [hi]
 exact h
/-- A call that is forced. -/
theorem step_callP {o : Oper} {a : Act} {w : World} {K : Act → World → Prop} {E : Prop} {f : FuncId} {args : Array Value} {R : Ending → World → Prop} (hw : Region.wanted o (yielded ops a.tmps) = true)
  (hr : (execOp a.eval o).run P w = .ok (.enter f args) w) (hc : Calls P f args w R) (hR : ∀ w', ¬ R .outgrown w') (hK : ∀ v w', R (.returned v) w' → K (a.put o.dst v) w') (hP : ∀ c w', R (.panicked c) w' → Q (.panic c) a w') :
  if Region.wanted o (yielded ops a.tmps) = true then Oper.wp P o a w K Q else E := by
 rw [if_pos hw]
 unfold Oper.wp
 rw [hr, Oper.upon_enter]
 refine hc.mono ?_
 intro e w' h
 cases e with
 | returned v => exact hK v w' h
 | panicked c => exact hP c w' h
 | outgrown => exact absurd h (hR w')
/-! ### three at once -/
inductive FQ where
 | last (i : Nat)
 | one (i : Nat) (t : FQ)
 | two (i : Nat) (t : FQ) (j : Nat) (u : FQ)
 | three (i : Nat) (t : FQ) (j : Nat) (u : FQ) (k : Nat) (v : FQ)
def FQ.len : FQ → Nat
 | .last _ => 1
 | .one _ t => t.len + 1
 | .two _ t _ _ => t.len + 1
 | .three _ t _ _ _ _ => t.len + 1
def wpTreeQ (P : Program) (ops : Array Oper) (S : World → Prop) (Q : Exit → Act → World → Prop) (l : List Oper) : FQ → Act → World → Prop
 | .last i, a, w => match l[i]? with | some o => wpList P ops Q [o] a w | none => False
 | .one i t, a, w => wpOne P ops S Q l i (wpTreeQ P ops S Q l t) a w
 | .two i t j u, a, w => wpOne P ops S Q l i (wpTreeQ P ops S Q l t) a w ∧ wpOne P ops S Q l j (wpTreeQ P ops S Q l u) a w
 | .three i t j u k v, a, w => wpOne P ops S Q l i (wpTreeQ P ops S Q l t) a w ∧ wpOne P ops S Q l j (wpTreeQ P ops S Q l u) a w ∧ wpOne P ops S Q l k (wpTreeQ P ops S Q l v) a w
def treeQB (md : Region.Mode) (ops : Array Oper) (n : Nat) : FQ → Array Bool → Bool
 | .last i, listed => decide (Region.ready md ops listed = [i]) && decide (i = n) && (Region.ready md ops (listed.setIfInBounds i true)).isEmpty
 | .one i t, listed => decide (Region.ready md ops listed = [i]) && decide (i < n) && treeQB md ops n t (listed.setIfInBounds i true)
 | .two i t j u, listed => decide (Region.ready md ops listed = [i, j]) && decide (i < n) && decide (j < n) && decide (t.len = u.len) && treeQB md ops n t (listed.setIfInBounds i true) && treeQB md ops n u (listed.setIfInBounds j true)
 | .three i t j u k v, listed => decide (Region.ready md ops listed = [i, j, k]) && decide (i < n) && decide (j < n) && decide (k < n) && decide (t.len = u.len) && decide (t.len = v.len) && treeQB md ops n t (listed.setIfInBounds i true) && treeQB md ops n u (listed.setIfInBounds j true) && treeQB md ops n v (listed.setIfInBounds k true)
def permQB (md : Region.Mode) (ops : Array Oper) (n : Nat) (t : FQ) : List Nat → Array Bool → Bool
 | [], listed => treeQB md ops n t listed
 | q :: qs, listed => decide (q < n) && (Region.ready md ops listed).contains q && Region.free md ops listed q && permQB md ops n t qs (listed.setIfInBounds q true)
theorem wpAnyS_treeQ {l : List Oper} {n : Nat} : ∀ (t : FQ) (listed : Array Bool) (a : Act) (w : World), treeQB md l.toArray n t listed = true → wpTreeQ P l.toArray S Q l t a w → wpAnyS P md l.toArray Q S n t.len listed a w
 | .last i, listed, a, w, hB, h => by
  simp only [treeQB, Bool.and_eq_true, decide_eq_true_eq] at hB
  obtain ⟨⟨hr, rfl⟩, he⟩ := hB
  obtain ⟨o, ho, ho'⟩ := ready_some (md := md) (l := l) (listed := listed) (i := i) (by rw [hr]; simp)
  simp only [wpTreeQ, ho'] at h
  refine ⟨by rw [hr]; simp, fun j hj => ?_⟩
  rw [hr] at hj
  obtain rfl : j = i := by simpa using hj
  have hw : wpOp P l.toArray Q j (wpList P l.toArray Q []) a w := by unfold wpOp; simp only [ho]; exact h
  exact wpOp_mono (fun a' w' h' => ⟨.inl rfl, by simpa using he, h'⟩) hw
 | .one i t, listed, a, w, hB, h => by
  simp only [treeQB, Bool.and_eq_true, decide_eq_true_eq] at hB
  obtain ⟨⟨hr, hin⟩, hB'⟩ := hB
  refine ⟨by rw [hr]; simp, fun j hj => ?_⟩
  have hj' := hj
  rw [hr] at hj
  obtain rfl : j = i := by simpa using hj
  exact wpAnyS_one hj' h (fun a' w' hW => wpAnyS_treeQ t _ a' w' hB' hW)
 | .two i t j u, listed, a, w, hB, h => by
  simp only [treeQB, Bool.and_eq_true, decide_eq_true_eq] at hB
  obtain ⟨⟨⟨⟨⟨hr, hin⟩, hjn⟩, hl⟩, hB1⟩, hB2⟩ := hB
  refine ⟨by rw [hr]; simp, fun k hk => ?_⟩
  have hk' := hk
  rw [hr] at hk
  simp only [List.mem_cons, List.not_mem_nil, or_false] at hk
  rcases hk with rfl | rfl
  ·exact wpAnyS_one hk' h.1 (fun a' w' hW => wpAnyS_treeQ t _ a' w' hB1 hW)
  ·refine wpAnyS_one hk' h.2 (fun a' w' hW => ?_)
   have := wpAnyS_treeQ u _ a' w' hB2 hW
   rw [← hl] at this
   exact this
 | .three i t j u k v, listed, a, w, hB, h => by
  simp only [treeQB, Bool.and_eq_true, decide_eq_true_eq] at hB
  obtain ⟨⟨⟨⟨⟨⟨⟨⟨hr, hin⟩, hjn⟩, hkn⟩, hl1⟩, hl2⟩, hB1⟩, hB2⟩, hB3⟩ := hB
  refine ⟨by rw [hr]; simp, fun m hm => ?_⟩
  have hm' := hm
  rw [hr] at hm
  simp only [List.mem_cons, List.not_mem_nil, or_false] at hm
  rcases hm with rfl | rfl | rfl
  ·exact wpAnyS_one hm' h.1 (fun a' w' hW => wpAnyS_treeQ t _ a' w' hB1 hW)
  ·refine wpAnyS_one hm' h.2.1 (fun a' w' hW => ?_)
   have := wpAnyS_treeQ u _ a' w' hB2 hW
   rw [← hl1] at this
   exact this
  ·refine wpAnyS_one hm' h.2.2 (fun a' w' hW => ?_)
   have := wpAnyS_treeQ v _ a' w' hB3 hW
   rw [← hl2] at this
   exact this
theorem wpAnyS_permQ {l : List Oper} {n : Nat} (hsel : Region.noSelect l.toArray = true) (hs : Region.sinkB md l.toArray n = true) (hc : Region.chainB md l.toArray n = true) (hn : n < l.toArray.size) (t : FQ)
  (hQ : ∀ c a w d v, Q (.panic c) (a.put d v) w → Q (.panic c) a w) : ∀ (qs : List Nat) (listed : Array Bool) (a : Act) (w : World), HeadInv md l.toArray n listed → permQB md l.toArray n t qs listed = true → S w →
  wpTake P l.toArray S (fun a' => wpTreeQ P l.toArray S Q l t a' w) (pick qs l) a → wpAnyS P md l.toArray Q S n (qs.length + t.len) listed a w
 | [], listed, a, w, _, hB, _, h => by
  rw [List.length_nil, Nat.zero_add]
  exact wpAnyS_treeQ t listed a w hB h
 | q :: qs, listed, a, w, inv, hB, hS, h => by
  simp only [permQB, Bool.and_eq_true, decide_eq_true_eq] at hB
  obtain ⟨⟨⟨hqn, hr⟩, hf⟩, hB'⟩ := hB
  have hr' : q ∈ Region.ready md l.toArray listed := by simpa using hr
  obtain ⟨_, o, ho, _⟩ := mem_ready.1 hr'
  have ho' : l[q]? = some o := by simpa using ho
  rw [pick_cons ho'] at h
  obtain ⟨v, hy, hK⟩ := h
  rw [List.length_cons, show qs.length + 1 + t.len = (qs.length + t.len) + 1 by omega]
  exact wpAnyS_first ho (Region.noSelect_spec hsel) (fun c a w h => hQ c a w _ _ h) hs hc hn hqn _ listed a w inv (Region.free_spec ho hf) hr' hy hS
   (wpAnyS_permQ hsel hs hc hn t hQ qs _ _ w (inv.set hr' hqn) hB' hS hK)
theorem wp_region_treeQ {id : Nat} {a : Act} {w : World} {l : List Oper} (qs : List Nat) (t : FQ) (hm : P.follows .mixedOrders = true)
  (hB : (Region.noSelect l.toArray && Region.sinkB .any l.toArray (l.length - 1) && Region.chainB .any l.toArray (l.length - 1) && decide (0 < l.length) && decide (qs.length + t.len = l.length) && permQB .any l.toArray (l.length - 1) t qs (Array.replicate l.toArray.size false)) = true)
  (S : World → Prop) (hS : S w.drew) (hQ : ∀ c a w d v, Q (.panic c) (a.put d v) w → Q (.panic c) a w) (h : wpTake P l.toArray S (fun a' => wpTreeQ P l.toArray S Q l t a' w.drew) (pick qs l) a) : (Code.region id l.toArray true).wp P Q a w := by
 simp only [Bool.and_eq_true, decide_eq_true_eq] at hB
 obtain ⟨⟨⟨⟨⟨hsel, hs⟩, hc⟩, hl⟩, hlen⟩, hp⟩ := hB
 refine wp_region_any hm (wpAny_of_S (n := l.length - 1) (S := S) _ _ _ _ ?_)
 have inv0 : HeadInv .any l.toArray (l.length - 1) (Array.replicate l.toArray.size false) :=
  ⟨by simp, fun j oj _ hl => (by rw [getD_replicate_false] at hl; cases hl), fun t _ ht => getD_in (by simpa using ht) (getD_replicate_false _ _)⟩
 have := wpAnyS_permQ (md := .any) hsel hs hc (by simp; omega) t hQ qs _ a w.drew inv0 hp hS h
 rw [hlen] at this
 simpa using this
theorem ft_lastQ {l : List Oper} {i : Nat} {o : Oper} {a : Act} {w : World} (hi : l[i]? = some o) (h : wpList P ops Q [o] a w) : wpTreeQ P ops S Q l (.last i) a w := by
 unfold wpTreeQ
 rw [hi]
 exact h
end
end Go.Proofs.Ytgpfjcogaheopaa
