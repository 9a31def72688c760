/- A region that draws its order, two of whose forced operations may come in either order: a tree of orders in the place of XPerm's list. -/
import Derived.Test.YtolmpejaakpikaaPerm
set_option linter.all false
namespace Go.Proofs.Ytolmpejaakpikaa
open Go.RowKit
inductive FT where
  | last (i : Nat)
  | one (i : Nat) (t : FT)
  | two (i : Nat) (t : FT) (j : Nat) (u : FT)
def FT.len : FT → Nat
  | .last _ => 1
  | .one _ t => t.len + 1
  | .two _ t _ _ => t.len + 1
section
variable {P : Program} {ops : Array Oper} {Q : Exit → Act → World → Prop} {md : Region.Mode} {S : World → Prop}
def wpOne (P : Program) (ops : Array Oper) (S : World → Prop) (Q : Exit → Act → World → Prop) (l : List Oper) (i : Nat) (R : Act → World → Prop) (a : Act) (w : World) : Prop := match l[i]? with
  | some o => ∀ K : Act → World → Prop, Shut (∀ a' w', S w' → R a' w' → K a' w') → if Region.wanted o (yielded ops a.tmps) = true then Oper.wp P o a w K Q else K (a.put o.dst undef) w
  | none => False
def wpTree (P : Program) (ops : Array Oper) (S : World → Prop) (Q : Exit → Act → World → Prop) (l : List Oper) : FT → Act → World → Prop
  | .last i, a, w => match l[i]? with | some o => wpList P ops Q [o] a w | none => False
  | .one i t, a, w => wpOne P ops S Q l i (wpTree P ops S Q l t) a w
  | .two i t j u, a, w => wpOne P ops S Q l i (wpTree P ops S Q l t) a w ∧ wpOne P ops S Q l j (wpTree P ops S Q l u) a w
def treeB (md : Region.Mode) (ops : Array Oper) (n : Nat) : FT → Array Bool → Bool
  | .last i, listed => decide (Region.ready md ops listed = [i]) && decide (i = n) && (Region.ready md ops (listed.setIfInBounds i true)).isEmpty
  | .one i t, listed => decide (Region.ready md ops listed = [i]) && decide (i < n) && treeB md ops n t (listed.setIfInBounds i true)
  | .two i t j u, listed => decide (Region.ready md ops listed = [i, j]) && decide (i < n) && decide (j < n) && decide (t.len = u.len) && treeB md ops n t (listed.setIfInBounds i true) && treeB md ops n u (listed.setIfInBounds j true)
def permTB (md : Region.Mode) (ops : Array Oper) (n : Nat) (t : FT) : List Nat → Array Bool → Bool
  | [], listed => treeB md ops n t listed
  | q :: qs, listed => decide (q < n) && (Region.ready md ops listed).contains q && Region.free md ops listed q && permTB md ops n t qs (listed.setIfInBounds q true)
theorem ready_some {l : List Oper} {listed : Array Bool} {i : Nat} (h : i ∈ Region.ready md l.toArray listed) : ∃ o, l.toArray[i]? = some o ∧ l[i]? = some o := by
  obtain ⟨_, o, ho, _⟩ := mem_ready.1 h
  exact ⟨o, ho, by simpa using ho⟩
theorem wpAnyS_one {l : List Oper} {n i f : Nat} {listed : Array Bool} {a : Act} {w : World} {R : Act → World → Prop} (hi : i ∈ Region.ready md l.toArray listed) (h : wpOne P l.toArray S Q l i R a w) (ih : ∀ a' w', R a' w' → wpAnyS P md l.toArray Q S n f (listed.setIfInBounds i true) a' w') :
    wpOp P l.toArray Q i (fun a' w' => (i = n ∨ S w') ∧ wpAnyS P md l.toArray Q S n f (listed.setIfInBounds i true) a' w') a w := by
  obtain ⟨o, ho, ho'⟩ := ready_some hi
  unfold wpOne at h
  rw [ho'] at h
  exact wpOp_step ho fun K' hK => h K' fun a' w' hS hW => hK a' w' ⟨.inr hS, ih a' w' hW⟩
theorem wpAnyS_tree {l : List Oper} {n : Nat} : ∀ (t : FT) (listed : Array Bool) (a : Act) (w : World), treeB md l.toArray n t listed = true → wpTree P l.toArray S Q l t a w → wpAnyS P md l.toArray Q S n t.len listed a w
  | .last i, listed, a, w, hB, h => by
    simp only [treeB, Bool.and_eq_true, decide_eq_true_eq] at hB
    obtain ⟨⟨hr, rfl⟩, he⟩ := hB
    obtain ⟨o, ho, ho'⟩ := ready_some (md := md) (l := l) (listed := listed) (i := i) (by rw [hr]; simp)
    simp only [wpTree, ho'] at h
    refine ⟨by rw [hr]; simp, fun j hj => ?_⟩
    rw [hr] at hj
    obtain rfl : j = i := by simpa using hj
    have hw : wpOp P l.toArray Q j (wpList P l.toArray Q []) a w := by unfold wpOp; simp only [ho]; exact h
    exact wpOp_mono (fun a' w' h' => ⟨.inl rfl, by simpa using he, h'⟩) hw
  | .one i t, listed, a, w, hB, h => by
    simp only [treeB, Bool.and_eq_true, decide_eq_true_eq] at hB
    obtain ⟨⟨hr, hin⟩, hB'⟩ := hB
    refine ⟨by rw [hr]; simp, fun j hj => ?_⟩
    have hj' := hj
    rw [hr] at hj
    obtain rfl : j = i := by simpa using hj
    exact wpAnyS_one hj' h (fun a' w' hW => wpAnyS_tree t _ a' w' hB' hW)
  | .two i t j u, listed, a, w, hB, h => by
    simp only [treeB, Bool.and_eq_true, decide_eq_true_eq] at hB
    obtain ⟨⟨⟨⟨⟨hr, hin⟩, hjn⟩, hl⟩, hB1⟩, hB2⟩ := hB
    refine ⟨by rw [hr]; simp, fun k hk => ?_⟩
    have hk' := hk
    rw [hr] at hk
    simp only [List.mem_cons, List.not_mem_nil, or_false] at hk
    rcases hk with rfl | rfl
    · exact wpAnyS_one hk' h.1 (fun a' w' hW => wpAnyS_tree t _ a' w' hB1 hW)
    · refine wpAnyS_one hk' h.2 (fun a' w' hW => ?_)
      have := wpAnyS_tree u _ a' w' hB2 hW
      rw [← hl] at this
      exact this
theorem wpAnyS_permT {l : List Oper} {n : Nat} (hsel : Region.noSelect l.toArray = true) (hs : Region.sinkB md l.toArray n = true) (hc : Region.chainB md l.toArray n = true) (hn : n < l.toArray.size) (t : FT)
    (hQ : ∀ c a w, ¬ Q (.panic c) a w) : ∀ (qs : List Nat) (listed : Array Bool) (a : Act) (w : World), HeadInv md l.toArray n listed → permTB md l.toArray n t qs listed = true → S w →
    wpTake P l.toArray S (fun a' => wpTree P l.toArray S Q l t a' w) (pick qs l) a → wpAnyS P md l.toArray Q S n (qs.length + t.len) listed a w
  | [], listed, a, w, _, hB, _, h => by
    rw [List.length_nil, Nat.zero_add]
    exact wpAnyS_tree t listed a w hB h
  | q :: qs, listed, a, w, inv, hB, hS, h => by
    simp only [permTB, Bool.and_eq_true, decide_eq_true_eq] at hB
    obtain ⟨⟨⟨hqn, hr⟩, hf⟩, hB'⟩ := hB
    have hr' : q ∈ Region.ready md l.toArray listed := by simpa using hr
    obtain ⟨_, o, ho, _⟩ := mem_ready.1 hr'
    have ho' : l[q]? = some o := by simpa using ho
    rw [pick_cons ho'] at h
    obtain ⟨v, hy, hK⟩ := h
    rw [List.length_cons, show qs.length + 1 + t.len = (qs.length + t.len) + 1 by omega]
    exact wpAnyS_first ho (Region.noSelect_spec hsel) (fun c a w h => absurd h (hQ c _ w)) hs hc hn hqn _ listed a w inv (Region.free_spec ho hf) hr' hy hS
      (wpAnyS_permT hsel hs hc hn t hQ qs _ _ w (inv.set hr' hqn) hB' hS hK)
theorem wp_region_tree {id : Nat} {a : Act} {w : World} {l : List Oper} (qs : List Nat) (t : FT) (hm : P.follows .mixedOrders = true)
    (hB : (Region.noSelect l.toArray && Region.sinkB .any l.toArray (l.length - 1) && Region.chainB .any l.toArray (l.length - 1) && decide (0 < l.length) && decide (qs.length + t.len = l.length) && permTB .any l.toArray (l.length - 1) t qs (Array.replicate l.toArray.size false)) = true)
    (S : World → Prop) (hS : S w.drew) (h : wpTake P l.toArray S (fun a' => wpTree P l.toArray S (NoPanic Q) l t a' w.drew) (pick qs l) a) : (Code.region id l.toArray true).wp P Q a w := by
  simp only [Bool.and_eq_true, decide_eq_true_eq] at hB
  obtain ⟨⟨⟨⟨⟨hsel, hs⟩, hc⟩, hl⟩, hlen⟩, hp⟩ := hB
  refine wp_region_noPanic (wp_region_any hm (wpAny_of_S (n := l.length - 1) (S := S) _ _ _ _ ?_))
  have inv0 : HeadInv .any l.toArray (l.length - 1) (Array.replicate l.toArray.size false) :=
    ⟨by simp, fun j oj _ hl => (by rw [getD_replicate_false] at hl; cases hl), fun t _ ht => getD_in (by simpa using ht) (getD_replicate_false _ _)⟩
  have := wpAnyS_permT (Q := NoPanic Q) (md := .any) hsel hs hc (by simp; omega) t (fun c a w h => h) qs _ a w.drew inv0 hp hS h
  rw [hlen] at this
  simpa using this
end
end Go.Proofs.Ytolmpejaakpikaa
