/- A region that draws its order, two of whose forced operations may come in either order: a tree of orders in the place of XPerm's list. -/
import Derived.Test.YtgpfjcogaheopaaPerm
set_option linter.all false
namespace Go.Proofs.Ytgpfjcogaheopaa
open Go.RowKit
inductive FT where
 | last (i : Nat)
 | one (i : Nat) (t : FT)
 | two (i : Nat) (t : FT) (j : Nat) (u : FT)
def FT.len : FT → Nat
 | .last _ => 1
 | .one _ t => t.len + 1
 | .two _ t _ _ => t.len + 1
section
variable {P : Program} {ops : Array Oper} {Q : Exit → Act → World → Prop} {md : Region.Mode} {S : World → Prop}
def wpOne (P : Program) (ops : Array Oper) (S : World → Prop) (Q : Exit → Act → World → Prop) (l : List Oper) (i : Nat) (R : Act → World → Prop) (a : Act) (w : World) : Prop := match l[i]? with
 | some o => ∀ K : Act → World → Prop, Shut (∀ a' w', S w' → R a' w' → K a' w') → if Region.wanted o (yielded ops a.tmps) = true then Oper.wp P o a w K Q else K (a.put o.dst undef) w
 | none => False
def wpTree (P : Program) (ops : Array Oper) (S : World → Prop) (Q : Exit → Act → World → Prop) (l : List Oper) : FT → Act → World → Prop
 | .last i, a, w => match l[i]? with | some o => wpList P ops Q [o] a w | none => False
 | .one i t, a, w => wpOne P ops S Q l i (wpTree P ops S Q l t) a w
 | .two i t j u, a, w => wpOne P ops S Q l i (wpTree P ops S Q l t) a w ∧ wpOne P ops S Q l j (wpTree P ops S Q l u) a w
def treeB (md : Region.Mode) (ops : Array Oper) (n : Nat) : FT → Array Bool → Bool
 | .last i, listed => decide (Region.ready md ops listed = [i]) && decide (i = n) && (Region.ready md ops (listed.setIfInBounds i true)).isEmpty
 | .one i t, listed => decide (Region.ready md ops listed = [i]) && decide (i < n) && treeB md ops n t (listed.setIfInBounds i true)
 | .two i t j u, listed => decide (Region.ready md ops listed = [i, j]) && decide (i < n) && decide (j < n) && decide (t.len = u.len) && treeB md ops n t (listed.setIfInBounds i true) && treeB md ops n u (listed.setIfInBounds j true)
def permTB (md : Region.Mode) (ops : Array Oper) (n : Nat) (t : FT) : List Nat → Array Bool → Bool
 | [], listed => treeB md ops n t listed
 | q :: qs, listed => decide (q < n) && (Region.ready md ops listed).contains q && Region.free md ops listed q && permTB md ops n t qs (listed.setIfInBounds q true)
theorem ready_some {l : List Oper} {listed : Array Bool} {i : Nat} (h : i ∈ Region.ready md l.toArray listed) : ∃ o, l.toArray[i]? = some o ∧ l[i]? = some o := by
 obtain ⟨_, o, ho, _⟩ := mem_ready.1 h
 exact ⟨o, ho, by simpa using ho⟩
theorem wpAnyS_one {l : List Oper} {n i f : Nat} {listed : Array Bool} {a : Act} {w : World} {R : Act → World → Prop} (hi : i ∈ Region.ready md l.toArray listed) (h : wpOne P l.toArray S Q l i R a w) (ih : ∀ a' w', R a' w' → wpAnyS P md l.toArray Q S n f (listed.setIfInBounds i true) a' w') :
  wpOp P l.toArray Q i (fun a' w' => (i = n ∨ S w') ∧ wpAnyS P md l.toArray Q S n f (listed.setIfInBounds i true) a' w') a w := by
 obtain ⟨o, ho, ho'⟩ := ready_some hi
 unfold wpOne at h
 rw [ho'] at h
 exact wpOp_step ho fun K' hK => h K' fun a' w' hS hW => hK a' w' ⟨.inr hS, ih a' w' hW⟩
end
end Go.Proofs.Ytgpfjcogaheopaa
