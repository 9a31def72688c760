/- A region that draws its order, whose last operation waits for all others (a store at its end): operations that only yield are taken first, in an order that the prover names, under a predicate S on the world; the others are forced; S need not hold behind the last one. -/
import Derived.Test.YtgpfjcogaheopaaKit
import Derived.Deep.RegionHeld3
set_option linter.all false
namespace Go.Proofs.Ytgpfjcogaheopaa
open Go.RowKit
section
variable {P : Program} {ops : Array Oper} {Q : Exit → Act → World → Prop} {md : Region.Mode} {S : World → Prop}
/-- Whatever order is picked; S holds behind every operation but number n. -/
def wpAnyS (P : Program) (md : Region.Mode) (ops : Array Oper) (Q : Exit → Act → World → Prop) (S : World → Prop) (n : Nat) : Nat → Array Bool → Act → World → Prop
 | 0, listed, a, w => Region.ready md ops listed = [] ∧ Q .normal a w
 | f + 1, listed, a, w => Region.ready md ops listed ≠ [] ∧ ∀ i ∈ Region.ready md ops listed, wpOp P ops Q i (fun a' w' => (i = n ∨ S w') ∧ wpAnyS P md ops Q S n f (listed.setIfInBounds i true) a' w') a w
theorem wpAny_of_S {n : Nat} : ∀ (f : Nat) (listed : Array Bool) (a : Act) (w : World), wpAnyS P md ops Q S n f listed a w → wpAny P md ops Q f listed a w
 | 0, _, _, _, h => h
 | f + 1, _, _, _, h => ⟨fun h0 => absurd h0 h.1, fun i hi => wpOp_mono (fun a' w' h' => wpAny_of_S f _ a' w' h'.2) (h.2 i hi)⟩
theorem wpAnyS_first {n i : Nat} {oi : Oper} {v : Value} (hi : ops[i]? = some oi) (hsel : ∀ (j : Nat) (o : Oper) cs b, ops[j]? = some o → o.op ≠ .select cs b)
  (hQ : ∀ c a w, Q (.panic c) (a.put oi.dst v) w → Q (.panic c) a w) (hs : Region.sinkB md ops n = true) (hc : Region.chainB md ops n = true) (hn : n < ops.size) (hin : i < n) :
  ∀ (f : Nat) (listed : Array Bool) (a : Act) (w : World), HeadInv md ops n listed →
   (∀ j oj, ops[j]? = some oj → j ≠ i → listed.getD j true = false → (∀ e ∈ oj.after, Region.binds md e = true → e.on ≠ i) → oi.apart ops oj = true) →
   i ∈ Region.ready md ops listed → YieldsIf P ops S oi v a → S w →
   wpAnyS P md ops Q S n f (listed.setIfInBounds i true) (a.put oi.dst v) w → wpAnyS P md ops Q S n (f + 1) listed a w := by
 intro f
 induction f with
 | zero =>
  intro listed a w inv _ hr hy hS H
  refine ⟨fun h => (by rw [h] at hr; cases hr), fun j hj => ?_⟩
  by_cases hji : j = i
  ·subst hji; exact hy.wpOp hi hS ⟨.inr hS, H⟩
  ·have := ready_mono hj hji
   rw [H.1] at this
   cases this
 | succ f ih =>
  intro listed a w inv hfree hr hy hS H
  have hun := (mem_ready.1 hr).1
  refine ⟨fun h => (by rw [h] at hr; cases hr), fun j hj => ?_⟩
  by_cases hji : j = i
  ·subst hji; exact hy.wpOp hi hS ⟨.inr hS, H⟩
  ·have hjn : j < n := by
    rcases Nat.lt_or_ge j n with h | h
    ·exact h
    ·exact absurd hj (tail_waits hs hc hn inv _ i rfl hin hun j h)
   have h1 := H.2 j (ready_mono hj hji)
   obtain ⟨hjun, oj, hoj, hall⟩ := mem_ready.1 hj
   have hnot : ∀ e ∈ oj.after, Region.binds md e = true → e.on ≠ i := fun e he hb heq => by
    have h1 := hall e he hb
    rw [heq, getD_both hun] at h1
    cases h1
   have h2 := wpOp_putIf hoj (hfree j oj hoj hji hjun hnot) (fun cs b => hsel i oi cs b hi) (fun cs b => hsel j oj cs b hoj) hQ hy h1
   have hfree' : ∀ k ok, ops[k]? = some ok → k ≠ i → (listed.setIfInBounds j true).getD k true = false →
     (∀ e ∈ ok.after, Region.binds md e = true → e.on ≠ i) → oi.apart ops ok = true := fun k ok hk hki hun hno => by
    refine hfree k ok hk hki ?_ hno
    by_cases hjk : j = k
    ·subst hjk; exact hjun
    ·rw [getD_set_ne true hjk] at hun; exact hun
   refine wpOp_mono (fun a' w' h3 => ?_) h2
   have hS' : S w' := h3.2.1.elim (fun e => absurd e (by omega)) id
   refine ⟨.inr hS', ih (listed.setIfInBounds j true) a' w' (inv.set hj hjn) hfree' (ready_mono hr (Ne.symm hji)) h3.1 hS' ?_⟩
   rw [Array.setIfInBounds_comm _ _ hji]
   exact h3.2.2
def pick : List Nat → List Oper → List Oper
 | [], _ => []
 | i :: is, l => match l[i]? with | some o => o :: pick is l | none => pick is l
def wpTake (P : Program) (ops : Array Oper) (S : World → Prop) (R : Act → Prop) : List Oper → Act → Prop
 | [], a => R a
 | o :: l, a => ∃ v, YieldsIf P ops S o v a ∧ wpTake P ops S R l (a.put o.dst v)
def wpForce (P : Program) (ops : Array Oper) (S : World → Prop) (Q : Exit → Act → World → Prop) : List Oper → Act → World → Prop
 | [], a, w => Q .normal a w
 | [o], a, w => wpList P ops Q [o] a w
 | o :: p :: l, a, w => ∀ K : Act → World → Prop, Shut (∀ a' w', S w' → wpForce P ops S Q (p :: l) a' w' → K a' w') → if Region.wanted o (yielded ops a.tmps) = true then Oper.wp P o a w K Q else K (a.put o.dst undef) w
/-- The check, for the kernel: fs come in this order by force; the last one is number n. -/
def forceB (md : Region.Mode) (ops : Array Oper) (n : Nat) : List Nat → Array Bool → Bool
 | [], _ => false
 | f :: fs, listed => decide (Region.ready md ops listed = [f]) && (match fs with
  | [] => decide (f = n) && (Region.ready md ops (listed.setIfInBounds f true)).isEmpty
  | _ :: _ => decide (f < n) && forceB md ops n fs (listed.setIfInBounds f true))
/-- qs may be taken in this order, then fs come. -/
def permB (md : Region.Mode) (ops : Array Oper) (n : Nat) (fs : List Nat) : List Nat → Array Bool → Bool
 | [], listed => forceB md ops n fs listed
 | q :: qs, listed => decide (q < n) && (Region.ready md ops listed).contains q && Region.free md ops listed q && permB md ops n fs qs (listed.setIfInBounds q true)
theorem pick_cons {l : List Oper} {i : Nat} {o : Oper} {is : List Nat} (h : l[i]? = some o) : pick (i :: is) l = o :: pick is l := by
 simp only [pick, h]
theorem forceB_head {n f : Nat} {fs : List Nat} {listed : Array Bool} {l : List Oper} (h : forceB md l.toArray n (f :: fs) listed = true) : Region.ready md l.toArray listed = [f] ∧ ∃ o, l.toArray[f]? = some o ∧ l[f]? = some o := by
 simp only [forceB, Bool.and_eq_true, decide_eq_true_eq] at h
 have hm : f ∈ Region.ready md l.toArray listed := by rw [h.1]; simp
 obtain ⟨_, o, ho, _⟩ := mem_ready.1 hm
 exact ⟨h.1, o, ho, by simpa using ho⟩
theorem wpAnyS_force {l : List Oper} {n : Nat} : ∀ (fs : List Nat) (listed : Array Bool) (a : Act) (w : World), forceB md l.toArray n fs listed = true → wpForce P l.toArray S Q (pick fs l) a w → wpAnyS P md l.toArray Q S n fs.length listed a w
 | [], _, _, _, hB, _ => by simp [forceB] at hB
 | [f], listed, a, w, hB, h => by
  obtain ⟨hr, o, ho, ho'⟩ := forceB_head hB
  simp only [forceB, Bool.and_eq_true, decide_eq_true_eq] at hB
  obtain ⟨_, rfl, he⟩ := hB
  rw [pick_cons ho'] at h
  refine ⟨by rw [hr]; simp, fun i hi => ?_⟩
  rw [hr] at hi
  obtain rfl : i = f := by simpa using hi
  have hw : wpOp P l.toArray Q i (wpList P l.toArray Q []) a w := by unfold wpOp; simp only [ho]; exact h
  exact wpOp_mono (fun a' w' h' => ⟨.inl rfl, by simpa using he, h'⟩) hw
 | f :: g :: fs, listed, a, w, hB, h => by
  obtain ⟨hr, o, ho, ho'⟩ := forceB_head hB
  unfold forceB at hB
  simp only [Bool.and_eq_true, decide_eq_true_eq] at hB
  obtain ⟨_, hfn, hB'⟩ := hB
  obtain ⟨_, p, _, hp⟩ := forceB_head hB'
  rw [pick_cons ho', pick_cons hp] at h
  refine ⟨by rw [hr]; simp, fun i hi => ?_⟩
  rw [hr] at hi
  obtain rfl : i = f := by simpa using hi
  refine wpOp_step ho fun K' hK => h K' fun a' w' hS hW => hK a' w' ⟨.inr hS, wpAnyS_force (g :: fs) _ a' w' hB' (by rw [pick_cons hp]; exact hW)⟩
theorem wpAnyS_perm {l : List Oper} {n : Nat} (hsel : Region.noSelect l.toArray = true) (hs : Region.sinkB md l.toArray n = true) (hc : Region.chainB md l.toArray n = true) (hn : n < l.toArray.size) (fs : List Nat)
  (hQ : ∀ c a w, ¬ Q (.panic c) a w) : ∀ (qs : List Nat) (listed : Array Bool) (a : Act) (w : World), HeadInv md l.toArray n listed → permB md l.toArray n fs qs listed = true → S w →
  wpTake P l.toArray S (fun a' => wpForce P l.toArray S Q (pick fs l) a' w) (pick qs l) a → wpAnyS P md l.toArray Q S n (qs.length + fs.length) listed a w
 | [], listed, a, w, _, hB, _, h => by
  rw [List.length_nil, Nat.zero_add]
  exact wpAnyS_force fs listed a w hB h
 | q :: qs, listed, a, w, inv, hB, hS, h => by
  simp only [permB, Bool.and_eq_true, decide_eq_true_eq] at hB
  obtain ⟨⟨⟨hqn, hr⟩, hf⟩, hB'⟩ := hB
  have hr' : q ∈ Region.ready md l.toArray listed := by simpa using hr
  obtain ⟨_, o, ho, _⟩ := mem_ready.1 hr'
  have ho' : l[q]? = some o := by simpa using ho
  rw [pick_cons ho'] at h
  obtain ⟨v, hy, hK⟩ := h
  rw [List.length_cons, show qs.length + 1 + fs.length = (qs.length + fs.length) + 1 by omega]
  exact wpAnyS_first ho (Region.noSelect_spec hsel) (fun c a w h => absurd h (hQ c _ w)) hs hc hn hqn _ listed a w inv (Region.free_spec ho hf) hr' hy hS
   (wpAnyS_perm hsel hs hc hn fs hQ qs _ _ w (inv.set hr' hqn) hB' hS hK)
/-- The region: qs are taken first, fs are forced. -/
theorem wp_region_perm {id : Nat} {a : Act} {w : World} {l : List Oper} (qs fs : List Nat) (hm : P.follows .mixedOrders = true)
  (hB : (Region.noSelect l.toArray && Region.sinkB .any l.toArray (l.length - 1) && Region.chainB .any l.toArray (l.length - 1) && decide (0 < l.length) && decide (qs.length + fs.length = l.length) && permB .any l.toArray (l.length - 1) fs qs (Array.replicate l.toArray.size false)) = true)
  (S : World → Prop) (hS : S w.drew) (h : wpTake P l.toArray S (fun a' => wpForce P l.toArray S (NoPanic Q) (pick fs l) a' w.drew) (pick qs l) a) : (Code.region id l.toArray true).wp P Q a w := by
 simp only [Bool.and_eq_true, decide_eq_true_eq] at hB
 obtain ⟨⟨⟨⟨⟨hsel, hs⟩, hc⟩, hl⟩, hlen⟩, hp⟩ := hB
 refine wp_region_noPanic (wp_region_any hm (wpAny_of_S (n := l.length - 1) (S := S) _ _ _ _ ?_))
 have inv0 : HeadInv .any l.toArray (l.length - 1) (Array.replicate l.toArray.size false) :=
  ⟨by simp, fun j oj _ hl => (by rw [getD_replicate_false] at hl; cases hl), fun t _ ht => getD_in (by simpa using ht) (getD_replicate_false _ _)⟩
 have := wpAnyS_perm (Q := NoPanic Q) (md := .any) hsel hs hc (by simp; omega) fs (fun c a w h => h) qs _ a w.drew inv0 hp hS h
 rw [hlen] at this
 simpa using this
theorem wpTake_cons {o : Oper} {l : List Oper} {a : Act} {R : Act → Prop} (v : Value) (hw : Region.wanted o (yielded ops a.tmps) = true) (hy : ∀ w, S w → (execOp a.eval o).run P w = .ok (.value v) w) (h : wpTake P ops S R l (a.put o.dst v)) : wpTake P ops S R (o :: l) a :=
 ⟨v, .inl ⟨hw, hy⟩, h⟩
theorem wpTake_nil {a : Act} {R : Act → Prop} (h : R a) : wpTake P ops S R [] a := h
theorem wpForce_cons {o p : Oper} {l : List Oper} {a : Act} {w : World} (h : ∀ K : Act → World → Prop, Shut (∀ a' w', S w' → wpForce P ops S Q (p :: l) a' w' → K a' w') → if Region.wanted o (yielded ops a.tmps) = true then Oper.wp P o a w K Q else K (a.put o.dst undef) w) : wpForce P ops S Q (o :: p :: l) a w := h
theorem wpForce_one {o : Oper} {a : Act} {w : World} (h : wpList P ops Q [o] a w) : wpForce P ops S Q [o] a w := h
/-- A step whose run is known. -/
theorem step_val {o : Oper} {a : Act} {w : World} {K : Act → World → Prop} {E : Prop} (v : Value) (w' : World) (hgd : o.guard = none) (hr : (execOp a.eval o).run P w = .ok (.value v) w') (h : K (a.put o.dst v) w') :
  if Region.wanted o (yielded ops a.tmps) = true then Oper.wp P o a w K Q else E := by
 rw [if_pos (by simp [Region.wanted, hgd])]
 unfold Oper.wp
 rw [hr]
 exact h
/-- A store, or what else yields nothing, whose run is known. -/
theorem step_skip {o : Oper} {a : Act} {w : World} {K : Act → World → Prop} {E : Prop} (w' : World) (hgd : o.guard = none) (hr : (execOp a.eval o).run P w = .ok .skip w') (h : K (a.put o.dst undef) w') :
  if Region.wanted o (yielded ops a.tmps) = true then Oper.wp P o a w K Q else E := by
 rw [if_pos (by simp [Region.wanted, hgd])]
 unfold Oper.wp
 rw [hr]
 exact h
end
end Go.Proofs.Ytgpfjcogaheopaa
