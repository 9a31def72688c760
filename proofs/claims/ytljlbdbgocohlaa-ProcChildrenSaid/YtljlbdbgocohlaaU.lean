/- Both tables, the program's and the document's; a step on both. -/
import Derived.Test.YtljlbdbgocohlaaS
namespace Go.Proofs.Ytljlbdbgocohlaa
open Go.RowKit Go.Maps

abbrev Kept := Nat → Obj → Prop
def none_ : Kept := fun _ _ => False
def lay (K : Kept) (k : Nat) (o : Obj) : Kept := fun k' o' => (k' = k ∧ o' = o) ∨ K k' o'
structure BothS (w0 w : World) (b b' : Nat) (S S' : Nat → Prop) (K : Kept) (st : PS) (r : RS) : Prop where
  tab : TabIs w b S st
  ref : RIs w b' S' r
  dis : ∀ k, S k → ¬ S' k
  new : ∀ k, S k → w0.heap.size ≤ k
  rnew : ∀ k, S' k → w0.heap.size ≤ k
  gr : w0.grownBy w none
  kp : ∀ k o, K k o → w.heap[k]? = some o ∧ ¬ S k ∧ ¬ S' k
def Both (w0 w : World) (b b' : Nat) (K : Kept) (st : PS) (r : RS) : Prop := ∃ S S', BothS w0 w b b' S S' K st r

section
variable {w0 w w' : World} {b b' : Nat} {K : Kept} {st st1 : PS} {r r1 : RS}
theorem Both.prog (h : Both w0 w b b' K st r) {f : Nat} {args : Array Value} {P : Ending → Prop} (hc : ∀ S, TabIs w b S st → Calls Try.prog f args w (fun e w' => P e ∧ TabTo w w' b S st1)) :
    Calls Try.prog f args w (fun e w' => P e ∧ Both w0 w' b b' K st1 r) := by
  obtain ⟨S, S', h⟩ := h
  refine (hc S h.tab).mono ?_
  rintro e w' ⟨hp, S1, hT, hS1, hC⟩
  refine ⟨hp, S1, S', hT, h.ref.chg hC (fun k hk hs => h.dis k hs hk), fun k hk hk' => ?_, fun k hk => ?_, h.rnew, ?_, fun k o hk => ?_⟩
  · rcases hS1 k hk with e | e
    · exact h.dis k e hk'
    · have := h.ref.lt hk'; omega
  · rcases hS1 k hk with e | e
    · exact h.new k e
    · exact Nat.le_trans h.gr.size e
  · exact ((Chg.of_grown h.gr (fun _ h => by cases h) : Chg S w0 w).trans hC (fun _ _ h => h)).grown (fun k hk hs => by have := h.new k hs; omega)
  · obtain ⟨h1, h2, h3⟩ := h.kp k o hk
    have hlt : k < w.heap.size := (Array.getElem?_eq_some_iff.1 h1).1
    refine ⟨(hC.block k hlt h2).trans h1, fun hs => ?_, h3⟩
    rcases hS1 k hs with e | e
    · exact h2 e
    · omega
theorem Both.doc (h : Both w0 w b b' K st r) {f : Nat} {args : Array Value} {P : Ending → Prop} (hc : ∀ S, RIs w b' S r → Calls Try.prog f args w (fun e w' => P e ∧ RTo w w' b' S r1)) :
    Calls Try.prog f args w (fun e w' => P e ∧ Both w0 w' b b' K st r1) := by
  obtain ⟨S, S', h⟩ := h
  refine (hc S' h.ref).mono ?_
  rintro e w' ⟨hp, S1, hT, hS1, hC⟩
  refine ⟨hp, S, S1, h.tab.chg hC (fun k hk hs => h.dis k hk hs), hT, fun k hk hk' => ?_, h.new, fun k hk => ?_, ?_, fun k o hk => ?_⟩
  · rcases hS1 k hk' with e | e
    · exact h.dis k hk e
    · have := h.tab.lt hk; omega
  · rcases hS1 k hk with e | e
    · exact h.rnew k e
    · exact Nat.le_trans h.gr.size e
  · exact ((Chg.of_grown h.gr (fun _ h => by cases h) : Chg S' w0 w).trans hC (fun _ _ h => h)).grown (fun k hk hs => by have := h.rnew k hs; omega)
  · obtain ⟨h1, h2, h3⟩ := h.kp k o hk
    have hlt : k < w.heap.size := (Array.getElem?_eq_some_iff.1 h1).1
    refine ⟨(hC.block k hlt h3).trans h1, h2, fun hs => ?_⟩
    rcases hS1 k hs with e | e
    · exact h3 e
    · omega
theorem Both.gr_ (h : Both w0 w b b' K st r) (hg : w.grownBy w' none) : Both w0 w' b b' K st r := by
  obtain ⟨S, S', h⟩ := h
  refine ⟨S, S', h.tab.gr hg, h.ref.gr hg, h.dis, h.new, h.rnew, only_trans h.gr hg, fun k o hk => ?_⟩
  obtain ⟨h1, h2, h3⟩ := h.kp k o hk
  exact ⟨(hg.block k (Array.getElem?_eq_some_iff.1 h1).1 (by simp)).trans h1, h2, h3⟩
theorem Both.lay_ (h : Both w0 w b b' K st r) (t : TypeId) (cs : Array Value) : Both w0 (w.alloc (.cells cs t)) b b' (lay K w.heap.size (.cells cs t)) st r := by
  have hg := only_alloc (only_refl w none) (.cells cs t)
  obtain ⟨S, S', h⟩ := h
  refine ⟨S, S', h.tab.gr hg, h.ref.gr hg, h.dis, h.new, h.rnew, only_trans h.gr hg, fun k o hk => ?_⟩
  rcases hk with ⟨rfl, rfl⟩ | hk
  · exact ⟨heap_alloc_new w _, fun hs => by have := h.tab.lt hs; omega, fun hs => by have := h.ref.lt hs; omega⟩
  · obtain ⟨h1, h2, h3⟩ := h.kp k o hk
    exact ⟨(hg.block k (Array.getElem?_eq_some_iff.1 h1).1 (by simp)).trans h1, h2, h3⟩
/-- A block that is new to both is kept, too. -/
theorem Both.also (h : Both w0 w b b' K st r) (hg : w.grownBy w' none) {k : Nat} {o : Obj} (hk : w.heap.size ≤ k) (ho : w'.heap[k]? = some o) : Both w0 w' b b' (lay K k o) st r := by
  obtain ⟨S, S', h⟩ := h
  refine ⟨S, S', h.tab.gr hg, h.ref.gr hg, h.dis, h.new, h.rnew, only_trans h.gr hg, fun k' o' hk' => ?_⟩
  rcases hk' with ⟨rfl, rfl⟩ | hk'
  · exact ⟨ho, fun hs => by have := h.tab.lt hs; omega, fun hs => by have := h.ref.lt hs; omega⟩
  · obtain ⟨h1, h2, h3⟩ := h.kp k' o' hk'
    exact ⟨(hg.block k' (Array.getElem?_eq_some_iff.1 h1).1 (by simp)).trans h1, h2, h3⟩
theorem Both.drop (h : Both w0 w b b' K st r) {K' : Kept} (hk : ∀ k o, K' k o → K k o) : Both w0 w b b' K' st r := by
  obtain ⟨S, S', h⟩ := h
  exact ⟨S, S', h.tab, h.ref, h.dis, h.new, h.rnew, h.gr, fun k o hc => h.kp k o (hk k o hc)⟩
theorem Both.kept (h : Both w0 w b b' K st r) {k : Nat} {t : TypeId} {cs : Array Value} (hk : K k (.cells cs t)) : Blk w k t cs := by
  obtain ⟨S, S', h⟩ := h
  exact (h.kp k _ hk).1
theorem Both.held (h : Both w0 w b b' K st r) {k : Nat} {o : Obj} (hk : K k o) : w.heap[k]? = some o := by
  obtain ⟨S, S', h⟩ := h
  exact (h.kp k _ hk).1
/-- A write into a block that is kept: what is kept of it is the new one. -/
theorem Both.write (h : Both w0 w b b' K st r) {k : Nat} {o : Obj} (hk : K k o) (hn : w0.heap.size ≤ k) {K' : Kept} {T : Nat → Prop} (hc : Chg T w w') (hT : ∀ i, T i → i = k) (hK : ∀ i o', K' i o' → (i = k ∧ w'.heap[k]? = some o') ∨ (i ≠ k ∧ K i o')) : Both w0 w' b b' K' st r := by
  obtain ⟨S, S', h⟩ := h
  obtain ⟨h1, h2, h3⟩ := h.kp k o hk
  refine ⟨S, S', h.tab.chg hc (fun i hi ht => h2 (hT i ht ▸ hi)), h.ref.chg hc (fun i hi ht => h3 (hT i ht ▸ hi)), h.dis, h.new, h.rnew, ((Chg.of_grown h.gr (fun _ h => by cases h) : Chg T w0 w).trans hc (fun _ _ h => h)).grown (fun i hi ht => by have := hT i ht; omega), fun i o' hi => ?_⟩
  rcases hK i o' hi with ⟨rfl, e⟩ | ⟨e1, e2⟩
  · exact ⟨e, h2, h3⟩
  · obtain ⟨g1, g2, g3⟩ := h.kp i o' e2
    exact ⟨(hc.block i (Array.getElem?_eq_some_iff.1 g1).1 (fun ht => e1 (hT i ht))).trans g1, g2, g3⟩
theorem Both.grown (h : Both w0 w b b' K st r) : w0.grownBy w none := by
  obtain ⟨S, S', h⟩ := h
  exact h.gr
theorem Both.at (h : Both w0 w b b' K st r) : ∃ v mb, TabAt w b v mb st := by
  obtain ⟨S, S', h⟩ := h
  obtain ⟨v, mb, h, _⟩ := h.tab
  exact ⟨v, mb, h⟩
theorem Both.rat (h : Both w0 w b b' K st r) : ∃ v u, RAt w b' v u r := by
  obtain ⟨S, S', h⟩ := h
  obtain ⟨v, u, h, _⟩ := h.ref
  exact ⟨v, u, h⟩
end

end Go.Proofs.Ytljlbdbgocohlaa
