/- A range over a pattern's parts: the law, for whatever loop. -/
import Derived.Test.YtphjafidencdeaaG
import Derived.RangeFuncMany
namespace Go.Proofs.Ytphjafidencdeaa
open Go.RowKit Go.Shelf
attribute [local go_sem] Oper.semAt_some
set_option maxRecDepth 100000

/-- The block of p, of the deferred calls, of the loop's record lie as they lay. -/
def KeepR (pb D : Nat) (A B : World) : Prop := B.heap[pb]? = A.heap[pb]? ∧ B.heap[D]? = A.heap[D]? ∧ B.heap[D + 1]? = A.heap[D + 1]?
def rPost (pb D : Nat) (I Ix : List Pt → World → Prop) (xs : List Pt) (W : World) : Exit → Act → World → Prop
  | .normal, _, W' => KeepR pb D W W' ∧ I xs W'
  | .ret, _, W' => KeepR pb D W W' ∧ Ix xs W'
  | _, _, _ => False

set_option maxHeartbeats 1000000 in
theorem range_parts {n : Nat} {g : Operand} {pt : Tmp} {assign body : Code} {Q : Exit → Act → World → Prop} {a : Act} {w : World} {pb : Nat} {p : List UInt8} (hp : p.length ≤ 1000000)
    (hg : a.eval g = .func (.func 28) #[] #[.pointer (some ⟨pb, 0, none⟩)]) (hB : Blk w pb 9 #[sv p]) (I Ix : List Pt → World → Prop)
    (hI : ∀ pre A B k, I pre A → A.grownBy B (some k) → (k = pb ∨ k = w.heap.size ∨ k = w.heap.size + 1) → I pre B)
    (hIx : ∀ pre A B k, Ix pre A → A.grownBy B (some k) → (k = pb ∨ k = w.heap.size ∨ k = w.heap.size + 1) → Ix pre B) (h0 : I [] w)
    (hround : ∀ pre x W, I pre W → pre.length < 1000000 → w.heap.size + 1 < W.heap.size →
      assign.wpIn (Fence.wide.inRound (w.heap.size + 1)) (n - 1 - 1) Try.prog (Exit.then (fun a₁ W₁ => KeepR pb w.heap.size W W₁ ∧ ∀ W₂, W₁.grownBy W₂ (some (w.heap.size + 1)) → body.wpIn (Fence.wide.inRound (w.heap.size + 1)) (n - 1 - 1) Try.prog (rPost pb w.heap.size I Ix (pre ++ [x]) W₂) a₁ W₂) (fun _ _ _ => False))
        { tmps := a.tmps.setIfInBounds pt x.agg, defers := [] } W)
    (hdone : ∀ W, I (partsF p) W → W.heap[w.heap.size]? = some (.deferred (some [])) → Q .normal { a with defers := { target := .collected w.heap.size, args := #[] } :: a.defers } W)
    (hstop : ∀ pre W, pre <+: partsF p → Ix pre W → W.heap[w.heap.size]? = some (.deferred (some [])) → Code.ret.wpIn Fence.wide n Try.prog Q { a with defers := { target := .collected w.heap.size, args := #[] } :: a.defers } W) :
    (Code.rangeFunc g #[pt] assign body).wpIn Fence.wide n Try.prog Q a w := by
  refine wpIn_rangeFunc ?_
  intro fn hfn
  show ∃ l mark w₁ d w₁' f args w₂, (Instr.enterLoop fn a.tmps #[pt] assign body none).run Try.prog w = _ ∧ _
  obtain ⟨rec, hrec⟩ : ∃ rec : LoopState → Option Code → Loop, rec = fun st pe => { state := st, pending := pe, fn, tmps := a.tmps, params := #[pt], assign, body, defers := w.heap.size } := ⟨_, rfl⟩
  obtain ⟨W1, hW1⟩ : ∃ W1, (w.alloc (.deferred (some []))).alloc (.loop (rec .ready none)) = W1 := ⟨_, rfl⟩
  have hL1 : W1.heap[w.heap.size + 1]? = some (.loop (rec .ready none)) := by
    rw [← hW1]; have := World.alloc_heap_new (w.alloc (.deferred (some []))) (.loop (rec .ready none)); rwa [World.size_alloc] at this
  have hK1 : W1.heap[w.heap.size]? = some (.deferred (some [])) := by
    rw [← hW1]; exact (Below.heap_alloc _ _ _ (by simp)).trans (World.alloc_heap_new w _)
  have hgr : w.grownBy W1 none := by rw [← hW1]; exact only_alloc (only_alloc (only_refl w none) _) _
  have hI1 : I [] W1 := hI _ _ _ pb h0 (only_of_none hgr _) (.inl rfl)
  have hB1 : Blk W1 pb 9 #[sv p] := Blk.grown hB hgr (by simp)
  have hpl := hB.lt
  have eg : ∀ args w, (callFunc 28 args).run Try.prog w = .ok (.enter 28 args) w := enters_of Try.func28 (by kernel_rfl) rfl
  refine ⟨w.heap.size + 1, [{ target := .collected w.heap.size, args := #[] }], W1, { target := .fn (.func 28) #[.pointer (some ⟨pb, 0, none⟩)], args := #[.func (.yield (w.heap.size + 1)) #[] #[]] }, W1, 28,
    #[.func (.yield (w.heap.size + 1)) #[] #[]] ++ #[.pointer (some ⟨pb, 0, none⟩)], W1, ?_, ?_, ?_, ?_, fun h => absurd h (by simp [Fence.wide]), ?_⟩
  · rw [← hW1, hrec]; exact run_enterLoop_outer _ _ _ _ _
  · simp only [resolve, hg]
    simp [go_sem]
  · intro f' hf'; trivial
  · simp [invoke, go_sem, eg]
  · have hab : ∀ (X : List Pt → World → Prop), (∀ pre A B k, X pre A → A.grownBy B (some k) → (k = pb ∨ k = w.heap.size ∨ k = w.heap.size + 1) → X pre B) → ∀ (st : LoopState) (pe : Option Code) pre A B, (X pre A ∧ A.heap[w.heap.size + 1]? = some (.loop (rec st pe)) ∧ A.heap[w.heap.size]? = some (.deferred (some []))) → A.grownBy B (some pb) →
        (X pre B ∧ B.heap[w.heap.size + 1]? = some (.loop (rec st pe)) ∧ B.heap[w.heap.size]? = some (.deferred (some []))) := by
      intro X hX st pe pre A B h hg
      exact ⟨hX _ _ _ pb h.1 hg (.inl rfl), (hg.block _ (Array.getElem?_eq_some_iff.1 h.2.1).1 (by simp; omega)).trans h.2.1, (hg.block _ (Array.getElem?_eq_some_iff.1 h.2.2).1 (by simp; omega)).trans h.2.2⟩
    have hit := iter_any (n - 1) pb p (w.heap.size + 1) hp
      (fun pre W => I pre W ∧ W.heap[w.heap.size + 1]? = some (.loop (rec .ready none)) ∧ W.heap[w.heap.size]? = some (.deferred (some [])))
      (fun pre W => Ix pre W ∧ W.heap[w.heap.size + 1]? = some (.loop (rec .done (some .ret))) ∧ W.heap[w.heap.size]? = some (.deferred (some [])))
      W1 (fun pre A B h hg => hab I hI .ready none pre A B h hg) ?_ hB1 ⟨hI1, hL1, hK1⟩
    · refine hit.mono ?_
      rintro e W2 ⟨⟨v, rfl⟩, (⟨hi, hl, hk⟩ | ⟨pre, hpre, hi, hl, hk⟩)⟩
      · have hlt := (Array.getElem?_eq_some_iff.1 hl).1
        refine ⟨none, _, by have := run_endLoop (P := Try.prog) hl (by rw [hrec]; simp); rw [hrec] at this; exact this, ?_⟩
        exact hdone _ (hI _ _ _ (w.heap.size + 1) hi (grownBy_putObj' _ _ _) (.inr (.inr rfl))) ((World.putObj_heap_other (by omega)).trans hk)
      · refine ⟨some .ret, _, by have := run_endLoop (P := Try.prog) hl (by rw [hrec]; simp); rw [hrec] at this; exact this, ?_⟩
        exact hstop pre _ hpre (hIx _ _ _ (w.heap.size + 1) hi (grownBy_putObj' _ _ _) (.inr (.inr rfl))) ((World.putObj_heap_other (by omega)).trans hk)
    · rintro pre x W ⟨hi, hl, hk⟩ hlen
      have hlt : w.heap.size + 1 < W.heap.size := (Array.getElem?_eq_some_iff.1 hl).1
      have hy := run_yield (P := Try.prog) (args := #[x.agg]) hl (by rw [hrec]; rfl)
      have htm : (((rec .ready none).params.zip #[x.agg]).foldl (fun tmps (t, a) => tmps.setIfInBounds t a) (rec .ready none).tmps) = a.tmps.setIfInBounds pt x.agg := by rw [hrec]; simp
      rw [htm] at hy
      rw [hrec] at hy
      refine ⟨fn, _, assign, body, hy, roundIn_of_wpIn hfn (wpIn_mono (hround pre x W hi hlen hlt) ?_)⟩
      rintro e a1 W1' hq
      cases e with
      | normal =>
        obtain ⟨⟨k1, k2, k3⟩, hbody⟩ := hq
        have hl1 := k3.trans hl
        have hlt1 : w.heap.size + 1 < W1'.heap.size := (Array.getElem?_eq_some_iff.1 hl1).1
        refine ⟨_, run_beginRound hl1 (by rw [hrec]), ?_⟩
        have hgb : W1'.grownBy (W1'.putObj (w.heap.size + 1) (.loop { rec .ready none with state := .busy })) (some (w.heap.size + 1)) := grownBy_putObj' _ _ _
        have hl2 : (W1'.putObj (w.heap.size + 1) (.loop { rec .ready none with state := .busy })).heap[w.heap.size + 1]? = some (.loop { rec .ready none with state := .busy }) := World.putObj_heap_same hlt1
        refine wpIn_mono (hbody _ hgb) ?_
        have fin : ∀ (jump : Option Code) (W3 : World), KeepR pb w.heap.size (W1'.putObj (w.heap.size + 1) (.loop { rec .ready none with state := .busy })) W3 →
            (Instr.endRound (w.heap.size + 1) jump).run Try.prog W3 = .ok (.bool jump.isNone) (W3.putObj (w.heap.size + 1) (.loop (rec (if jump.isNone then .ready else .done) jump))) ∧
            (W3.putObj (w.heap.size + 1) (.loop (rec (if jump.isNone then .ready else .done) jump))).heap[w.heap.size + 1]? = some (.loop (rec (if jump.isNone then .ready else .done) jump)) ∧
            (W3.putObj (w.heap.size + 1) (.loop (rec (if jump.isNone then .ready else .done) jump))).heap[w.heap.size]? = some (.deferred (some [])) ∧
            (W3.putObj (w.heap.size + 1) (.loop (rec (if jump.isNone then .ready else .done) jump))).heap[pb]? = W.heap[pb]? := by
          intro jump W3 hk3
          have hl3 := hk3.2.2.trans hl2
          have := run_endRound (P := Try.prog) jump hl3
          rw [hrec] at this ⊢
          refine ⟨this, World.putObj_heap_same (Array.getElem?_eq_some_iff.1 hl3).1, ?_, ?_⟩
          · exact (World.putObj_heap_other (by omega)).trans (hk3.2.1.trans ((World.putObj_heap_other (by omega)).trans (k2.trans hk)))
          · exact (World.putObj_heap_other (by omega)).trans (hk3.1.trans ((World.putObj_heap_other (by omega)).trans k1))
        rintro e a3 W3 hpq
        cases e with
        | normal =>
          obtain ⟨hk3, hi3⟩ := hpq
          obtain ⟨hr, hl4, hk4, hp4⟩ := fin none W3 hk3
          exact ⟨_, _, hr, .inl ⟨rfl, ⟨hI _ _ _ (w.heap.size + 1) hi3 (grownBy_putObj' _ _ _) (.inr (.inr rfl)), hl4, hk4⟩, hp4⟩⟩
        | ret =>
          obtain ⟨hk3, hi3⟩ := hpq
          obtain ⟨hr, hl4, hk4, hp4⟩ := fin (some .ret) W3 hk3
          exact ⟨_, _, hr, .inr ⟨rfl, hIx _ _ _ (w.heap.size + 1) hi3 (grownBy_putObj' _ _ _) (.inr (.inr rfl)), hl4, hk4⟩⟩
        | exit id => exact hpq.elim
        | goto t => exact hpq.elim
        | panic ch => exact hpq.elim
        | outgrown => exact hpq.elim
      | exit id => exact hq.elim
      | goto t => exact hq.elim
      | ret => exact hq.elim
      | panic ch => exact hq.elim
      | outgrown => exact hq.elim

end Go.Proofs.Ytphjafidencdeaa
