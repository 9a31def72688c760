/- The map of counts: what the known users are (U), and how many of each (f). -/
import Derived.Test.YtljlbdbgocohlaaOwn
import Derived.Maps.OwnSet
namespace Go.Proofs.Ytljlbdbgocohlaa
open Go.RowKit Go.Maps

theorem mlaw : Keyed Try.prog 3 := int_keyed Try.underlying3
theorem mzero (w : World) : (zeroValue 3).run Try.prog w = .ok (.int .i64 0) w := by kernel_rfl
def wfi (k : Int) : Prop := (Lit.int .i64 k).wf = true
theorem mkey {k : Int} (h : wfi k) : keyOf Try.prog 3 (.int .i64 k) = some (.int .i64 k) := keyOf_int_mk Try.underlying3 h

structure CtD (D : DataW Unit) (U : List Int) (f : Int → Int) : Prop where
  has : ∀ k, wfi k → Maps.has D (.int .i64 k) = U.contains k
  at_ : ∀ k, wfi k → D.atKey (.int .i64 k) (.lit (.int .i64 0)) = .lit (.int .i64 (f k))
  size : Maps.size D = U.length
def CtIs (w : World) (mb : Nat) (U : List Int) (f : Int → Int) : Prop := ∃ D : DataW Unit, w.ownsMap Try.prog 3 (plainElem Try.prog 3) mb U.length D ∧ CtD D U f
def learn (U : List Int) (k : Int) : List Int := if U.contains k then U else U ++ [k]
def upd (f : Int → Int) (k v : Int) : Int → Int := fun x => if x = k then v else f x

section
variable {w w' : World} {mb : Nat} {U : List Int} {f : Int → Int} {S : Nat → Prop}
theorem CtIs.lt (h : CtIs w mb U f) : mb < w.heap.size := by obtain ⟨D, h, _⟩ := h; exact h.lt
theorem CtIs.chg (h : CtIs w mb U f) (hc : Chg S w w') (hn : ¬ S mb) : CtIs w' mb U f := by
  obtain ⟨D, h, hD⟩ := h
  have hlt := h.lt
  obtain ⟨es, clock, hb, F, hs, e⟩ := h
  exact ⟨D, ⟨es, clock, (hc.block mb hlt hn).trans hb, F, hs, e⟩, hD⟩
theorem CtIs.notCells (h : CtIs w mb U f) {g : Nat} {cs : Array Value} {t : TypeId} {fz : Nat × Nat} (hg : w.heap[g]? = some (.cells cs t fz)) : g ≠ mb := by
  rintro rfl
  obtain ⟨D, ⟨es, clock, hb, _⟩, _⟩ := h
  rw [hb] at hg
  cases hg
theorem CtIs.made (w : World) : CtIs (w.alloc (.map #[] 0)) w.heap.size [] (fun _ => 0) :=
  ⟨.map [], World.ownsMap_made _ _ _ _, ⟨fun k _ => rfl, fun k _ => rfl, rfl⟩⟩
theorem tighten {D : DataW Unit} {n : Nat} (h : w.ownsMap Try.prog 3 (plainElem Try.prog 3) mb n D) : w.ownsMap Try.prog 3 (plainElem Try.prog 3) mb (Maps.size D) D := by
  obtain ⟨es, clock, hb, F, _, rfl⟩ := h
  have e1 : Maps.size (DataW.map ((es.toList.map (WideElems.rg Try.prog 3 (plainElem (H := Unit) Try.prog 3))).foldr DataW.insert [])) = es.size := by simp [Maps.size, length_sorted]
  exact ⟨es, clock, hb, F, by rw [e1]; exact Nat.le_refl _, rfl⟩
theorem CtD.put {D : DataW Unit} (h : CtD D U f) (ht : Tidy D) {k : Int} (hk : wfi k) (v : Int) : CtD (D.put (.int .i64 k) (.lit (.int .i64 v))) (learn U k) (upd f k v) := by
  have hkl : WideAt.IsKeyLit (Lit.int .i64 k) := mlaw.key (mkey hk)
  have hk' := h.has k hk
  refine ⟨fun x hx => ?_, fun x hx => ?_, ?_⟩
  · by_cases e : x = k
    · subst e
      rw [Maps.has_put_same ht.isMap hkl]
      unfold learn
      split <;> simp_all
    · rw [Maps.has_put_other (fun e' => e (by cases e'; rfl)), h.has x hx]
      unfold learn
      split
      · rfl
      · simp [e]
  · unfold upd
    by_cases e : x = k
    · subst e
      rw [if_pos rfl, Maps.atKey_put_same ht.isMap hkl]
    · rw [if_neg e, Maps.atKey_put_other (fun e' => e (by cases e'; rfl))]
      exact h.at_ x hx
  · rw [Maps.size_put ht, h.size, hk']
    unfold learn
    split <;> simp_all
theorem CtIs.put (h : CtIs w mb U f) {k : Int} (hk : wfi k) {v : Int} (hv : wfi v) (hn : U.length < 1000000) (t : TypeId) (ht : Try.prog.underlying t = some (.map 3 3)) :
    ∃ w', (Instr.mapUpdate t (.map (some mb)) (.int .i64 k) (.int .i64 v)).run Try.prog w = .ok () w' ∧ CtIs w' mb (learn U k) (upd f k v) ∧ w.grownBy w' (some mb) := by
  obtain ⟨D, h, hD⟩ := h
  obtain ⟨w', h1, h2, h3⟩ := h.update mlaw ht (by unfold maxLen; omega) (mkey hk) (plainElem_int Try.underlying3 hv)
  have hD' := hD.put (h.tidy mlaw) hk v
  have h2' := tighten h2
  rw [hD'.size] at h2'
  exact ⟨w', h1, ⟨_, h2', hD'⟩, h3⟩
theorem CtIs.look (h : CtIs w mb U f) {k : Int} (hk : wfi k) (t : TypeId) (ht : Try.prog.underlying t = some (.map 3 3)) : (Instr.lookup t (.map (some mb)) (.int .i64 k) false).run Try.prog w = .ok (.int .i64 (f k)) w := by
  obtain ⟨D, h, hD⟩ := h
  obtain ⟨c, h1, h2, _⟩ := h.lookup_int mlaw ht Try.underlying3 (mzero w) (mkey hk)
  rw [hD.at_ k hk] at h2
  cases h2
  exact h1
theorem CtIs.lookOk (h : CtIs w mb U f) {k : Int} (hk : wfi k) (t : TypeId) (ht : Try.prog.underlying t = some (.map 3 3)) : (Instr.lookup t (.map (some mb)) (.int .i64 k) true).run Try.prog w = .ok (.tuple #[.int .i64 (f k), .bool (U.contains k)]) w := by
  obtain ⟨D, h, hD⟩ := h
  obtain ⟨v, ps, h1, h2⟩ := h.look_ok mlaw ht (mzero w) (plainElem_int Try.underlying3 (by decide)) (mkey hk)
  obtain ⟨c, rfl, hc, _⟩ := plainElem_int_inv Try.underlying3 h2
  have hc' := congrArg Prod.fst hc
  simp only at hc'
  rw [hD.at_ k hk] at hc'
  cases hc'
  rw [h1, hD.has k hk]
theorem CtIs.len (h : CtIs w mb U f) (t ty : TypeId) (ht : Try.prog.underlying t = some (.map 3 3)) : (Builtin.len_ #[t] ty #[.map (some mb)]).run Try.prog w = .ok (.int .i64 U.length) w := by
  obtain ⟨D, h, hD⟩ := h
  rw [h.len ht ty, hD.size]
end

section
variable {w : World} {mb : Nat} {U : List Int} {f : Int → Int} {ops : Array Oper} {rest : List Oper} {o : Oper} {a : Act} {Q : Exit → Act → World → Prop}
theorem wpList_ctLook (hg : o.guard = none) (m x : Operand) (hop : o.op = Op.lookup 56 m x false) (hm : a.eval m = .map (some mb)) (h : CtIs w mb U f) (k : Int) (hx : a.eval x = .int .i64 k) (hk : wfi k)
    (hK : wpList Try.prog ops Q rest (a.put o.dst (.int .i64 (f k))) w) : wpList Try.prog ops Q (o :: rest) a w := by
  refine wpList_plain hg fun K' hK' => ?_
  have hrun := h.look hk 56 Try.underlying56
  unfold Oper.wp
  simp [execOp, hop, hm, hx, hrun, Result.andThen]
  exact hK' _ _ hK
theorem wpList_ctLookOk (hg : o.guard = none) (m x : Operand) (hop : o.op = Op.lookup 56 m x true) (hm : a.eval m = .map (some mb)) (h : CtIs w mb U f) (k : Int) (hx : a.eval x = .int .i64 k) (hk : wfi k)
    (hK : wpList Try.prog ops Q rest (a.put o.dst (.tuple #[.int .i64 (f k), .bool (U.contains k)])) w) : wpList Try.prog ops Q (o :: rest) a w := by
  refine wpList_plain hg fun K' hK' => ?_
  have hrun := h.lookOk hk 56 Try.underlying56
  unfold Oper.wp
  simp only [execOp, hop, hm, hx, Sem.run_bind, hrun, Result.andThen_ok, Sem.run_pure]
  exact hK' _ _ hK
theorem wpList_ctPut (hg : o.guard = none) (m x y : Operand) (hop : o.op = Op.mapUpdate 56 m x y) (hm : a.eval m = .map (some mb)) (h : CtIs w mb U f) (k v : Int) (hx : a.eval x = .int .i64 k) (hy : a.eval y = .int .i64 v)
    (hk : wfi k) (hv : wfi v) (hn : U.length < 1000000)
    (hK : ∀ w', CtIs w' mb (learn U k) (upd f k v) → w.grownBy w' (some mb) → wpList Try.prog ops Q rest (a.put o.dst undef) w') : wpList Try.prog ops Q (o :: rest) a w := by
  refine wpList_plain hg fun K' hK' => ?_
  obtain ⟨w', hrun, h1, h2⟩ := h.put hk hv hn 56 Try.underlying56
  unfold Oper.wp
  simp [execOp, hop, hm, hx, hy, hrun, Result.andThen]
  exact hK' _ _ (hK w' h1 h2)
end

end Go.Proofs.Ytljlbdbgocohlaa
