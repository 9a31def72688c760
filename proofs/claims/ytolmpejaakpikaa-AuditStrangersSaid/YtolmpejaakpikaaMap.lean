/- A map of int keys to any values that the call itself has made: what its block holds, as a function of the key (MapIs); look, put, delete, len. -/
import Derived.Test.YtolmpejaakpikaaOwn
import Derived.Maps.OwnSet
import Derived.WideKeyEntry
set_option linter.all false
namespace Go.Proofs.Ytolmpejaakpikaa
open Go.RowKit Go.Maps

/-- An element read as itself. -/
def anyElem (v : Value) : Option (DataW Value × List MemPlace) := some (.held v, [])
def wfi (k : Int) : Prop := (Lit.int .i64 k).wf = true
theorem wfi_small {x : Int} (h1 : -1000000000 ≤ x) (h2 : x ≤ 1000000000) : wfi x := by
  unfold wfi
  exact WalkArith.wf_i64 (by omega)
def updM (m : Int → Option Value) (k : Int) (v : Option Value) : Int → Option Value := fun x => if x = k then v else m x
structure MapD (D : DataW Value) (m : Int → Option Value) : Prop where
  has : ∀ k, wfi k → Maps.has D (.int .i64 k) = (m k).isSome
  at_ : ∀ k, wfi k → ∀ z, D.atKey (.int .i64 k) z = match m k with | some v => .held v | none => z
def MapIs (P : Program) (kt : TypeId) (w : World) (mb n : Nat) (m : Int → Option Value) : Prop := ∃ D : DataW Value, w.ownsMap P kt anyElem mb n D ∧ MapD D m

section
variable {P : Program} {kt et : TypeId} {w w' : World} {mb n : Nat} {m : Int → Option Value} {S : Nat → Prop}
theorem MapIs.lt (h : MapIs P kt w mb n m) : mb < w.heap.size := by obtain ⟨D, h, _⟩ := h; exact h.lt
theorem MapIs.mono (h : MapIs P kt w mb n m) {n' : Nat} (hn : n ≤ n') : MapIs P kt w mb n' m := by
  obtain ⟨D, h, hD⟩ := h
  exact ⟨D, h.mono hn, hD⟩
theorem MapIs.chg (h : MapIs P kt w mb n m) (hc : Chg S w w') (hn : ¬ S mb) : MapIs P kt w' mb n m := by
  obtain ⟨D, h, hD⟩ := h
  have hlt := h.lt
  obtain ⟨es, clock, hb, F, hs, e⟩ := h
  exact ⟨D, ⟨es, clock, (hc.block mb hlt hn).trans hb, F, hs, e⟩, hD⟩
theorem MapIs.notCells (h : MapIs P kt w mb n m) {g : Nat} {cs : Array Value} {t : TypeId} {fz : Nat × Nat} (hg : w.heap[g]? = some (.cells cs t fz)) : g ≠ mb := by
  rintro rfl
  obtain ⟨D, ⟨es, clock, hb, _⟩, _⟩ := h
  rw [hb] at hg
  cases hg
theorem MapIs.made (P : Program) (kt : TypeId) (w : World) : MapIs P kt (w.alloc (.map #[] 0)) w.heap.size 0 (fun _ => none) :=
  ⟨.map [], World.ownsMap_made _ _ _ _, ⟨fun k _ => rfl, fun k _ z => rfl⟩⟩
theorem MapD.put {D : DataW Value} (h : MapD D m) (K : Keyed P kt) (ht : Tidy D) {k : Int} (hkl : WideAt.IsKeyLit (Lit.int .i64 k)) (v : Value) : MapD (D.put (.int .i64 k) (.held v)) (updM m k (some v)) := by
  refine ⟨fun x hx => ?_, fun x hx z => ?_⟩
  · unfold updM
    by_cases e : x = k
    · subst e
      rw [if_pos rfl, Maps.has_put_same ht.isMap hkl]
      rfl
    · rw [if_neg e, Maps.has_put_other (fun e' => e (by cases e'; rfl)), h.has x hx]
  · unfold updM
    by_cases e : x = k
    · subst e
      rw [if_pos rfl, Maps.atKey_put_same ht.isMap hkl]
    · rw [if_neg e, Maps.atKey_put_other (fun e' => e (by cases e'; rfl))]
      exact h.at_ x hx z
theorem MapD.del {D : DataW Value} (h : MapD D m) {k : Int} : MapD (D.del (.int .i64 k)) (updM m k none) := by
  refine ⟨fun x hx => ?_, fun x hx z => ?_⟩
  · unfold updM
    by_cases e : x = k
    · subst e
      rw [if_pos rfl, Maps.has_del_same]
      rfl
    · rw [if_neg e, Maps.has_del_other (fun e' => e (by cases e'; rfl)), h.has x hx]
  · unfold updM
    by_cases e : x = k
    · subst e
      rw [if_pos rfl, Maps.atKey_del_same]
    · rw [if_neg e, Maps.atKey_del_other (fun e' => e (by cases e'; rfl))]
      exact h.at_ x hx z
theorem MapIs.put (h : MapIs P kt w mb n m) (hk0 : P.underlying kt = some (.int .i64)) {k : Int} (hk : wfi k) (v : Value) (hn : n < 1000000) (t : TypeId) (ht : P.underlying t = some (.map kt et)) :
    ∃ w', (Instr.mapUpdate t (.map (some mb)) (.int .i64 k) v).run P w = .ok () w' ∧ MapIs P kt w' mb (n + 1) (updM m k (some v)) ∧ w.grownBy w' (some mb) := by
  obtain ⟨D, h, hD⟩ := h
  have K := int_keyed hk0
  obtain ⟨w', h1, h2, h3⟩ := h.update K ht (by unfold maxLen; omega) (keyOf_int_mk hk0 hk) (show anyElem v = some (.held v, []) from rfl)
  exact ⟨w', h1, ⟨_, h2, hD.put K (h.tidy K) (K.key (keyOf_int_mk hk0 hk)) v⟩, h3⟩
theorem MapIs.lookOk (h : MapIs P kt w mb n m) (hk0 : P.underlying kt = some (.int .i64)) {k : Int} (hk : wfi k) (t : TypeId) (ht : P.underlying t = some (.map kt et)) {z : Value} (hz : (zeroValue et).run P w = .ok z w) :
    (Instr.lookup t (.map (some mb)) (.int .i64 k) true).run P w = .ok (.tuple #[(m k).getD z, .bool (m k).isSome]) w := by
  obtain ⟨D, h, hD⟩ := h
  obtain ⟨v, ps, h1, h2⟩ := h.look_ok (int_keyed hk0) ht hz (show anyElem z = some (.held z, []) from rfl) (keyOf_int_mk hk0 hk)
  have e : DataW.held v = D.atKey (.int .i64 k) (.held z) := by
    have := congrArg (fun o => o.map Prod.fst) h2
    simpa [anyElem] using this
  rw [hD.at_ k hk] at e
  have hv : v = (m k).getD z := by
    cases hm : m k with
    | none => rw [hm] at e; cases e; rfl
    | some x => rw [hm] at e; cases e; rfl
  rw [h1, hD.has k hk, hv]
theorem MapIs.drop (h : MapIs P kt w mb n m) (hk0 : P.underlying kt = some (.int .i64)) {k : Int} (hk : wfi k) (t ty : TypeId) (ht : P.underlying t = some (.map kt et)) :
    ∃ w', (Builtin.delete_ #[t, kt] ty #[.map (some mb), .int .i64 k]).run P w = .ok (.tuple #[]) w' ∧ MapIs P kt w' mb n (updM m k none) ∧ w.grownBy w' (some mb) := by
  obtain ⟨D, h, hD⟩ := h
  obtain ⟨w', h1, h2, h3⟩ := h.drop (int_keyed hk0) ht (keyOf_int_mk hk0 hk) ty
  exact ⟨w', h1, ⟨_, h2, hD.del⟩, h3.grown⟩
end

open Go.WideElems Go.MapKept Go.ChangeMaps in
/-- An entry taken ahead of its store, as a tuple's assignment does it: what is stored last is what 'm[k] = v' would have stored. -/
theorem entry_int {H : Type} {P : Program} {w : World} {t k e : TypeId} {R : Value → Option (DataW H × List MemPlace)} {b : Nat} {es : Array MapEntry} {clock : Nat} (K : Keyed P k) (ht : P.underlying t = some (.map k e)) {z : Value}
    (hz : ∀ u : World, (zeroValue e).run P u = .ok z u) (hb : w.heap[b]? = some (.map es clock)) (F : Fit P k R es clock) {key : Value} {kl : Lit} (hkey : keyOf P k key = some kl) :
    ∃ (v0 : Value) (st : Nat) (es1 : Array MapEntry) (cl1 : Nat), (Instr.mapEntry t (.map (some b)) key).run P w = .ok (.tuple #[v0, goInt st]) (setBlock w b (.map es1 cl1)) ∧
      ∀ (W : World) (val : Value), W.heap[b]? = some (.map es1 cl1) → ∃ o2, (Instr.entryStore t (.map (some b)) (goInt st) val).run P W = .ok () (setBlock W b o2) ∧ (Instr.mapUpdate t (.map (some b)) key val).run P w = .ok () (setBlock w b o2) := by
  obtain ⟨s1, s2, _⟩ := F.stamped
  rcases K.find w hkey es.toList F.keys with ⟨h1, _⟩ | ⟨j, e0, h1, h2, h3⟩
  · refine ⟨z, clock, es.push ⟨key, z, clock⟩, clock + 1, ?_, fun W val hW => ⟨.map (es.push ⟨key, val, clock⟩) (clock + 1), ?_, ?_⟩⟩
    · simp [Instr.mapEntry, run_underlying ht, MapKept.run_getObj_map hb, K.check w false hkey, h1, hz, MapKept.run_setObj_map _ hb, Result.andThen, setBlock]
    · have hnew : ((es.push ⟨key, z, clock⟩).toList.map (·.born)).Nodup := by
        simp only [Array.toList_push, List.map_append, List.map_cons, List.map_nil, List.nodup_append]
        refine ⟨s2, by simp, fun a ha c hc e1 => ?_⟩
        obtain ⟨x, hx, rfl⟩ := List.mem_map.1 ha
        have := s1 x hx
        simp only [List.mem_singleton] at hc
        omega
      have hidx : (es.push ⟨key, z, clock⟩).findIdx? (fun e => ((e.born : Nat) : Int) == ((clock : Nat) : Int)) = some es.size := by
        rw [findIdx_arr]
        exact findIdx_born hnew (j := es.size) (e0 := ⟨key, z, clock⟩) (by simp)
      have hmod : (es.push ⟨key, z, clock⟩).modify es.size (fun e => { e with val := val }) = es.push ⟨key, val, clock⟩ := by
        apply Array.ext'
        rw [Array.toList_modify, Array.toList_push, Array.toList_push, ← Array.length_toList, modify_last]
      simp [Instr.entryStore, MapKept.run_getObj_map hW, asInt, asIntOf, goInt, hidx, hmod, MapKept.run_setObj_map _ hW, Result.andThen, setBlock]
    · simp [Instr.mapUpdate, run_underlying ht, MapKept.run_getObj_map hb, K.check w false hkey, h1, MapKept.run_setObj_map _ hb, Result.andThen, setBlock]
  · have hj : es[j]? = some e0 := by simpa using h2
    have hsame : es.modify j (fun e => { e with key := key }) = es := by
      apply Array.ext'
      rw [Array.toList_modify, modify_eq_set _ _ _ _ h2, show ({ e0 with key := key } : MapEntry) = e0 from by rw [← h3]]
      exact set_self _ _ _ h2
    refine ⟨e0.val, e0.born, es, clock, ?_, fun W val hW => ⟨.map (es.modify j (fun e' => { e' with key := key, val := val })) clock, ?_, ?_⟩⟩
    · simp [Instr.mapEntry, run_underlying ht, MapKept.run_getObj_map hb, K.check w false hkey, h1, hj, h3, K.stays w hkey, hsame, MapKept.run_setObj_map _ hb, Result.andThen, setBlock]
    · have hidx : es.findIdx? (fun e => ((e.born : Nat) : Int) == ((e0.born : Nat) : Int)) = some j := by
        rw [findIdx_arr]
        exact findIdx_born s2 h2
      have hmod : es.modify j (fun e => { e with val := val }) = es.modify j (fun e' => { e' with key := key, val := val }) := by
        apply Array.ext'
        rw [Array.toList_modify, Array.toList_modify, modify_eq_set _ _ _ _ h2, modify_eq_set _ _ _ _ h2, ← h3]
      simp [Instr.entryStore, MapKept.run_getObj_map hW, asInt, asIntOf, goInt, hidx, hmod, MapKept.run_setObj_map _ hW, Result.andThen, setBlock]
    · simp [Instr.mapUpdate, run_underlying ht, MapKept.run_getObj_map hb, K.check w false hkey, h1, hj, h3, K.stays w hkey, MapKept.run_setObj_map _ hb, Result.andThen, setBlock]

open Go.WideElems Go.MapKept Go.ChangeMaps in
theorem MapIs.entry {P : Program} {kt et : TypeId} {w : World} {mb n : Nat} {m : Int → Option Value} (h : MapIs P kt w mb n m) (hk0 : P.underlying kt = some (.int .i64)) {k : Int} (hk : wfi k) (hn : n < 1000000) (t : TypeId) (ht : P.underlying t = some (.map kt et)) {z : Value} (hz : ∀ u : World, (zeroValue et).run P u = .ok z u) :
    ∃ v0 st w1, (Instr.mapEntry t (.map (some mb)) (.int .i64 k)).run P w = .ok (.tuple #[v0, goInt st]) w1 ∧ w.grownBy w1 (some mb) ∧
      ∀ (W : World) (v : Value), W.heap[mb]? = w1.heap[mb]? → ∃ W', (Instr.entryStore t (.map (some mb)) (goInt st) v).run P W = .ok () W' ∧ MapIs P kt W' mb (n + 1) (updM m k (some v)) ∧ W.grownBy W' (some mb) := by
  obtain ⟨D, ho, hD⟩ := id h
  obtain ⟨es, clock, hb, F, hs, _⟩ := ho
  obtain ⟨v0, st, es1, cl1, h1, h2⟩ := entry_int (int_keyed hk0) ht hz hb F (keyOf_int_mk hk0 hk)
  have gr : ∀ (W : World) (o : Obj) (es' : Array MapEntry) (c' : Nat), W.heap[mb]? = some (.map es' c') → W.grownBy (setBlock W mb o) (some mb) := fun W o _ _ hW =>
    ⟨rfl, rfl, rfl, by simp [setBlock], fun i _ hi => heap_setBlock_other hW _ (fun e => hi (by rw [e]))⟩
  refine ⟨v0, st, _, h1, gr w _ _ _ hb, fun W v hW => ?_⟩
  rw [heap_setBlock_same hb] at hW
  obtain ⟨o2, h3, h4⟩ := h2 W v hW
  refine ⟨_, h3, ?_, gr W o2 _ _ hW⟩
  obtain ⟨w', h5, ⟨D', ho', hD'⟩, _⟩ := h.put hk0 hk v hn t ht
  rw [h4] at h5
  cases h5
  obtain ⟨es', clock', hb', rest⟩ := ho'
  rw [heap_setBlock_same hb] at hb'
  cases hb'
  exact ⟨D', ⟨es', clock', heap_setBlock_same hW _, rest⟩, hD'⟩

end Go.Proofs.Ytolmpejaakpikaa
