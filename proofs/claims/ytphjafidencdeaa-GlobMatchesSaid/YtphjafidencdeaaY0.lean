/- The walk of the document's Match; the law on Match. -/
import Derived.Test.YtphjafidencdeaaX
namespace Go.Proofs.Ytphjafidencdeaa
open Go.RowKit
set_option maxRecDepth 100000

/-- A row of a table. -/
def tcells (n : Nat) (f : Nat → Bool) : Array Value := ((List.range n).map fun k => Value.bool (f k)).toArray
theorem tcells_size (n : Nat) (f : Nat → Bool) : (tcells n f).size = n := by simp [tcells]
theorem tcells_get {n k : Nat} (f : Nat → Bool) (h : k < n) : (tcells n f)[k]? = some (.bool (f k)) := by
  unfold tcells
  rw [List.getElem?_toArray, List.getElem?_map, List.getElem?_range h]
  rfl
def TAt (w : World) (g n : Nat) (f : Nat → Bool) : Prop := Blk w g 4 (tcells n f)
theorem TAt.cell {w : World} {g n k : Nat} {f : Nat → Bool} (h : TAt w g n f) (hk : k < n) : w.cell? ⟨g, k, none⟩ = some (.bool (f k)) := (Blk.cell h k).trans (tcells_get f hk)
theorem tcells_set {n k : Nat} (f : Nat → Bool) (hk : k < n) (b : Bool) : (tcells n f).setIfInBounds k (.bool b) = tcells n (fun j => if j = k then b else f j) := by
  apply Array.ext
  · rw [Array.size_setIfInBounds, tcells_size, tcells_size]
  · intro i h1 h2
    rw [tcells_size] at h2
    apply Option.some.inj
    rw [← Array.getElem?_eq_getElem h1, ← Array.getElem?_eq_getElem (by rw [tcells_size]; exact h2), tcells_get _ h2, Array.getElem?_setIfInBounds]
    by_cases e : k = i
    · subst e
      rw [if_pos rfl, if_pos (by rw [tcells_size]; exact h2), if_pos rfl]
    · rw [if_neg e, tcells_get _ h2, if_neg (fun h => e h.symm)]
theorem TAt.set {w : World} {g n k : Nat} {f : Nat → Bool} (h : TAt w g n f) (hk : k < n) (b : Bool) : TAt (w.setCell ⟨g, k, none⟩ (.bool b)) g n (fun j => if j = k then b else f j) := by
  have := Blk.set_ h k (.bool b)
  rw [tcells_set f hk b] at this
  exact this
def noT : Nat → Bool := fun _ => false
theorem info4 : (Try.prog.info? 4).map (fun i => (i.zero, i.size, i.bytes)) = some (some (.bool false), 1, 1) := by kernel_rfl
theorem made_row (n : Nat) : madeCells (Value.bool false).cells (n * 1) = tcells n noT := by
  apply Array.ext
  · rw [tcells_size, Nat.mul_one, size_madeCells]
  · intro i h1 h2
    rw [tcells_size] at h2
    apply Option.some.inj
    rw [← Array.getElem?_eq_getElem h1, ← Array.getElem?_eq_getElem (by rw [tcells_size]; exact h2), tcells_get noT h2]
    unfold madeCells
    rw [Array.getElem?_map, Array.getElem?_range, if_pos (by omega)]
    have e : (Value.bool false).cells = #[.bool false] := rfl
    rw [e]
    simp [noT, Nat.mod_one]
theorem run_row (n : Nat) (hn : n ≤ 1000000) (w : World) : (Instr.makeSlice 42 (.int .i64 (n : Int)) (.int .i64 (n : Int))).run Try.prog w = .ok (.slice (some ⟨w.heap.size, 0, none⟩) n n) (w.alloc (.cells (tcells n noT) 4)) := by
  obtain ⟨i0, hi0, hz0, hz1, hz2⟩ := info_parts info4
  have hr := run_make (P := Try.prog) w 42 4 i0 (.bool false) (by kernel_rfl) hi0 hz0 .i64 .i64 n n (by omega) (by omega) (by rw [hz2]; omega) (by omega)
  simp only [Int.toNat_natCast] at hr
  rw [hr, hz1, made_row]

/-- When does the document's Match look on? -/
theorem dot_shape (s : List UInt8) : decide (s.take 1 = [46]) = decide (0 < s.length ∧ s.getD 0 0 = 46) := by
  cases s with
  | nil => rfl
  | cons c r => simp
theorem dot_shape2 (p : List UInt8) : decide (p.take 2 = [92, 46]) = decide (1 < p.length ∧ p.getD 0 0 = 92 ∧ p.getD 1 0 = 46) := by
  match p with
  | [] => rfl
  | [c] => simp
  | c :: d :: r => simp
theorem dotNo_eq (p s : List UInt8) (dot : Bool) : dotNo p s dot = (dot && decide (0 < s.length ∧ s.getD 0 0 = 46) && !decide (0 < p.length ∧ p.getD 0 0 = 46) && !decide (1 < p.length ∧ p.getD 0 0 = 92 ∧ p.getD 1 0 = 46)) := by
  unfold dotNo
  rw [dot_shape, dot_shape, dot_shape2]
theorem step_call {P : Program} {ops : Array Oper} {o : Oper} {a : Act} {w : World} {K : Act → World → Prop} {Q : Exit → Act → World → Prop} {E : Prop} {f : FuncId} {args : Array Value} {v : Value} {R : World → Prop} (hw : Region.wanted o (yielded ops a.tmps) = true)
    (hr : (execOp a.eval o).run P w = .ok (.enter f args) w) (hc : Calls P f args w fun e w' => e = .returned v ∧ R w') (hK : ∀ w', R w' → K (a.put o.dst v) w') :
    if Region.wanted o (yielded ops a.tmps) = true then Oper.wp P o a w K Q else E := by
  rw [if_pos hw]
  unfold Oper.wp
  rw [hr, Oper.upon_enter]
  refine hc.mono ?_
  rintro e w' ⟨rfl, h⟩
  exact hK w' h
theorem wpTake_y {P : Program} {ops : Array Oper} {S : World → Prop} {o : Oper} {l : List Oper} {a : Act} {R : Act → Prop} (v : Value) (hy : YieldsIf P ops S o v a) (h : wpTake P ops S R l (a.put o.dst v)) : wpTake P ops S R (o :: l) a := ⟨v, hy, h⟩
theorem AppD.range {w2 w : World} {v : Value} {D : List DPt} (h : AppD w2 w v D) {i : Nat} (hi : i < D.length) {g off cap : Nat} (hv : v = .slice (some ⟨g, off, none⟩) D.length cap) : w.rangeAt g (off + i * 259) (D[i]).cells.toList := by
  obtain ⟨g', off', cap', hv', _, hc⟩ := h.cell hi
  rw [hv] at hv'
  injection hv' with e _ _
  injection e with e
  injection e with e1 e2 _
  subst e1 e2
  intro j u hj
  rw [Array.getElem?_toList] at hj
  have hlt : j < 259 := by
    have := (Array.getElem?_eq_some_iff.1 hj).1
    rwa [DPt.size] at this
  rw [hc j hlt]
  exact hj
theorem AppD.far {w2 w : World} {v : Value} {D : List DPt} (h : AppD w2 w v D) {g k : Nat} (hg : v.ownBlock ≠ some g) (hg2 : w2.heap.size ≤ g) (u : Value) : AppD w2 (w.setCell ⟨g, k, none⟩ u) v D :=
  ⟨h.own.far (p := ⟨g, k, none⟩) hg u, h.chg.setCell (p := ⟨g, k, none⟩) (.inr hg2) u, h.new⟩
theorem AppD.drew {w2 w : World} {v : Value} {D : List DPt} (h : AppD w2 w v D) : AppD w2 w.drew v D := ⟨h.own, h.chg.drew, h.new⟩
theorem AppD.drewN {w2 w : World} {v : Value} {D : List DPt} (h : AppD w2 w v D) (n : Nat) : AppD w2 (w.drewN n) v D := ⟨h.own, h.chg.drewN n, h.new⟩
theorem AppD.range_x {w2 w : World} {v : Value} {D : List DPt} (h : AppD w2 w v D) {i : Nat} (hi : i < D.length) {g off cap : Nat} (hv : v = .slice (some ⟨g, off, none⟩) D.length cap) {x : DPt} (hx : D[i] = x) : w.rangeAt g (off + i * 259) x.cells.toList := by
  subst hx
  exact h.range hi hv
theorem TAt.cell_t {w : World} {g n k : Nat} {f : Nat → Bool} (h : TAt w g n f) (hk : k < n) (hf : f k = true) : w.cell? ⟨g, k, none⟩ = some (.bool true) := by rw [h.cell hk, hf]
theorem row0 (s : List UInt8) : ∀ k, k ≤ s.length → ((if k = 0 then true else noT k) = true ↔ Ma (([] : List DPt).map DPt.kd) (s.take k)) := by
  intro k hk
  show _ ↔ Ma [] _
  rw [ma_nil]
  by_cases h : k = 0
  · subst h
    simp
  · rw [if_neg h]
    refine ⟨fun e => (by cases e), fun e => ?_⟩
    have := congrArg List.length e
    rw [List.length_take, Nat.min_eq_left hk] at this
    exact absurd this h

end Go.Proofs.Ytphjafidencdeaa
