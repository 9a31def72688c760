/- set, whole; a pattern's parts as a plain function; the walk of parts. -/
import Derived.Test.YtphjafidencdeaaE
namespace Go.Proofs.Ytphjafidencdeaa
open Go.RowKit
set_option maxRecDepth 100000

theorem setF_out (l : List UInt8) (nt : Bool) (hn : notB l = nt) : setF l = (outP nt (setGo addR l (if nt then 1 else 0) (if nt then 1 else 0) Ws.zero), outN (setGo addR l (if nt then 1 else 0) (if nt then 1 else 0) Ws.zero)) := by
  unfold setF
  rw [hn]
  cases setGo addR l (if nt then 1 else 0) (if nt then 1 else 0) Ws.zero with
  | none => rfl
  | some q => obtain ⟨s, n⟩ := q; rfl
theorem set_any (l : List UInt8) (w : World) (hl : l.length ≤ 1000000) :
    Calls Try.prog 29 #[sv l] w fun e w' => e = .returned (.tuple #[.agg (setF l).1.cells.toArray, .int .i64 (setF l).2]) ∧ w.grownBy w' none := by
  cases hn : notB l with
  | true =>
    rw [setF_out l true hn]
    exact set_true l w hl hn _ rfl
  | false =>
    rw [setF_out l false hn]
    exact set_false l w hl hn _ rfl

/-- The part with which a text begins, and how many bytes tell it. -/
def stepP (l : List UInt8) : Pt × Nat :=
  if (quo l).2 = 1 ∧ (quo l).1 = 42 then (⟨true, true, Ws.zero⟩, 1)
  else if (quo l).2 = 1 ∧ (quo l).1 = 63 then (⟨false, true, Ws.all⟩, 1)
  else if (quo l).2 = 1 ∧ (quo l).1 = 91 then (if 0 < (setF (l.drop 1)).2 then ((setF (l.drop 1)).1, 1 + (setF (l.drop 1)).2) else (⟨false, false, Ws.zero.add (quo l).1⟩, 1))
  else (⟨false, false, Ws.zero.add (quo l).1⟩, (quo l).2)
theorem stepP_pos {l : List UInt8} (h : l ≠ []) : 1 ≤ (stepP l).2 := by
  unfold stepP
  have := quo_pos h
  repeat' split
  all_goals simp
  all_goals omega
def partsF (l : List UInt8) : List Pt := if h : l = [] then [] else (stepP l).1 :: partsF (l.drop (stepP l).2)
termination_by l.length
decreasing_by
  have := stepP_pos h
  have : 0 < l.length := List.length_pos_iff.2 h
  rw [List.length_drop]
  omega
theorem partsF_nil : partsF [] = [] := by rw [partsF, dif_pos rfl]
theorem partsF_cons {l : List UInt8} (h : l ≠ []) : partsF l = (stepP l).1 :: partsF (l.drop (stepP l).2) := by rw [partsF, dif_neg h]

theorem parts_any (l : List UInt8) (w : World) : Calls Try.prog 19 #[sv l] w fun e w' => e = .returned (.func (.func 28) #[] #[.pointer (some ⟨w.heap.size, 0, none⟩)]) ∧ w' = w.alloc (.cells #[sv l] 9) := by
  unfold sv
  go_enter Try.func19, Try.ntmps19
  go_wp2
  go_ret
  exact ⟨rfl, rfl⟩

end Go.Proofs.Ytphjafidencdeaa
