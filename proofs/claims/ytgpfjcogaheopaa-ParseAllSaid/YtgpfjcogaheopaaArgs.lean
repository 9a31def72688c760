/- Arguments that are slices of strings, ints, bools, opened to their cells; lists of parameters opened one by one. -/
import Derived.Test.YtgpfjcogaheopaaOpen
import Derived.Deep.Grids
import Derived.ChangeMaps5
set_option linter.all false
namespace Go.Proofs.Ytgpfjcogaheopaa
open Go.ChangeShapes Go.WideShapes Go.ChangeAt Go.RowKit Go.Deep
def StrsIn (w : World) (a : Option Addr) (len : Nat) : Prop :=
 ∀ i, i < len → ∃ b off s, a = some ⟨b, off, none⟩ ∧ b < w.heap.size ∧ (s : ByteArray).size ≤ maxLen ∧ w.cell? ⟨b, off + i, none⟩ = some (.string s)
def IntsIn (w : World) (a : Option Addr) (len : Nat) : Prop :=
 ∀ i, i < len → ∃ b off z, a = some ⟨b, off, none⟩ ∧ b < w.heap.size ∧ (Lit.int .i64 z).wf = true ∧ w.cell? ⟨b, off + i, none⟩ = some (.int .i64 z)
def BoolsIn (w : World) (a : Option Addr) (len : Nat) : Prop :=
 ∀ i, i < len → ∃ b off z, a = some ⟨b, off, none⟩ ∧ b < w.heap.size ∧ w.cell? ⟨b, off + i, none⟩ = some (.bool z)
section
variable {H : Type} {enc : TypeId × Value → H} {W : World} {v : Value} {d : DataW H} {p : List MemPlace} {P : Program} {t e : TypeId}
end
end Go.Proofs.Ytgpfjcogaheopaa
