/- Arguments that are slices of strings, ints, bools, opened to their cells; lists of parameters opened one by one. -/
import Derived.Test.YtolmpejaakpikaaOpen
import Derived.Deep.Grids
import Derived.ChangeMaps5
set_option linter.all false
namespace Go.Proofs.Ytolmpejaakpikaa
open Go.ChangeShapes Go.WideShapes Go.ChangeAt Go.RowKit Go.Deep

def StrsIn (w : World) (a : Option Addr) (len : Nat) : Prop :=
  ∀ i, i < len → ∃ b off s, a = some ⟨b, off, none⟩ ∧ b < w.heap.size ∧ (s : ByteArray).size ≤ maxLen ∧ w.cell? ⟨b, off + i, none⟩ = some (.string s)
def IntsIn (w : World) (a : Option Addr) (len : Nat) : Prop :=
  ∀ i, i < len → ∃ b off z, a = some ⟨b, off, none⟩ ∧ b < w.heap.size ∧ (Lit.int .i64 z).wf = true ∧ w.cell? ⟨b, off + i, none⟩ = some (.int .i64 z)
def BoolsIn (w : World) (a : Option Addr) (len : Nat) : Prop :=
  ∀ i, i < len → ∃ b off z, a = some ⟨b, off, none⟩ ∧ b < w.heap.size ∧ w.cell? ⟨b, off + i, none⟩ = some (.bool z)

theorem row_mem {b off n : Nat} (h : 0 < n) : MemPlace.cell b off ∈ MemPlace.row ⟨b, off, none⟩ n := by
  simp [MemPlace.row]
  exact h

section
variable {H : Type} {enc : TypeId × Value → H} {W : World} {v : Value} {d : DataW H} {p : List MemPlace} {P : Program} {t e : TypeId}
theorem strs_of_trod (ht : P.underlying t = some (.slice e)) (he : P.underlying e = some .string) (hc : P.cellsOf e = 1)
    (hf : DataW.Trod enc P W 0 (fun _ => true) true t v d p) (hlt : ∀ x ∈ p, x.block < W.heap.size) (hv : ∃ a len cap, v = .slice a len cap) :
    ∃ a len cap, v = .slice a len cap ∧ len ≤ 9223372036854775807 ∧ StrsIn W a len := by
  obtain ⟨a0, len0, cap0, rfl⟩ := hv
  obtain ⟨fuel, hf⟩ := hf
  rcases open_strings ht he hc hf with ⟨hcs, hx⟩ | ⟨a, len, cap, ss, hcs, _, hl, hm, hz, hx, hcell, hws⟩
  · simp [Value.cells] at hcs
    obtain ⟨rfl, rfl, rfl⟩ := hcs
    exact ⟨none, 0, 0, rfl, by omega, fun i h => absurd h (by omega)⟩
  · simp [Value.cells] at hcs
    obtain ⟨rfl, rfl, rfl⟩ := hcs
    unfold maxLen at hm
    refine ⟨some a, len0, cap0, rfl, by omega, fun i h => ?_⟩
    simp only [if_true] at hz
    obtain ⟨b, off, rfl⟩ := addr_plain (hcell 0 (by omega))
    have hi := hcell i (by omega)
    rw [Addr.add_lit] at hi
    refine ⟨b, off, _, rfl, ?_, ?_, hi⟩
    · have hx' : p = _ := congrArg Prod.snd hx
      exact hlt (MemPlace.cell b off) (by rw [hx']; exact row_mem (by omega))
    · rw [List.getD_eq_getElem?_getD, List.getElem?_eq_getElem (by omega)]
      exact hws _ (List.getElem_mem _)

theorem ints_of_trod (ht : P.underlying t = some (.slice e)) (he : P.underlying e = some (.int .i64)) (hc : P.cellsOf e = 1)
    (hf : DataW.Trod enc P W 0 (fun _ => true) true t v d p) (hlt : ∀ x ∈ p, x.block < W.heap.size) (hv : ∃ a len cap, v = .slice a len cap) :
    ∃ a len cap, v = .slice a len cap ∧ len ≤ 9223372036854775807 ∧ IntsIn W a len := by
  obtain ⟨a0, len0, cap0, rfl⟩ := hv
  obtain ⟨fuel, hf⟩ := hf
  rcases open_ints ht he hc hf with ⟨hcs, hx⟩ | ⟨a, len, cap, ss, hcs, _, hl, hm, hz, hx, hcell, hws⟩
  · simp [Value.cells] at hcs
    obtain ⟨rfl, rfl, rfl⟩ := hcs
    exact ⟨none, 0, 0, rfl, by omega, fun i h => absurd h (by omega)⟩
  · simp [Value.cells] at hcs
    obtain ⟨rfl, rfl, rfl⟩ := hcs
    unfold maxLen at hm
    refine ⟨some a, len0, cap0, rfl, by omega, fun i h => ?_⟩
    simp only [if_true] at hz
    obtain ⟨b, off, rfl⟩ := addr_plain (hcell 0 (by omega))
    have hi := hcell i (by omega)
    rw [Addr.add_lit] at hi
    refine ⟨b, off, _, rfl, ?_, ?_, hi⟩
    · have hx' : p = _ := congrArg Prod.snd hx
      exact hlt (MemPlace.cell b off) (by rw [hx']; exact row_mem (by omega))
    · rw [List.getD_eq_getElem?_getD, List.getElem?_eq_getElem (by omega)]
      exact hws _ (List.getElem_mem _)

theorem bools_of_trod (ht : P.underlying t = some (.slice e)) (he : P.underlying e = some .bool) (hc : P.cellsOf e = 1)
    (hf : DataW.Trod enc P W 0 (fun _ => true) true t v d p) (hlt : ∀ x ∈ p, x.block < W.heap.size) (hv : ∃ a len cap, v = .slice a len cap) :
    ∃ a len cap, v = .slice a len cap ∧ len ≤ 9223372036854775807 ∧ BoolsIn W a len := by
  obtain ⟨a0, len0, cap0, rfl⟩ := hv
  obtain ⟨fuel, hf⟩ := hf
  rcases open_bools ht he hc hf with ⟨hcs, hx⟩ | ⟨a, len, cap, B, hcs, _, hl, hm, hx, hcell⟩
  · simp [Value.cells] at hcs
    obtain ⟨rfl, rfl, rfl⟩ := hcs
    exact ⟨none, 0, 0, rfl, by omega, fun i h => absurd h (by omega)⟩
  · simp [Value.cells] at hcs
    obtain ⟨rfl, rfl, rfl⟩ := hcs
    unfold maxLen at hm
    refine ⟨some a, len0, cap0, rfl, by omega, fun i h => ?_⟩
    obtain ⟨b, off, rfl⟩ := addr_plain (hcell 0 (by omega))
    have hi := hcell i (by omega)
    rw [Addr.add_lit] at hi
    refine ⟨b, off, _, rfl, ?_, hi⟩
    have hx' : p = _ := congrArg Prod.snd hx
    exact hlt (MemPlace.cell b off) (by rw [hx']; exact row_mem (by omega))
end

theorem list_at1 {L : List Value} {j c : Nat} {v : Value} (h : (L.drop j).take c = [v]) : L[j]? = some v := by
  have h1 : ((L.drop j).take c)[0]? = some v := by rw [h]; rfl
  rw [List.getElem?_take] at h1
  split at h1
  · rw [List.getElem?_drop] at h1
    exact h1
  · cases h1
theorem list_at2 {L : List Value} {o c j : Nat} {v : Value} (h : ((L.drop o).take c)[j]? = some v) : L[o + j]? = some v := by
  rw [List.getElem?_take] at h
  split at h
  · rw [List.getElem?_drop] at h
    exact h
  · cases h

end Go.Proofs.Ytolmpejaakpikaa
