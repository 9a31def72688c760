/- An argument that is a slice of texts, opened. -/
import Derived.Test.YtdhfhphbkfgamaaUA
import Derived.Test.YtdhfhphbkfgamaaArgs
import Derived.SliceStrings
import Derived.ChangeMaps5
namespace Go.Proofs.Ytdhfhphbkfgamaa
open Go.ChangeShapes Go.WideShapes Go.ChangeAt Go.RowKit Go.Deep

theorem strl_of_trod {H : Type} {enc : TypeId × Value → H} {W : World} {v : Value} {d : DataW H} {p : List MemPlace} (hf : DataW.Trod enc Try.prog W 0 (fun _ => true) true 29 v d p) (hlt : ∀ x ∈ p, x.block < W.heap.size) (hv : ∃ a len cap, v = .slice a len cap) :
    ∃ a cap, ∃ ss : List (List UInt8), v = .slice a ss.length cap ∧ ss.length ≤ 9223372036854775807 ∧ StrL W a ss ∧ ∀ s ∈ ss, s.length ≤ 9223372036854775807 := by
  obtain ⟨a0, len0, cap0, rfl⟩ := hv
  obtain ⟨fuel, hf⟩ := hf
  rcases open_strings Try.underlying29 Try.underlying9 (by kernel_rfl) hf with ⟨hcs, hx⟩ | ⟨a, len, cap, ss, hcs, _, hl, hm, hz, hx, hcell, hws⟩
  · simp [Value.cells] at hcs
    obtain ⟨rfl, rfl, rfl⟩ := hcs
    exact ⟨none, 0, [], rfl, by simp, fun i h => absurd h (by simp), by simp⟩
  · simp [Value.cells] at hcs
    obtain ⟨rfl, rfl, rfl⟩ := hcs
    unfold maxLen at hm
    simp only [if_true] at hz
    have hlen : ((ss.take len0).map fun s => s.data.toList).length = len0 := by rw [List.length_map, List.length_take]; omega
    refine ⟨some a, cap0, (ss.take len0).map fun s => s.data.toList, by rw [hlen], by rw [hlen]; omega, fun i h => ?_, fun s hs => ?_⟩
    · rw [hlen] at h
      obtain ⟨b, off, rfl⟩ := addr_plain (hcell 0 (by omega))
      have hi := hcell i (by omega)
      rw [Addr.add_lit] at hi
      refine ⟨b, off, rfl, ?_, ?_⟩
      · have hx' : p = _ := congrArg Prod.snd hx
        refine hlt (MemPlace.cell b off) ?_
        rw [hx']
        simp [MemPlace.row]
        omega
      · rw [hi, List.getD_eq_getElem?_getD, List.getElem?_eq_getElem (by omega)]
        simp [Lx.sv]
    · obtain ⟨s0, hs0, rfl⟩ := List.mem_map.1 hs
      have h1 := hws s0 (List.mem_of_mem_take hs0)
      unfold maxLen at h1
      simpa using h1
end Go.Proofs.Ytdhfhphbkfgamaa
