/- The arguments of these laws, opened: a slice of texts. -/
import Derived.Test.YtdcfpklohleoiaaDoorM
import Derived.Test.YtdcfpklohleoiaaDoorOpen
import Derived.SliceStrings
import Derived.ChangeMaps5
namespace Go.Proofs.YtdcfpklohleoiaaDoor
open Go.ChangeShapes Go.WideShapes Go.ChangeAt Go.RowKit Go.Deep

theorem weightsAll_mem {H : Type} {P : Program} {e : TypeId} {n : Nat} {d : DataW H} : ∀ {l : List (DataW H)}, d ∈ l → n ∈ d.weights P e → n ∈ DataW.weightsAll P e l
  | x :: l, hd, hn => by
    simp only [DataW.weightsAll, List.mem_append]
    rcases List.mem_cons.1 hd with rfl | hd
    · exact .inl hn
    · exact .inr (weightsAll_mem hd hn)
section
variable {H : Type} {enc : TypeId × Value → H} {W : World} {v : Value} {d : DataW H} {p : List MemPlace}
theorem strl_of_trod (hf : DataW.Trod enc Tryd.prog W 0 (fun _ => true) true 22 v d p) (hlt : ∀ x ∈ p, x.block < W.heap.size) (hv : ∃ a len cap, v = .slice a len cap) (hsz : ∀ n ∈ d.weights Tryd.prog 22, n ≤ reachBytes) :
    ∃ a cap, ∃ ss : List (List UInt8), v = .slice a ss.length cap ∧ ss.length ≤ cap ∧ ss.length ≤ 9223372036854775807 ∧ StrL W a ss ∧ ∀ s ∈ ss, s.length ≤ 140737488355328 := by
  obtain ⟨a0, len0, cap0, rfl⟩ := hv
  obtain ⟨fuel, hf⟩ := hf
  rcases open_strings Tryd.underlying22 Tryd.underlying9 (by kernel_rfl) hf with ⟨hcs, hx⟩ | ⟨a, len, cap, ss, hcs, _, hl, hm, hz, hx, hcell, hws⟩
  · simp [Value.cells] at hcs
    obtain ⟨rfl, rfl, rfl⟩ := hcs
    exact ⟨none, 0, [], rfl, Nat.le_refl _, by simp, fun i h => absurd h (by simp), by simp⟩
  · simp [Value.cells] at hcs
    obtain ⟨rfl, rfl, rfl⟩ := hcs
    unfold maxLen at hm
    simp only [if_true] at hz
    have hd : d = _ := congrArg Prod.fst hx
    have hlen : ((ss.take len0).map fun s => s.data.toList).length = len0 := by rw [List.length_map, List.length_take]; omega
    refine ⟨some a, cap0, (ss.take len0).map fun s => s.data.toList, by rw [hlen], by rw [hlen]; exact hl, by rw [hlen]; omega, fun i h => ?_, fun s hs => ?_⟩
    · rw [hlen] at h
      obtain ⟨b, off, rfl⟩ := addr_plain (hcell 0 (by omega))
      have hi := hcell i (by omega)
      rw [Addr.add_lit] at hi
      refine ⟨b, off, rfl, ?_, ?_⟩
      · have hx' : p = _ := congrArg Prod.snd hx
        refine hlt (MemPlace.cell b off) ?_
        rw [hx']
        simp [MemPlace.row]
        omega
      · rw [hi, List.getD_eq_getElem?_getD, List.getElem?_eq_getElem (by omega)]
        simp [sv]
    · obtain ⟨s0, hs0, rfl⟩ := List.mem_map.1 hs
      have h1 : s0.data.toList.length ∈ d.weights Tryd.prog 22 := by
        rw [hd]
        simp only [DataW.weights, Tryd.underlying22, List.mem_cons, List.mem_append]
        refine .inr (.inl (weightsAll_mem (d := .lit (.string s0.data.toList)) (by unfold strs; exact List.mem_map.2 ⟨s0, hs0, rfl⟩) (by simp [DataW.weights])))
      have h2 := hsz _ h1
      have h3 := reachBytes_lt
      omega
end

end Go.Proofs.YtdcfpklohleoiaaDoor
