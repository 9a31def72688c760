/- PipeCarries: whatever the texts and the numbers, the law answers true and leaves its arguments as they were. No condition. -/
import Derived.Test.YtlidkcbjahaahaaI
import Derived.Test.YtlidkcbjahaahaaOpen
namespace Go.Proofs.Ytlidkcbjahaahaa
open Go.ChangeShapes Go.WideShapes Go.ChangeAt Go.RowKit Go.Deep

theorem row_mem {b off n : Nat} (h : 0 < n) : MemPlace.cell b off ∈ MemPlace.row ⟨b, off, none⟩ n := by
  simp [MemPlace.row]
  exact h

theorem strs_of_trod {H : Type} {enc : TypeId × Value → H} {W : World} {v : Value} {d : DataW H} {p : List MemPlace}
    (hf : DataW.Trod enc Try.prog W 0 (fun _ => true) true 22 v d p) (hlt : ∀ x ∈ p, x.block < W.heap.size) (hv : ∃ a len cap, v = .slice a len cap) :
    ∃ a len cap, v = .slice a len cap ∧ len ≤ 9223372036854775807 ∧ StrsIn W a len := by
  obtain ⟨a0, len0, cap0, rfl⟩ := hv
  obtain ⟨fuel, hf⟩ := hf
  rcases open_strings Try.underlying22 Try.underlying9 (by kernel_rfl) hf with ⟨hcs, hx⟩ | ⟨a, len, cap, ss, hcs, _, hl, hm, hz, hx, hcell, hws⟩
  · simp [Value.cells] at hcs
    obtain ⟨rfl, rfl, rfl⟩ := hcs
    exact ⟨none, 0, 0, rfl, by omega, fun i h => absurd h (by omega)⟩
  · simp [Value.cells] at hcs
    obtain ⟨rfl, rfl, rfl⟩ := hcs
    unfold maxLen at hm
    refine ⟨some a, len0, cap0, rfl, by omega, fun i h => ?_⟩
    simp only [if_true] at hz
    obtain ⟨b, off, rfl⟩ := addr_plain (hcell 0 (by omega))
    have hi := hcell i (by omega)
    rw [Addr.add_lit] at hi
    refine ⟨b, off, _, rfl, ?_, ?_, hi⟩
    · have hx' : p = _ := congrArg Prod.snd hx
      exact hlt (MemPlace.cell b off) (by rw [hx']; exact row_mem (by omega))
    · rw [List.getD_eq_getElem?_getD, List.getElem?_eq_getElem (by omega)]
      exact hws _ (List.getElem_mem _)

theorem ints_of_trod {H : Type} {enc : TypeId × Value → H} {W : World} {v : Value} {d : DataW H} {p : List MemPlace}
    (hf : DataW.Trod enc Try.prog W 0 (fun _ => true) true 23 v d p) (hlt : ∀ x ∈ p, x.block < W.heap.size) (hv : ∃ a len cap, v = .slice a len cap) :
    ∃ a len cap, v = .slice a len cap ∧ len ≤ 9223372036854775807 ∧ IntsIn W a len := by
  obtain ⟨a0, len0, cap0, rfl⟩ := hv
  obtain ⟨fuel, hf⟩ := hf
  rcases open_ints Try.underlying23 Try.underlying3 (by kernel_rfl) hf with ⟨hcs, hx⟩ | ⟨a, len, cap, ss, hcs, _, hl, hm, hz, hx, hcell, hws⟩
  · simp [Value.cells] at hcs
    obtain ⟨rfl, rfl, rfl⟩ := hcs
    exact ⟨none, 0, 0, rfl, by omega, fun i h => absurd h (by omega)⟩
  · simp [Value.cells] at hcs
    obtain ⟨rfl, rfl, rfl⟩ := hcs
    unfold maxLen at hm
    refine ⟨some a, len0, cap0, rfl, by omega, fun i h => ?_⟩
    simp only [if_true] at hz
    obtain ⟨b, off, rfl⟩ := addr_plain (hcell 0 (by omega))
    have hi := hcell i (by omega)
    rw [Addr.add_lit] at hi
    refine ⟨b, off, _, rfl, ?_, hi⟩
    have hx' : p = _ := congrArg Prod.snd hx
    exact hlt (MemPlace.cell b off) (by rw [hx']; exact row_mem (by omega))

theorem carries_walk {H : Type} {enc : TypeId × Value → H} (W : World) (base : Nat) (args : Array Value) (ds : List (DataW H)) (p : List MemPlace)
    (hval : ∀ (j : Nat) t v, Try.f3.params[j]? = some t → args[j]? = some v → Value.okWide Try.prog W .any base t v)
    (hA : DataW.TrodAll enc Try.prog W 0 (fun _ => true) true Try.f3.params.toList args.toList ds p) (hlt : ∀ x ∈ p, x.block < W.heap.size) :
    Calls Try.prog 3 args W fun e W' => e = .returned (.bool true) ∧ Below W.heap.size W W' := by
  rw [Try.params3] at hA hval
  obtain ⟨args⟩ := args
  obtain ⟨v0, v1, d0, d1, p0, p1, hargs, rfl, rfl, h0, h1⟩ := trodAll_two hA
  simp at hargs
  subst hargs
  obtain ⟨a, len, cap, rfl, hl, ho⟩ := strs_of_trod h0 (fun x hx => hlt x (List.mem_append_left _ hx)) (okWide_slice Try.underlying22 (hval 0 22 v0 rfl rfl))
  obtain ⟨a2, len2, cap2, rfl, hl2, ho2⟩ := ints_of_trod h1 (fun x hx => hlt x (List.mem_append_right _ hx)) (okWide_slice Try.underlying23 (hval 1 23 v1 rfl rfl))
  exact carries_any a len cap hl a2 len2 cap2 hl2 W ho ho2

set_option maxRecDepth 100000 in
theorem carries_lifted (os : Os) (started : os.Started) (H : Type) (enc : TypeId × Value → H) :
    ReturnsInHanded {} Try.checked os 3 .any (Rows.pipeCarriesSpec.pre6 enc Try.prog Try.f3 Rows.pipeCarriesRow.domain false) (Rows.pipeCarriesSpec.post enc Try.prog Try.f3 false true false false) :=
  law_lifted started (spec := Rows.pipeCarriesSpec) Try.func3 (by kernel_rfl) rfl Try.underlying4 rfl
    (fun ds h => by rw [Try.params3] at h; match ds, h with | [a, b], _ => rfl)
    (by rw [Try.params3]; intro t ht; simp at ht; rcases ht with rfl | rfl <;> exact ⟨by kernel_rfl, of_decide_eq_true (by kernel_rfl)⟩)
    (ChangeSpec.witness6 (enc := enc) (C := Try.checked) false ⟨#[], #[.slice none 0 0, .slice none 0 0], []⟩ 8 (by kernel_rfl) (by kernel_rfl) (by kernel_rfl) (by kernel_rfl))
    (fun W base args ds p hval hA hlt _ => carries_walk W base args ds p hval hA hlt)

theorem carries_holds : Rows.PipeCarriesSaid :=
  OpenClaim.holds_of_wide 3 Try.f3 rfl rfl rfl rfl rfl rfl rfl ⟨rfl, rfl, rfl, rfl, rfl⟩ rfl rfl rfl rfl rfl (by kernel_rfl) Try.func3 (by kernel_rfl)
    (of_decide_eq_true (by kernel_rfl)) (by unfold Func.isWrapper; first | (rw [if_pos (by decide +kernel)]; kernel_rfl) | (rw [if_neg (by decide +kernel)]; exact ⟨rfl, rfl⟩))
    (fun os started H enc _ => carries_lifted os started H enc)

end Go.Proofs.Ytlidkcbjahaahaa
