/- PrintWords: whatever the texts, the law answers true. No condition. -/
import Derived.Test.YtdhfhphbkfgamaaUB
import Derived.Test.YtdhfhphbkfgamaaLaw
import Derived.ChangeMaps5
import Derived.OpenShut

namespace Go.Proofs.Ytdhfhphbkfgamaa
open Go.ChangeShapes Go.WideShapes Go.ChangeAt Go.RowKit Lx
set_option maxRecDepth 100000

theorem pwords_walk {H : Type} {enc : TypeId × Value → H} (W : World) (base : Nat) (args : Array Value) (ds : List (DataW H)) (p : List MemPlace)
    (hval : ∀ (j : Nat) t v, Try.f4.params[j]? = some t → args[j]? = some v → Value.okWide Try.prog W .any base t v)
    (hA : DataW.TrodAll enc Try.prog W 0 (fun _ => true) true Try.f4.params.toList args.toList ds p) (hlt : ∀ x ∈ p, x.block < W.heap.size)
    (_hsz : (DataW.weightsEach Try.prog Try.f4.params.toList ds).all (· ≤ reachBytes) = true) :
    Calls Try.prog 4 args W fun e W' => e = .returned (.bool true) ∧ Below W.heap.size W W' := by
  rw [Try.params4] at hA hval
  obtain ⟨args⟩ := args
  obtain ⟨v0, vs0, d0, ds0, a0, b0, hargs, rfl, rfl, h0, r0⟩ := trodAll_cons hA
  obtain ⟨rfl, rfl, rfl⟩ := trodAll_nil r0
  simp at hargs
  subst hargs
  obtain ⟨a0, cap0, l0, rfl, hl0, ho0, hs0⟩ := strl_of_trod h0 (fun x hx => hlt x (by simp [hx])) (okWide_slice Try.underlying29 (hval 0 29 v0 rfl rfl))
  exact (pwords_any l0 _ cap0 W ho0 hl0 hs0).mono fun _ _ h => ⟨h.1, below_of_none h.2⟩

set_option maxRecDepth 100000 in
theorem pwords_lifted (os : Os) (started : os.Started) (H : Type) (enc : TypeId × Value → H) :
    ReturnsInHanded {} Try.checked os 4 .any (Rows.printWordsSpec.pre6 enc Try.prog Try.f4 Rows.printWordsRow.domain false) (Rows.printWordsSpec.post enc Try.prog Try.f4 false true false false) :=
  law_lifted started (spec := Rows.printWordsSpec) Try.func4 (by kernel_rfl) rfl Try.underlying4 rfl
    (fun ds h => by rw [Try.params4] at h; match ds, h with | [d0], _ => rfl)
    (by rw [Try.params4]; intro t ht; simp at ht; subst ht <;> exact ⟨by kernel_rfl, of_decide_eq_true (by kernel_rfl)⟩)
    (ChangeSpec.witness6 (enc := enc) (C := Try.checked) false ⟨#[], #[.slice none 0 0], []⟩ 8 (by kernel_rfl) (by kernel_rfl) (by kernel_rfl) (by kernel_rfl))
    (fun W base args ds p hval hA hlt hsz => pwords_walk W base args ds p hval hA hlt hsz)

theorem pwords_holds : Rows.PrintWordsSaid :=
  OpenClaim.holds_of_wide 4 Try.f4 rfl rfl rfl rfl rfl rfl rfl ⟨rfl, rfl, rfl, rfl, rfl⟩ rfl rfl rfl rfl rfl (by kernel_rfl) Try.func4 (by kernel_rfl)
    (of_decide_eq_true (by kernel_rfl)) (by unfold Func.isWrapper; first | (rw [if_pos (by decide +kernel)]; kernel_rfl) | (rw [if_neg (by decide +kernel)]; exact ⟨rfl, rfl⟩))
    (fun os started H enc _ => pwords_lifted os started H enc)

end Go.Proofs.Ytdhfhphbkfgamaa
