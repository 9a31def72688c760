/- ParseAll: whatever the text, the law answers true. No condition. -/
import Derived.Test.YtgpfjcogaheopaaMU
import Derived.Test.YtgpfjcogaheopaaLaw
import Derived.ChangeMaps5
import Derived.OpenShut
set_option linter.all false
namespace Go.Proofs.Ytgpfjcogaheopaa
open Go.ChangeShapes Go.WideShapes Go.ChangeAt Go.RowKit Lx
theorem all_walk {H : Type} {enc : TypeId × Value → H} (W : World) (base : Nat) (args : Array Value) (ds : List (DataW H)) (p : List MemPlace)
  (hval : ∀ (j : Nat) t v, Try.f3.params[j]? = some t → args[j]? = some v → Value.okWide Try.prog W .any base t v)
  (hA : DataW.TrodAll enc Try.prog W 0 (fun _ => true) true Try.f3.params.toList args.toList ds p) (hlt : ∀ x ∈ p, x.block < W.heap.size)
  (_hsz : (DataW.weightsEach Try.prog Try.f3.params.toList ds).all (· ≤ reachBytes) = true) :
  Calls Try.prog 3 args W fun e W' => e = .returned (.bool true) ∧ Below W.heap.size W W' := by
 rw [Try.params3] at hA hval
 obtain ⟨args⟩ := args
 obtain ⟨v0, vs0, d0, ds0, a0, b0, hargs, rfl, rfl, h0, r0⟩ := trodAll_cons hA
 obtain ⟨rfl, rfl, rfl⟩ := trodAll_nil r0
 simp at hargs
 subst hargs
 obtain ⟨s0, rfl, rfl, rfl, hs0⟩ := Go.ChangeMaps.open_string Try.underlying9 (hval 0 9 v0 rfl rfl) h0
 obtain ⟨l0, rfl⟩ : ∃ l : List UInt8, s0 = ⟨l.toArray⟩ := ⟨s0.data.toList, by simp⟩
 rw [sz] at hs0
 exact (all_any l0 W hs0).mono fun _ _ h => ⟨h.1, below_of_none h.2⟩
set_option maxRecDepth 100000 in
theorem all_lifted (os : Os) (started : os.Started) (H : Type) (enc : TypeId × Value → H) :
  ReturnsInHanded {} Try.checked os 3 .any (Rows.parseAllSpec.pre6 enc Try.prog Try.f3 Rows.parseAllRow.domain false) (Rows.parseAllSpec.post enc Try.prog Try.f3 false true false false) :=
 law_lifted started (spec := Rows.parseAllSpec) Try.func3 (by kernel_rfl) rfl Try.underlying4 rfl
  (fun ds h => by rw [Try.params3] at h; match ds, h with | [d0], _ => rfl)
  (by rw [Try.params3]; intro t ht; simp at ht; subst ht <;> exact ⟨by kernel_rfl, of_decide_eq_true (by kernel_rfl)⟩)
  (ChangeSpec.witness6 (enc := enc) (C := Try.checked) false ⟨#[], #[.string ⟨#[]⟩], []⟩ 8 (by kernel_rfl) (by kernel_rfl) (by kernel_rfl) (by kernel_rfl))
  (fun W base args ds p hval hA hlt hsz => all_walk W base args ds p hval hA hlt hsz)
theorem all_holds : Rows.ParseAllSaid :=
 OpenClaim.holds_of_wide 3 Try.f3 rfl rfl rfl rfl rfl rfl rfl ⟨rfl, rfl, rfl, rfl, rfl⟩ rfl rfl rfl rfl rfl (by kernel_rfl) Try.func3 (by kernel_rfl)
  (of_decide_eq_true (by kernel_rfl)) (by unfold Func.isWrapper; first | (rw [if_pos (by decide +kernel)]; kernel_rfl) | (rw [if_neg (by decide +kernel)]; exact ⟨rfl, rfl⟩))
  (fun os started H enc _ => all_lifted os started H enc)
end Go.Proofs.Ytgpfjcogaheopaa
