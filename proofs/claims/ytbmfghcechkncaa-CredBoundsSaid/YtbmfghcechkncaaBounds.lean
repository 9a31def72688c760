/- CredBounds: whatever the number, the law answers true. No condition. -/
import Derived.Test.YtbmfghcechkncaaLd
import Derived.Test.YtbmfghcechkncaaLaw
namespace Go.Proofs.Ytbmfghcechkncaa
open Go.ChangeShapes Go.WideShapes Go.ChangeAt Go.RowKit

theorem bounds_walk {H : Type} {enc : TypeId × Value → H} (W : World) (base : Nat) (args : Array Value) (ds : List (DataW H)) (p : List MemPlace)
    (hval : ∀ (j : Nat) t v, Try.f8.params[j]? = some t → args[j]? = some v → Value.okWide Try.prog W .any base t v)
    (hA : DataW.TrodAll enc Try.prog W 0 (fun _ => true) true Try.f8.params.toList args.toList ds p) (_hlt : ∀ x ∈ p, x.block < W.heap.size)
    (_hsz : (DataW.weightsEach Try.prog Try.f8.params.toList ds).all (· ≤ reachBytes) = true) :
    Calls Try.prog 8 args W fun e W' => e = .returned (.bool true) ∧ Below W.heap.size W W' := by
  rw [Try.params8] at hA hval
  obtain ⟨args⟩ := args
  obtain ⟨v0, vs0, d0, ds0, a0, b0, hargs, rfl, rfl, h0, r0⟩ := trodAll_cons hA
  obtain ⟨rfl, rfl, rfl⟩ := trodAll_nil r0
  simp at hargs
  subst hargs
  obtain ⟨x0, rfl, rfl, rfl, _⟩ := open_int Try.underlying3 (hval 0 3 v0 rfl rfl) h0
  exact (bounds_any x0 W).mono fun e W' ⟨he, hg⟩ => ⟨he, below_of_none hg⟩

set_option maxRecDepth 100000 in
theorem bounds_lifted (os : Os) (started : os.Started) (H : Type) (enc : TypeId × Value → H) :
    ReturnsInHanded {} Try.checked os 8 .any (Rows.credBoundsSpec.pre6 enc Try.prog Try.f8 Rows.credBoundsRow.domain false) (Rows.credBoundsSpec.post enc Try.prog Try.f8 false true false false) :=
  law_lifted started (spec := Rows.credBoundsSpec) Try.func8 (by kernel_rfl) rfl Try.underlying4 rfl
    (fun ds h => by rw [Try.params8] at h; match ds, h with | [d0], _ => rfl)
    (by rw [Try.params8]; intro t ht; simp at ht; subst ht <;> exact ⟨by kernel_rfl, of_decide_eq_true (by kernel_rfl)⟩)
    (ChangeSpec.witness6 (enc := enc) (C := Try.checked) false ⟨#[], #[.int .i64 0], []⟩ 8 (by kernel_rfl) (by kernel_rfl) (by kernel_rfl) (by kernel_rfl))
    (fun W base args ds p hval hA hlt hsz => bounds_walk W base args ds p hval hA hlt hsz)

theorem bounds_holds : Rows.CredBoundsSaid :=
  OpenClaim.holds_of_wide 8 Try.f8 rfl rfl rfl rfl rfl rfl rfl ⟨rfl, rfl, rfl, rfl, rfl⟩ rfl rfl rfl rfl rfl (by kernel_rfl) Try.func8 (by kernel_rfl)
    (of_decide_eq_true (by kernel_rfl)) (by unfold Func.isWrapper; first | (rw [if_pos (by decide +kernel)]; kernel_rfl) | (rw [if_neg (by decide +kernel)]; exact ⟨rfl, rfl⟩))
    (fun os started H enc _ => bounds_lifted os started H enc)

end Go.Proofs.Ytbmfghcechkncaa
