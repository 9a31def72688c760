/- LexSigns: whatever the numbers and the mark, the law answers true and leaves its arguments as they were. No condition. -/
import Derived.Test.YtnamfafpdlieeaaQ
import Derived.Test.YtnamfafpdlieeaaLaw
import Derived.ChangeMaps5
import Derived.OpenShut

namespace Go.Proofs.Ytnamfafpdlieeaa
open Go.ChangeShapes Go.WideShapes Go.ChangeAt Go.RowKit

theorem signs_walk {H : Type} {enc : TypeId × Value → H} (W : World) (base : Nat) (args : Array Value) (ds : List (DataW H)) (p : List MemPlace)
    (hval : ∀ (j : Nat) t v, Try.f6.params[j]? = some t → args[j]? = some v → Value.okWide Try.prog W .any base t v)
    (hA : DataW.TrodAll enc Try.prog W 0 (fun _ => true) true Try.f6.params.toList args.toList ds p) (hlt : ∀ x ∈ p, x.block < W.heap.size)
    (_hsz : (DataW.weightsEach Try.prog Try.f6.params.toList ds).all (· ≤ reachBytes) = true) :
    Calls Try.prog 6 args W fun e W' => e = .returned (.bool true) ∧ Below W.heap.size W W' := by
  rw [Try.params6] at hA hval
  obtain ⟨args⟩ := args
  obtain ⟨v0, vs0, d0, ds0, a0, b0, hargs, rfl, rfl, h0, r0⟩ := trodAll_cons hA
  obtain ⟨v1, vs1, d1, ds1, a1, b1, rfl, rfl, rfl, h1, r1⟩ := trodAll_cons r0
  obtain ⟨rfl, rfl, rfl⟩ := trodAll_nil r1
  simp at hargs
  subst hargs
  obtain ⟨p0, len0, cap0, rfl, hl0, ho0⟩ := ints_of_trod Try.underlying33 Try.underlying3 (by kernel_rfl) h0 (fun x hx => hlt x (by simp [hx])) (okWide_slice Try.underlying33 (hval 0 33 v0 rfl rfl))
  obtain ⟨b1, rfl, rfl, rfl⟩ := open_bool Try.underlying4 (hval 1 4 v1 rfl rfl) h1
  exact (signs_law p0 len0 cap0 b1 W hl0 ho0).mono fun _ _ h => ⟨h.1, below_of_none h.2⟩

set_option maxRecDepth 100000 in
theorem signs_lifted (os : Os) (started : os.Started) (H : Type) (enc : TypeId × Value → H) :
    ReturnsInHanded {} Try.checked os 6 .any (Rows.lexSignsSpec.pre6 enc Try.prog Try.f6 Rows.lexSignsRow.domain false) (Rows.lexSignsSpec.post enc Try.prog Try.f6 false true false false) :=
  law_lifted started (spec := Rows.lexSignsSpec) Try.func6 (by kernel_rfl) rfl Try.underlying4 rfl
    (fun ds h => by rw [Try.params6] at h; match ds, h with | [d0, d1], _ => rfl)
    (by rw [Try.params6]; intro t ht; simp at ht; rcases ht with rfl | rfl <;> exact ⟨by kernel_rfl, of_decide_eq_true (by kernel_rfl)⟩)
    (ChangeSpec.witness6 (enc := enc) (C := Try.checked) false ⟨#[], #[.slice none 0 0, .bool false], []⟩ 8 (by kernel_rfl) (by kernel_rfl) (by kernel_rfl) (by kernel_rfl))
    (fun W base args ds p hval hA hlt hsz => signs_walk W base args ds p hval hA hlt hsz)

theorem signs_holds : Rows.LexSignsSaid :=
  OpenClaim.holds_of_wide 6 Try.f6 rfl rfl rfl rfl rfl rfl rfl ⟨rfl, rfl, rfl, rfl, rfl⟩ rfl rfl rfl rfl rfl (by kernel_rfl) Try.func6 (by kernel_rfl)
    (of_decide_eq_true (by kernel_rfl)) (by unfold Func.isWrapper; first | (rw [if_pos (by decide +kernel)]; kernel_rfl) | (rw [if_neg (by decide +kernel)]; exact ⟨rfl, rfl⟩))
    (fun os started H enc _ => signs_lifted os started H enc)

end Go.Proofs.Ytnamfafpdlieeaa
