/- AuditParts: whatever the two lists of events, the law answers true and leaves its arguments as they were. No condition. -/
import Derived.Test.YtolmpejaakpikaaR2
import Derived.Test.YtolmpejaakpikaaO
import Derived.ChangeMaps5
import Derived.OpenShut
set_option linter.all false

namespace Go.Proofs.Ytolmpejaakpikaa
open Go.ChangeShapes Go.WideShapes Go.ChangeAt Go.RowKit

theorem parts_walk {H : Type} {enc : TypeId × Value → H} (W : World) (base : Nat) (args : Array Value) (ds : List (DataW H)) (p : List MemPlace)
    (hval : ∀ (j : Nat) t v, Try.f4.params[j]? = some t → args[j]? = some v → Value.okWide Try.prog W .any base t v)
    (hA : DataW.TrodAll enc Try.prog W 0 (fun _ => true) true Try.f4.params.toList args.toList ds p) (hlt : ∀ x ∈ p, x.block < W.heap.size)
    (_hsz : (DataW.weightsEach Try.prog Try.f4.params.toList ds).all (· ≤ reachBytes) = true) :
    Calls Try.prog 4 args W fun e W' => e = .returned (.bool true) ∧ Below W.heap.size W W' := by
  rw [Try.params4] at hA hval
  obtain ⟨args⟩ := args
  obtain ⟨v0, vs0, d0, ds0, a0, b0, hargs, rfl, rfl, h0, r0⟩ := trodAll_cons hA
  obtain ⟨v1, vs1, d1, ds1, a1, b1, rfl, rfl, rfl, h1, r1⟩ := trodAll_cons r0
  obtain ⟨rfl, rfl, rfl⟩ := trodAll_nil r1
  simp at hargs
  subst hargs
  obtain ⟨a0, len0, cap0, rfl, hl0, hc0, es, rfl, he, hg⟩ := evs_of_trod h0 (fun x hx => hlt x (by simp [hx])) (okWide_slice Try.underlying22 (hval 0 22 v0 rfl rfl))
  obtain ⟨a1, len1, cap1, rfl, hl1, hc1, es1, rfl, he1, hg1⟩ := evs_of_trod h1 (fun x hx => hlt x (by simp [hx])) (okWide_slice Try.underlying22 (hval 1 22 v1 rfl rfl))
  exact (parts_any a0 a1 cap0 cap1 es es1 W he he1 hl0 hc0 hl1 hc1 hg hg1).mono fun _ _ h => ⟨h.1, below_of_none h.2⟩

set_option maxRecDepth 100000 in
theorem parts_lifted (os : Os) (started : os.Started) (H : Type) (enc : TypeId × Value → H) :
    ReturnsInHanded {} Try.checked os 4 .any (Rows.auditPartsSpec.pre6 enc Try.prog Try.f4 Rows.auditPartsRow.domain false) (Rows.auditPartsSpec.post enc Try.prog Try.f4 false true false false) :=
  law_lifted started (spec := Rows.auditPartsSpec) Try.func4 (by kernel_rfl) rfl Try.underlying4 rfl
    (fun ds h => by rw [Try.params4] at h; match ds, h with | [d0, d1], _ => rfl)
    (by rw [Try.params4]; intro t ht; simp at ht; rcases ht with rfl | rfl <;> exact ⟨by kernel_rfl, of_decide_eq_true (by kernel_rfl)⟩)
    (ChangeSpec.witness6 (enc := enc) (C := Try.checked) false ⟨#[], #[.slice none 0 0, .slice none 0 0], []⟩ 8 (by kernel_rfl) (by kernel_rfl) (by kernel_rfl) (by kernel_rfl))
    (fun W base args ds p hval hA hlt hsz => parts_walk W base args ds p hval hA hlt hsz)

theorem parts_holds : Rows.AuditPartsSaid :=
  OpenClaim.holds_of_wide 4 Try.f4 rfl rfl rfl rfl rfl rfl rfl ⟨rfl, rfl, rfl, rfl, rfl⟩ rfl rfl rfl rfl rfl (by kernel_rfl) Try.func4 (by kernel_rfl)
    (of_decide_eq_true (by kernel_rfl)) (by unfold Func.isWrapper; first | (rw [if_pos (by decide +kernel)]; kernel_rfl) | (rw [if_neg (by decide +kernel)]; exact ⟨rfl, rfl⟩))
    (fun os started H enc _ => parts_lifted os started H enc)

end Go.Proofs.Ytolmpejaakpikaa
