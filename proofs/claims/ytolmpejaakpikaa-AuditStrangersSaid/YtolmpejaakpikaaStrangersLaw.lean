/- AuditStrangers: whatever the three numbers, the law answers true. No condition. -/
import Derived.Test.YtolmpejaakpikaaS3
import Derived.Test.YtolmpejaakpikaaO
import Derived.ChangeMaps5
import Derived.OpenShut
set_option linter.all false

namespace Go.Proofs.Ytolmpejaakpikaa
open Go.ChangeShapes Go.WideShapes Go.ChangeAt Go.RowKit

theorem strangers_walk {H : Type} {enc : TypeId × Value → H} (W : World) (base : Nat) (args : Array Value) (ds : List (DataW H)) (p : List MemPlace)
    (hval : ∀ (j : Nat) t v, Try.f5.params[j]? = some t → args[j]? = some v → Value.okWide Try.prog W .any base t v)
    (hA : DataW.TrodAll enc Try.prog W 0 (fun _ => true) true Try.f5.params.toList args.toList ds p) (hlt : ∀ x ∈ p, x.block < W.heap.size)
    (_hsz : (DataW.weightsEach Try.prog Try.f5.params.toList ds).all (· ≤ reachBytes) = true) :
    Calls Try.prog 5 args W fun e W' => e = .returned (.bool true) ∧ Below W.heap.size W W' := by
  rw [Try.params5] at hA hval
  obtain ⟨args⟩ := args
  obtain ⟨v0, vs0, d0, ds0, a0, b0, hargs, rfl, rfl, h0, r0⟩ := trodAll_cons hA
  obtain ⟨v1, vs1, d1, ds1, a1, b1, rfl, rfl, rfl, h1, r1⟩ := trodAll_cons r0
  obtain ⟨v2, vs2, d2, ds2, a2, b2, rfl, rfl, rfl, h2, r2⟩ := trodAll_cons r1
  obtain ⟨rfl, rfl, rfl⟩ := trodAll_nil r2
  simp at hargs
  subst hargs
  obtain ⟨n0, rfl, rfl, rfl, hw0⟩ := open_int Try.underlying3 (hval 0 3 v0 rfl rfl) h0
  obtain ⟨n1, rfl, rfl, rfl, hw1⟩ := open_int Try.underlying3 (hval 1 3 v1 rfl rfl) h1
  obtain ⟨n2, rfl, rfl, rfl, hw2⟩ := open_int Try.underlying3 (hval 2 3 v2 rfl rfl) h2
  exact (strangers_any n0 n1 n2 W).mono fun _ _ h => ⟨h.1, below_of_none h.2⟩

set_option maxRecDepth 100000 in
theorem strangers_lifted (os : Os) (started : os.Started) (H : Type) (enc : TypeId × Value → H) :
    ReturnsInHanded {} Try.checked os 5 .any (Rows.auditStrangersSpec.pre6 enc Try.prog Try.f5 Rows.auditStrangersRow.domain false) (Rows.auditStrangersSpec.post enc Try.prog Try.f5 false true false false) :=
  law_lifted started (spec := Rows.auditStrangersSpec) Try.func5 (by kernel_rfl) rfl Try.underlying4 rfl
    (fun ds h => by rw [Try.params5] at h; match ds, h with | [d0, d1, d2], _ => rfl)
    (by rw [Try.params5]; intro t ht; simp at ht; rcases ht with rfl | rfl | rfl <;> exact ⟨by kernel_rfl, of_decide_eq_true (by kernel_rfl)⟩)
    (ChangeSpec.witness6 (enc := enc) (C := Try.checked) false ⟨#[], #[.int .i64 0, .int .i64 0, .int .i64 0], []⟩ 8 (by kernel_rfl) (by kernel_rfl) (by kernel_rfl) (by kernel_rfl))
    (fun W base args ds p hval hA hlt hsz => strangers_walk W base args ds p hval hA hlt hsz)

theorem strangers_holds : Rows.AuditStrangersSaid :=
  OpenClaim.holds_of_wide 5 Try.f5 rfl rfl rfl rfl rfl rfl rfl ⟨rfl, rfl, rfl, rfl, rfl⟩ rfl rfl rfl rfl rfl (by kernel_rfl) Try.func5 (by kernel_rfl)
    (of_decide_eq_true (by kernel_rfl)) (by unfold Func.isWrapper; first | (rw [if_pos (by decide +kernel)]; kernel_rfl) | (rw [if_neg (by decide +kernel)]; exact ⟨rfl, rfl⟩))
    (fun os started H enc _ => strangers_lifted os started H enc)

end Go.Proofs.Ytolmpejaakpikaa
