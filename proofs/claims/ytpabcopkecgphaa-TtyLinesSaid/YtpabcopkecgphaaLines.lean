/- TtyLines: whatever the texts and the feeds, the law answers true and leaves its arguments as they were. No condition. -/
import Derived.Test.YtpabcopkecgphaaK
import Derived.ChangeMaps5

namespace Go.Proofs.Ytpabcopkecgphaa
open Go.ChangeShapes Go.WideShapes Go.ChangeAt Go.RowKit

theorem lines_walk {H : Type} {enc : TypeId × Value → H} (W : World) (base : Nat) (args : Array Value) (ds : List (DataW H)) (p : List MemPlace)
    (hval : ∀ (j : Nat) t v, Try.f3.params[j]? = some t → args[j]? = some v → Value.okWide Try.prog W .any base t v)
    (hA : DataW.TrodAll enc Try.prog W 0 (fun _ => true) true Try.f3.params.toList args.toList ds p) (hlt : ∀ x ∈ p, x.block < W.heap.size)
    (_hsz : (DataW.weightsEach Try.prog Try.f3.params.toList ds).all (· ≤ reachBytes) = true) :
    Calls Try.prog 3 args W fun e W' => e = .returned (.bool true) ∧ Below W.heap.size W W' := by
  rw [Try.params3] at hA hval
  obtain ⟨args⟩ := args
  obtain ⟨v0, vs0, d0, ds0, a0, b0, hargs, rfl, rfl, h0, r0⟩ := trodAll_cons hA
  obtain ⟨v1, vs1, d1, ds1, a1, b1, rfl, rfl, rfl, h1, r1⟩ := trodAll_cons r0
  obtain ⟨rfl, rfl, rfl⟩ := trodAll_nil r1
  simp at hargs
  subst hargs
  obtain ⟨p0, len0, cap0, rfl, hl0, ho0⟩ := strs_of_trod Try.underlying22 Try.underlying9 (by kernel_rfl) h0 (fun x hx => hlt x (by simp [hx])) (okWide_slice Try.underlying22 (hval 0 22 v0 rfl rfl))
  obtain ⟨p1, len1, cap1, rfl, hl1, ho1⟩ := bools_of_trod Try.underlying23 Try.underlying4 (by kernel_rfl) h1 (fun x hx => hlt x (by simp [hx])) (okWide_slice Try.underlying23 (hval 1 23 v1 rfl rfl))
  exact lines_any p0 len0 cap0 hl0 p1 len1 cap1 hl1 W ho0 ho1

set_option maxRecDepth 100000 in
theorem lines_lifted (os : Os) (started : os.Started) (H : Type) (enc : TypeId × Value → H) :
    ReturnsInHanded {} Try.checked os 3 .any (Rows.ttyLinesSpec.pre6 enc Try.prog Try.f3 Rows.ttyLinesRow.domain false) (Rows.ttyLinesSpec.post enc Try.prog Try.f3 false true false false) :=
  law_lifted started (spec := Rows.ttyLinesSpec) Try.func3 (by kernel_rfl) rfl Try.underlying4 rfl
    (fun ds h => by rw [Try.params3] at h; match ds, h with | [d0, d1], _ => rfl)
    (by rw [Try.params3]; intro t ht; simp at ht; rcases ht with rfl | rfl <;> exact ⟨by kernel_rfl, of_decide_eq_true (by kernel_rfl)⟩)
    (ChangeSpec.witness6 (enc := enc) (C := Try.checked) false ⟨#[], #[.slice none 0 0, .slice none 0 0], []⟩ 8 (by kernel_rfl) (by kernel_rfl) (by kernel_rfl) (by kernel_rfl))
    (fun W base args ds p hval hA hlt hsz => lines_walk W base args ds p hval hA hlt hsz)

theorem lines_holds : Rows.TtyLinesSaid :=
  OpenClaim.holds_of_wide 3 Try.f3 rfl rfl rfl rfl rfl rfl rfl ⟨rfl, rfl, rfl, rfl, rfl⟩ rfl rfl rfl rfl rfl (by kernel_rfl) Try.func3 (by kernel_rfl)
    (of_decide_eq_true (by kernel_rfl)) (by unfold Func.isWrapper; first | (rw [if_pos (by decide +kernel)]; kernel_rfl) | (rw [if_neg (by decide +kernel)]; exact ⟨rfl, rfl⟩))
    (fun os started H enc _ => lines_lifted os started H enc)

end Go.Proofs.Ytpabcopkecgphaa
