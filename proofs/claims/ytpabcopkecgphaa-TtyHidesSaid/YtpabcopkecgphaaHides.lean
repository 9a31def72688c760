/- TtyHides: whatever the texts and the numbers, the law answers true and leaves its arguments as they were. No condition. -/
import Derived.Test.YtpabcopkecgphaaO
import Derived.ChangeMaps5

namespace Go.Proofs.Ytpabcopkecgphaa
open Go.ChangeShapes Go.WideShapes Go.ChangeAt Go.RowKit

theorem hides_walk {H : Type} {enc : TypeId × Value → H} (W : World) (base : Nat) (args : Array Value) (ds : List (DataW H)) (p : List MemPlace)
    (hval : ∀ (j : Nat) t v, Try.f6.params[j]? = some t → args[j]? = some v → Value.okWide Try.prog W .any base t v)
    (hA : DataW.TrodAll enc Try.prog W 0 (fun _ => true) true Try.f6.params.toList args.toList ds p) (hlt : ∀ x ∈ p, x.block < W.heap.size)
    (_hsz : (DataW.weightsEach Try.prog Try.f6.params.toList ds).all (· ≤ reachBytes) = true) :
    Calls Try.prog 6 args W fun e W' => e = .returned (.bool true) ∧ Below W.heap.size W W' := by
  rw [Try.params6] at hA hval
  obtain ⟨args⟩ := args
  obtain ⟨v0, vs0, d0, ds0, a0, b0, hargs, rfl, rfl, h0, r0⟩ := trodAll_cons hA
  obtain ⟨v1, vs1, d1, ds1, a1, b1, rfl, rfl, rfl, h1, r1⟩ := trodAll_cons r0
  obtain ⟨v2, vs2, d2, ds2, a2, b2, rfl, rfl, rfl, h2, r2⟩ := trodAll_cons r1
  obtain ⟨rfl, rfl, rfl⟩ := trodAll_nil r2
  simp at hargs
  subst hargs
  obtain ⟨s0, rfl, rfl, rfl, hs0⟩ := Go.ChangeMaps.open_string Try.underlying9 (hval 0 9 v0 rfl rfl) h0
  obtain ⟨p1, len1, cap1, rfl, hl1, ho1⟩ := strs_of_trod Try.underlying22 Try.underlying9 (by kernel_rfl) h1 (fun x hx => hlt x (by simp [hx])) (okWide_slice Try.underlying22 (hval 1 22 v1 rfl rfl))
  obtain ⟨p2, len2, cap2, rfl, hl2, ho2⟩ := ints_of_trod Try.underlying35 Try.underlying3 (by kernel_rfl) h2 (fun x hx => hlt x (by simp [hx])) (okWide_slice Try.underlying35 (hval 2 35 v2 rfl rfl))
  exact hides_any s0 hs0 p1 len1 cap1 hl1 p2 len2 cap2 hl2 W ho1 ho2

set_option maxRecDepth 100000 in
theorem hides_lifted (os : Os) (started : os.Started) (H : Type) (enc : TypeId × Value → H) :
    ReturnsInHanded {} Try.checked os 6 .any (Rows.ttyHidesSpec.pre6 enc Try.prog Try.f6 Rows.ttyHidesRow.domain false) (Rows.ttyHidesSpec.post enc Try.prog Try.f6 false true false false) :=
  law_lifted started (spec := Rows.ttyHidesSpec) Try.func6 (by kernel_rfl) rfl Try.underlying4 rfl
    (fun ds h => by rw [Try.params6] at h; match ds, h with | [d0, d1, d2], _ => rfl)
    (by rw [Try.params6]; intro t ht; simp at ht; rcases ht with rfl | rfl | rfl <;> exact ⟨by kernel_rfl, of_decide_eq_true (by kernel_rfl)⟩)
    (ChangeSpec.witness6 (enc := enc) (C := Try.checked) false ⟨#[], #[.string ⟨#[]⟩, .slice none 0 0, .slice none 0 0], []⟩ 8 (by kernel_rfl) (by kernel_rfl) (by kernel_rfl) (by kernel_rfl))
    (fun W base args ds p hval hA hlt hsz => hides_walk W base args ds p hval hA hlt hsz)

theorem hides_holds : Rows.TtyHidesSaid :=
  OpenClaim.holds_of_wide 6 Try.f6 rfl rfl rfl rfl rfl rfl rfl ⟨rfl, rfl, rfl, rfl, rfl⟩ rfl rfl rfl rfl rfl (by kernel_rfl) Try.func6 (by kernel_rfl)
    (of_decide_eq_true (by kernel_rfl)) (by unfold Func.isWrapper; first | (rw [if_pos (by decide +kernel)]; kernel_rfl) | (rw [if_neg (by decide +kernel)]; exact ⟨rfl, rfl⟩))
    (fun os started H enc _ => hides_lifted os started H enc)

end Go.Proofs.Ytpabcopkecgphaa
