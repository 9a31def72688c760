/- GlobStars: whatever the texts, the gaps and the pattern, the law answers true and leaves its arguments as they were. No condition. -/
import Derived.Test.YtphjafidencdeaaS
import Derived.Test.YtphjafidencdeaaLaw
import Derived.ChangeMaps5
import Derived.OpenShut

namespace Go.Proofs.Ytphjafidencdeaa
open Go.ChangeShapes Go.WideShapes Go.ChangeAt Go.RowKit

theorem stars_walk {H : Type} {enc : TypeId × Value → H} (W : World) (base : Nat) (args : Array Value) (ds : List (DataW H)) (p : List MemPlace)
    (hval : ∀ (j : Nat) t v, Try.f8.params[j]? = some t → args[j]? = some v → Value.okWide Try.prog W .any base t v)
    (hA : DataW.TrodAll enc Try.prog W 0 (fun _ => true) true Try.f8.params.toList args.toList ds p) (hlt : ∀ x ∈ p, x.block < W.heap.size)
    (_hsz : (DataW.weightsEach Try.prog Try.f8.params.toList ds).all (· ≤ reachBytes) = true) :
    Calls Try.prog 8 args W fun e W' => e = .returned (.bool true) ∧ Below W.heap.size W W' := by
  rw [Try.params8] at hA hval
  obtain ⟨args⟩ := args
  obtain ⟨v0, vs0, d0, ds0, a0, b0, hargs, rfl, rfl, h0, r0⟩ := trodAll_cons hA
  obtain ⟨v1, vs1, d1, ds1, a1, b1, rfl, rfl, rfl, h1, r1⟩ := trodAll_cons r0
  obtain ⟨v2, vs2, d2, ds2, a2, b2, rfl, rfl, rfl, h2, r2⟩ := trodAll_cons r1
  obtain ⟨rfl, rfl, rfl⟩ := trodAll_nil r2
  simp at hargs
  subst hargs
  obtain ⟨p0, len0, cap0, rfl, hl0, ho0⟩ := strs_of_trod Try.underlying30 Try.underlying9 (by kernel_rfl) h0 (fun x hx => hlt x (by simp [hx])) (okWide_slice Try.underlying30 (hval 0 30 v0 rfl rfl))
  obtain ⟨p1, len1, cap1, rfl, hl1, ho1⟩ := strs_of_trod Try.underlying30 Try.underlying9 (by kernel_rfl) h1 (fun x hx => hlt x (by simp [hx])) (okWide_slice Try.underlying30 (hval 1 30 v1 rfl rfl))
  obtain ⟨s2, rfl, rfl, rfl, hs2⟩ := Go.ChangeMaps.open_string Try.underlying9 (hval 2 9 v2 rfl rfl) h2
  obtain ⟨l2, rfl⟩ : ∃ l : List UInt8, s2 = ⟨l.toArray⟩ := ⟨s2.data.toList, by simp⟩
  rw [sz] at hs2
  exact (stars_any p0 p1 len0 cap0 len1 cap1 l2 W hl0 hl1 ho0 ho1).mono fun _ _ h => ⟨h.1, below_of_none h.2⟩

set_option maxRecDepth 100000 in
theorem stars_lifted (os : Os) (started : os.Started) (H : Type) (enc : TypeId × Value → H) :
    ReturnsInHanded {} Try.checked os 8 .any (Rows.globStarsSpec.pre6 enc Try.prog Try.f8 Rows.globStarsRow.domain false) (Rows.globStarsSpec.post enc Try.prog Try.f8 false true false false) :=
  law_lifted started (spec := Rows.globStarsSpec) Try.func8 (by kernel_rfl) rfl Try.underlying4 rfl
    (fun ds h => by rw [Try.params8] at h; match ds, h with | [d0, d1, d2], _ => rfl)
    (by rw [Try.params8]; intro t ht; simp at ht; rcases ht with rfl | rfl | rfl <;> exact ⟨by kernel_rfl, of_decide_eq_true (by kernel_rfl)⟩)
    (ChangeSpec.witness6 (enc := enc) (C := Try.checked) false ⟨#[], #[.slice none 0 0, .slice none 0 0, .string ⟨#[]⟩], []⟩ 8 (by kernel_rfl) (by kernel_rfl) (by kernel_rfl) (by kernel_rfl))
    (fun W base args ds p hval hA hlt hsz => stars_walk W base args ds p hval hA hlt hsz)

theorem stars_holds : Rows.GlobStarsSaid :=
  OpenClaim.holds_of_wide 8 Try.f8 rfl rfl rfl rfl rfl rfl rfl ⟨rfl, rfl, rfl, rfl, rfl⟩ rfl rfl rfl rfl rfl (by kernel_rfl) Try.func8 (by kernel_rfl)
    (of_decide_eq_true (by kernel_rfl)) (by unfold Func.isWrapper; first | (rw [if_pos (by decide +kernel)]; kernel_rfl) | (rw [if_neg (by decide +kernel)]; exact ⟨rfl, rfl⟩))
    (fun os started H enc _ => stars_lifted os started H enc)

end Go.Proofs.Ytphjafidencdeaa
