/- TtyPlays: whatever the steps, the law answers true and leaves its argument as it was. No condition. -/
import Derived.Test.YtpabcopkecgphaaW
import Derived.Test.YtpabcopkecgphaaArgs
import Derived.ChangeMaps5
import Derived.OpenShut

namespace Go.Proofs.Ytpabcopkecgphaa
open Go.ChangeShapes Go.WideShapes Go.ChangeAt Go.RowKit

open Go.Deep in
theorem opsin_of_trod {H : Type} {enc : TypeId × Value → H} {W : World} {v : Value} {d : DataW H} {p : List MemPlace}
    (hf : DataW.Trod enc Try.prog W 0 (fun _ => true) true 42 v d p) (hlt : ∀ x ∈ p, x.block < W.heap.size) (hv : ∃ a len cap, v = .slice a len cap) :
    ∃ a len cap, v = .slice a len cap ∧ len ≤ 9223372036854775807 ∧ OpsIn W a len := by
  obtain ⟨a0, len0, cap0, rfl⟩ := hv
  obtain ⟨fuel, hf⟩ := hf
  rcases open_slice_fields Try.underlying42 Try.underlying49 (by kernel_rfl) (by kernel_rfl) hf with ⟨hcs, hx⟩ | ⟨a, len, cap, m, D, Pl, hcs, _, hl, hm, hmm, hx, hi⟩
  · simp [Value.cells] at hcs
    obtain ⟨rfl, rfl, rfl⟩ := hcs
    exact ⟨none, 0, 0, rfl, by omega, fun i h => absurd h (by omega)⟩
  · simp [Value.cells] at hcs
    obtain ⟨rfl, rfl, rfl⟩ := hcs
    simp only [if_true] at hmm
    subst hmm
    unfold maxLen at hm
    refine ⟨some a, len0, m, rfl, by omega, fun i h => ?_⟩
    obtain ⟨_, _, _, _, _, h0⟩ := hi 0 (by omega)
    obtain ⟨v0, y0, c0, _, _⟩ := h0 0 _ rfl
    obtain ⟨b, off, rfl⟩ := addr_plain (by simpa using c0)
    obtain ⟨ys, n, _, _, _, hcell⟩ := hi i (by omega)
    obtain ⟨u0, z0, e0, _, t0⟩ := hcell 0 _ rfl
    obtain ⟨u1, z1, e1, _, t1⟩ := hcell 1 _ rfl
    obtain ⟨u2, z2, e2, _, t2⟩ := hcell 2 _ rfl
    obtain ⟨u3, z3, e3, _, t3⟩ := hcell 3 _ rfl
    obtain ⟨x0, q0, _, w0⟩ := DataW.trod_int Try.underlying3 t0
    obtain ⟨x1, q1, _, w1⟩ := DataW.trod_int Try.underlying3 t1
    obtain ⟨x2, q2, _, w2⟩ := DataW.trod_string Try.underlying9 t2
    obtain ⟨x3, q3, _⟩ := DataW.trod_bool Try.underlying4 t3
    simp only [List.cons.injEq, and_true] at q0 q1 q2 q3
    subst q0
    subst q1
    subst q2
    subst q3
    rw [Addr.add_lit] at e0 e1 e2 e3
    refine ⟨b, off, x0, x1, x2, x3, rfl, ?_, w0, w1, w2, ?_, ?_, ?_, ?_⟩
    · have hx' : p = _ := congrArg Prod.snd hx
      refine hlt (MemPlace.cell b off) ?_
      rw [hx']
      refine List.mem_append_left _ ?_
      simp [MemPlace.row]
      omega
    · simpa using e0
    · simpa [Nat.add_assoc] using e1
    · simpa [Nat.add_assoc] using e2
    · simpa [Nat.add_assoc] using e3

theorem plays_walk {H : Type} {enc : TypeId × Value → H} (W : World) (base : Nat) (args : Array Value) (ds : List (DataW H)) (p : List MemPlace)
    (hval : ∀ (j : Nat) t v, Try.f8.params[j]? = some t → args[j]? = some v → Value.okWide Try.prog W .any base t v)
    (hA : DataW.TrodAll enc Try.prog W 0 (fun _ => true) true Try.f8.params.toList args.toList ds p) (hlt : ∀ x ∈ p, x.block < W.heap.size)
    (_hsz : (DataW.weightsEach Try.prog Try.f8.params.toList ds).all (· ≤ reachBytes) = true) :
    Calls Try.prog 8 args W fun e W' => e = .returned (.bool true) ∧ Below W.heap.size W W' := by
  rw [Try.params8] at hA hval
  obtain ⟨args⟩ := args
  obtain ⟨v0, vs0, d0, ds0, a0, b0, hargs, rfl, rfl, h0, r0⟩ := trodAll_cons hA
  obtain ⟨rfl, rfl, rfl⟩ := trodAll_nil r0
  simp at hargs
  subst hargs
  obtain ⟨p0, len0, cap0, rfl, hl0, ho0⟩ := opsin_of_trod h0 (fun x hx => hlt x (by simp [hx])) (okWide_slice Try.underlying42 (hval 0 42 v0 rfl rfl))
  exact plays_any p0 len0 cap0 hl0 W ho0

set_option maxRecDepth 100000 in
theorem plays_lifted (os : Os) (started : os.Started) (H : Type) (enc : TypeId × Value → H) :
    ReturnsInHanded {} Try.checked os 8 .any (Rows.ttyPlaysSpec.pre6 enc Try.prog Try.f8 Rows.ttyPlaysRow.domain false) (Rows.ttyPlaysSpec.post enc Try.prog Try.f8 false true false false) :=
  law_lifted started (spec := Rows.ttyPlaysSpec) Try.func8 (by kernel_rfl) rfl Try.underlying4 rfl
    (fun ds h => by rw [Try.params8] at h; match ds, h with | [d0], _ => rfl)
    (by rw [Try.params8]; intro t ht; simp at ht; subst ht <;> exact ⟨by kernel_rfl, of_decide_eq_true (by kernel_rfl)⟩)
    (ChangeSpec.witness6 (enc := enc) (C := Try.checked) false ⟨#[], #[.slice none 0 0], []⟩ 8 (by kernel_rfl) (by kernel_rfl) (by kernel_rfl) (by kernel_rfl))
    (fun W base args ds p hval hA hlt hsz => plays_walk W base args ds p hval hA hlt hsz)

theorem plays_holds : Rows.TtyPlaysSaid :=
  OpenClaim.holds_of_wide 8 Try.f8 rfl rfl rfl rfl rfl rfl rfl ⟨rfl, rfl, rfl, rfl, rfl⟩ rfl rfl rfl rfl rfl (by kernel_rfl) Try.func8 (by kernel_rfl)
    (of_decide_eq_true (by kernel_rfl)) (by unfold Func.isWrapper; first | (rw [if_pos (by decide +kernel)]; kernel_rfl) | (rw [if_neg (by decide +kernel)]; exact ⟨rfl, rfl⟩))
    (fun os started H enc _ => plays_lifted os started H enc)

end Go.Proofs.Ytpabcopkecgphaa
