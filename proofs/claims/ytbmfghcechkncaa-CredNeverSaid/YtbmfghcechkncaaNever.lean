/- CredNever: whatever the numbers and the steps, the law answers true and leaves its arguments as they were. No condition. -/
import Derived.Test.YtbmfghcechkncaaLf
import Derived.Test.YtbmfghcechkncaaOpen
namespace Go.Proofs.Ytbmfghcechkncaa
open Go.ChangeShapes Go.WideShapes Go.ChangeAt Go.RowKit Go.Deep

theorem ops_of_trod {H : Type} {enc : TypeId × Value → H} {W : World} {v : Value} {d : DataW H} {p : List MemPlace}
    (hf : DataW.Trod enc Try.prog W 0 (fun _ => true) true 32 v d p) (hlt : ∀ x ∈ p, x.block < W.heap.size) (hv : ∃ a len cap, v = .slice a len cap) :
    ∃ a len cap, v = .slice a len cap ∧ len ≤ 9223372036854775807 ∧ OpsIn W a len := by
  obtain ⟨a0, len0, cap0, rfl⟩ := hv
  obtain ⟨fuel, hf⟩ := hf
  rcases open_slice_fields Try.underlying32 Try.underlying34 (by kernel_rfl) (by kernel_rfl) hf with ⟨hcs, hx⟩ | ⟨a, len, cap, m, D, Pl, hcs, _, hl, hm, hmm, hx, hi⟩
  · simp [Value.cells] at hcs
    obtain ⟨rfl, rfl, rfl⟩ := hcs
    exact ⟨none, 0, 0, rfl, by omega, fun i h => absurd h (by omega)⟩
  · simp [Value.cells] at hcs
    obtain ⟨rfl, rfl, rfl⟩ := hcs
    simp only [if_true] at hmm
    subst hmm
    unfold maxLen at hm
    refine ⟨some a, len0, m, rfl, by omega, fun i h => ?_⟩
    obtain ⟨_, _, _, _, _, h0⟩ := hi 0 (by omega)
    obtain ⟨v0, y0, c0, _, _⟩ := h0 0 _ rfl
    obtain ⟨b, off, rfl⟩ := addr_plain (by simpa using c0)
    obtain ⟨ys, n, _, _, _, hcell⟩ := hi i (by omega)
    obtain ⟨u0, z0, e0, _, t0⟩ := hcell 0 _ rfl
    obtain ⟨u1, z1, e1, _, t1⟩ := hcell 1 _ rfl
    obtain ⟨u2, z2, e2, _, t2⟩ := hcell 2 _ rfl
    obtain ⟨k, hk, _, _⟩ := DataW.trod_int Try.underlying3 t0
    obtain ⟨q, hq, _, _⟩ := DataW.trod_int Try.underlying3 t1
    obtain ⟨c, hc, _, _⟩ := DataW.trod_int Try.underlying3 t2
    simp only [List.cons.injEq, and_true] at hk hq hc
    subst hk; subst hq; subst hc
    rw [Addr.add_lit] at e0 e1 e2
    refine ⟨b, off, k, q, c, rfl, ?_, ?_, ?_, ?_⟩
    · have hx' : p = _ := congrArg Prod.snd hx
      refine hlt (MemPlace.cell b off) ?_
      rw [hx']
      refine List.mem_append_left _ ?_
      simp [MemPlace.row]
      omega
    · simpa using e0
    · simpa [Nat.add_assoc] using e1
    · simpa [Nat.add_assoc] using e2

theorem never_walk {H : Type} {enc : TypeId × Value → H} (W : World) (base : Nat) (args : Array Value) (ds : List (DataW H)) (p : List MemPlace)
    (hval : ∀ (j : Nat) t v, Try.f5.params[j]? = some t → args[j]? = some v → Value.okWide Try.prog W .any base t v)
    (hA : DataW.TrodAll enc Try.prog W 0 (fun _ => true) true Try.f5.params.toList args.toList ds p) (hlt : ∀ x ∈ p, x.block < W.heap.size)
    (_hsz : (DataW.weightsEach Try.prog Try.f5.params.toList ds).all (· ≤ reachBytes) = true) :
    Calls Try.prog 5 args W fun e W' => e = .returned (.bool true) ∧ Below W.heap.size W W' := by
  rw [Try.params5] at hA hval
  obtain ⟨args⟩ := args
  obtain ⟨v0, vs0, d0, ds0, a0, b0, hargs, rfl, rfl, h0, r0⟩ := trodAll_cons hA
  obtain ⟨v1, vs1, d1, ds1, a1, b1, rfl, rfl, rfl, h1, r1⟩ := trodAll_cons r0
  obtain ⟨v2, vs2, d2, ds2, a2, b2, rfl, rfl, rfl, h2, r2⟩ := trodAll_cons r1
  obtain ⟨rfl, rfl, rfl⟩ := trodAll_nil r2
  simp at hargs
  subst hargs
  obtain ⟨x0, rfl, rfl, rfl, _⟩ := open_int Try.underlying3 (hval 0 3 v0 rfl rfl) h0
  obtain ⟨x1, rfl, rfl, rfl, _⟩ := open_int Try.underlying3 (hval 1 3 v1 rfl rfl) h1
  obtain ⟨a, len, cap, rfl, hl, ho⟩ := ops_of_trod h2 (fun x hx => hlt x (by simp [hx])) (okWide_slice Try.underlying32 (hval 2 32 v2 rfl rfl))
  exact (never_any x0 x1 a len cap hl W ho).mono fun e W' ⟨he, hg⟩ => ⟨he, below_of_none hg⟩

set_option maxRecDepth 100000 in
theorem never_lifted (os : Os) (started : os.Started) (H : Type) (enc : TypeId × Value → H) :
    ReturnsInHanded {} Try.checked os 5 .any (Rows.credNeverSpec.pre6 enc Try.prog Try.f5 Rows.credNeverRow.domain false) (Rows.credNeverSpec.post enc Try.prog Try.f5 false true false false) :=
  law_lifted started (spec := Rows.credNeverSpec) Try.func5 (by kernel_rfl) rfl Try.underlying4 rfl
    (fun ds h => by rw [Try.params5] at h; match ds, h with | [d0, d1, d2], _ => rfl)
    (by rw [Try.params5]; intro t ht; simp at ht; rcases ht with rfl | rfl <;> exact ⟨by kernel_rfl, of_decide_eq_true (by kernel_rfl)⟩)
    (ChangeSpec.witness6 (enc := enc) (C := Try.checked) false ⟨#[], #[.int .i64 0, .int .i64 0, .slice none 0 0], []⟩ 8 (by kernel_rfl) (by kernel_rfl) (by kernel_rfl) (by kernel_rfl))
    (fun W base args ds p hval hA hlt hsz => never_walk W base args ds p hval hA hlt hsz)

theorem never_holds : Rows.CredNeverSaid :=
  OpenClaim.holds_of_wide 5 Try.f5 rfl rfl rfl rfl rfl rfl rfl ⟨rfl, rfl, rfl, rfl, rfl⟩ rfl rfl rfl rfl rfl (by kernel_rfl) Try.func5 (by kernel_rfl)
    (of_decide_eq_true (by kernel_rfl)) (by unfold Func.isWrapper; first | (rw [if_pos (by decide +kernel)]; kernel_rfl) | (rw [if_neg (by decide +kernel)]; exact ⟨rfl, rfl⟩))
    (fun os started H enc _ => never_lifted os started H enc)

end Go.Proofs.Ytbmfghcechkncaa
