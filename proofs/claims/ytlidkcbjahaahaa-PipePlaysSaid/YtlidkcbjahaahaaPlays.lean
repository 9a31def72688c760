/- PipePlays: whatever the steps, the law answers true and leaves its argument as it was. No condition. -/
import Derived.Test.YtlidkcbjahaahaaG
import Derived.Test.YtlidkcbjahaahaaOpen
namespace Go.Proofs.Ytlidkcbjahaahaa
open Go.ChangeShapes Go.WideShapes Go.ChangeAt Go.RowKit Go.Deep

theorem ops_of_trod {H : Type} {enc : TypeId × Value → H} {W : World} {v : Value} {d : DataW H} {p : List MemPlace}
    (hf : DataW.Trod enc Try.prog W 0 (fun _ => true) true 38 v d p) (hlt : ∀ x ∈ p, x.block < W.heap.size) (hv : ∃ a len cap, v = .slice a len cap) :
    ∃ a len cap, v = .slice a len cap ∧ len ≤ 9223372036854775807 ∧ OpsIn W a len := by
  obtain ⟨a0, len0, cap0, rfl⟩ := hv
  obtain ⟨fuel, hf⟩ := hf
  rcases open_slice_fields Try.underlying38 Try.underlying42 (by kernel_rfl) (by kernel_rfl) hf with ⟨hcs, hx⟩ | ⟨a, len, cap, m, D, Pl, hcs, _, hl, hm, hmm, hx, hi⟩
  · simp [Value.cells] at hcs
    obtain ⟨rfl, rfl, rfl⟩ := hcs
    exact ⟨none, 0, 0, rfl, by omega, fun i h => absurd h (by omega)⟩
  · simp [Value.cells] at hcs
    obtain ⟨rfl, rfl, rfl⟩ := hcs
    simp only [if_true] at hmm
    subst hmm
    unfold maxLen at hm
    refine ⟨some a, len0, m, rfl, by omega, fun i h => ?_⟩
    obtain ⟨_, _, _, _, _, h0⟩ := hi 0 (by omega)
    obtain ⟨v0, y0, c0, _, _⟩ := h0 0 _ rfl
    obtain ⟨b, off, rfl⟩ := addr_plain (by simpa using c0)
    obtain ⟨ys, n, _, _, _, hcell⟩ := hi i (by omega)
    obtain ⟨u0, z0, e0, _, t0⟩ := hcell 0 _ rfl
    obtain ⟨u1, z1, e1, _, t1⟩ := hcell 1 _ rfl
    obtain ⟨u2, z2, e2, _, t2⟩ := hcell 2 _ rfl
    obtain ⟨u3, z3, e3, _, t3⟩ := hcell 3 _ rfl
    obtain ⟨k, hk, _, _⟩ := DataW.trod_int Try.underlying3 t0
    obtain ⟨q, hq, _, _⟩ := DataW.trod_int Try.underlying3 t1
    obtain ⟨c, hc, _⟩ := DataW.trod_bool Try.underlying4 t2
    obtain ⟨s, hs, _, hsz⟩ := DataW.trod_string Try.underlying9 t3
    simp only [List.cons.injEq, and_true] at hk hq hc hs
    subst hk; subst hq; subst hc; subst hs
    rw [Addr.add_lit] at e0 e1 e2 e3
    refine ⟨b, off, k, q, c, s, rfl, ?_, hsz, ?_, ?_, ?_, ?_⟩
    · have hx' : p = _ := congrArg Prod.snd hx
      refine hlt (MemPlace.cell b off) ?_
      rw [hx']
      refine List.mem_append_left _ ?_
      simp [MemPlace.row]
      omega
    · simpa using e0
    · simpa [Nat.add_assoc] using e1
    · simpa [Nat.add_assoc] using e2
    · simpa [Nat.add_assoc] using e3

theorem plays_walk {H : Type} {enc : TypeId × Value → H} (W : World) (base : Nat) (args : Array Value) (ds : List (DataW H)) (p : List MemPlace)
    (hval : ∀ (j : Nat) t v, Try.f5.params[j]? = some t → args[j]? = some v → Value.okWide Try.prog W .any base t v)
    (hA : DataW.TrodAll enc Try.prog W 0 (fun _ => true) true Try.f5.params.toList args.toList ds p) (hlt : ∀ x ∈ p, x.block < W.heap.size) :
    Calls Try.prog 5 args W fun e W' => e = .returned (.bool true) ∧ Below W.heap.size W W' := by
  rw [Try.params5] at hA hval
  obtain ⟨args⟩ := args
  obtain ⟨v0, d0, hargs, rfl, h0⟩ := trodAll_one hA
  simp at hargs
  subst hargs
  obtain ⟨a, len, cap, rfl, hl, ho⟩ := ops_of_trod h0 hlt (okWide_slice Try.underlying38 (hval 0 38 v0 rfl rfl))
  exact plays_any a len cap hl W ho

set_option maxRecDepth 100000 in
theorem plays_lifted (os : Os) (started : os.Started) (H : Type) (enc : TypeId × Value → H) :
    ReturnsInHanded {} Try.checked os 5 .any (Rows.pipePlaysSpec.pre6 enc Try.prog Try.f5 Rows.pipePlaysRow.domain false) (Rows.pipePlaysSpec.post enc Try.prog Try.f5 false true false false) :=
  law_lifted started (spec := Rows.pipePlaysSpec) Try.func5 (by kernel_rfl) rfl Try.underlying4 rfl
    (fun ds h => by rw [Try.params5] at h; match ds, h with | [d], _ => rfl)
    (by rw [Try.params5]; intro t ht; simp at ht; subst ht; exact ⟨by kernel_rfl, of_decide_eq_true (by kernel_rfl)⟩)
    (ChangeSpec.witness6 (enc := enc) (C := Try.checked) false ⟨#[], #[.slice none 0 0], []⟩ 8 (by kernel_rfl) (by kernel_rfl) (by kernel_rfl) (by kernel_rfl))
    (fun W base args ds p hval hA hlt _ => plays_walk W base args ds p hval hA hlt)

theorem plays_holds : Rows.PipePlaysSaid :=
  OpenClaim.holds_of_wide 5 Try.f5 rfl rfl rfl rfl rfl rfl rfl ⟨rfl, rfl, rfl, rfl, rfl⟩ rfl rfl rfl rfl rfl (by kernel_rfl) Try.func5 (by kernel_rfl)
    (of_decide_eq_true (by kernel_rfl)) (by unfold Func.isWrapper; first | (rw [if_pos (by decide +kernel)]; kernel_rfl) | (rw [if_neg (by decide +kernel)]; exact ⟨rfl, rfl⟩))
    (fun os started H enc _ => plays_lifted os started H enc)

end Go.Proofs.Ytlidkcbjahaahaa
