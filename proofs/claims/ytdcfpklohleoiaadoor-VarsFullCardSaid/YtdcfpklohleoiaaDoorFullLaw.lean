/- VarsFull: whatever the input, the law answers true; and its tied card. -/
import Derived.Test.YtdcfpklohleoiaaDoorQ
import Derived.Test.YtdcfpklohleoiaaDoorLaw
import Derived.Test.YtdcfpklohleoiaaDoorCards
import Derived.Test.YtdcfpklohleoiaaDoorTie
import Derived.ChangeMaps5
import Derived.OpenShut
import Derived.SevenTiedAt
import Derived.Stop.Joined
namespace Go.Proofs.YtdcfpklohleoiaaDoor
open Go.ChangeShapes Go.WideShapes Go.ChangeAt Go.RowKit

set_option maxRecDepth 100000 in
theorem full_walk {H : Type} {enc : TypeId × Value → H} (W : World) (base : Nat) (args : Array Value) (ds : List (DataW H)) (p : List MemPlace)
    (hval : ∀ (j : Nat) t v, Tryd.f4.params[j]? = some t → args[j]? = some v → Value.okWide Tryd.prog W .any base t v)
    (hA : DataW.TrodAll enc Tryd.prog W 0 (fun _ => true) true Tryd.f4.params.toList args.toList ds p) (hlt : ∀ x ∈ p, x.block < W.heap.size)
    (_hsz : (DataW.weightsEach Tryd.prog Tryd.f4.params.toList ds).all (· ≤ reachBytes) = true) :
    Calls Tryd.prog 4 args W fun e W' => e = .returned (.bool true) ∧ Below W.heap.size W W' := by
  rw [Tryd.params4] at hA hval
  obtain ⟨args⟩ := args
  obtain ⟨v0, vs0, d0, ds0, a0, b0, hargs, rfl, rfl, h0, r0⟩ := trodAll_cons hA
  obtain ⟨v1, vs1, d1, ds1, a1, b1, rfl, rfl, rfl, h1, r1⟩ := trodAll_cons r0
  obtain ⟨rfl, rfl, rfl⟩ := trodAll_nil r1
  simp at hargs
  subst hargs
  obtain ⟨n0, rfl, rfl, rfl, hw0⟩ := open_int Tryd.underlying3 (hval 0 3 v0 rfl rfl) h0
  obtain ⟨s1, rfl, rfl, rfl, hs1⟩ := Go.ChangeMaps.open_string Tryd.underlying9 (hval 1 9 v1 rfl rfl) h1
  obtain ⟨l1, rfl⟩ : ∃ l : List UInt8, s1 = ⟨l.toArray⟩ := ⟨s1.data.toList, by simp⟩
  have hb : -9223372036854775808 ≤ n0 ∧ n0 ≤ 9223372036854775807 := by simpa [Lit.wf, IntKind.min, IntKind.max, IntKind.bits, IntKind.signed] using hw0
  exact (full_any l1 W n0 hb).mono fun _ _ h => ⟨h.1, below_of_none h.2⟩

set_option maxRecDepth 100000 in
theorem full_lifted (os : Os) (started : os.Started) (H : Type) (enc : TypeId × Value → H) :
    ReturnsInHanded {} Tryd.checked os 4 .any (fun w args => (Rows.varsFullSpec.pre enc Tryd.prog Tryd.f4 Rows.varsFullRow.domain false w args ∧ laidMetH Tryd.prog Rows.varsFullRow.laid w) ∧ sizedMet enc Tryd.prog Tryd.f4 (OpenSpec.ofChange Rows.varsFullSpec) false w args)
      (Rows.varsFullSpec.post enc Tryd.prog Tryd.f4 false true false false) :=
  law_lifted started (spec := Rows.varsFullSpec) Rows.varsFullRow.laid (by kernel_rfl) Tryd.func4 (by kernel_rfl) rfl Tryd.underlying4 rfl
    (fun ds h => by rw [Tryd.params4] at h; match ds, h with | [d0, d1], _ => rfl)
    (by rw [Tryd.params4]; intro t ht; simp at ht; rcases ht with rfl | rfl <;> exact ⟨by kernel_rfl, of_decide_eq_true (by kernel_rfl)⟩)
    (ChangeSpec.witness_shaped (enc := enc) (C := Tryd.checked) (os := os) (X := fun w _ => laidMetH Tryd.prog Rows.varsFullRow.laid w) false (World.laidAll Tryd.prog os Rows.varsFullRow.laid) #[.int .i64 0, .string ⟨#[]⟩] 8 (World.laidAll_os _ _ _)
      (World.shaped_of_ZipB (by kernel_rfl) (by kernel_rfl)) (by kernel_rfl) (by kernel_rfl) (by kernel_rfl)
      (by rw [MakeChecks.laidMetH_plain _ _ _ (by kernel_rfl)]; exact laidMet_laidAll _ (by kernel_rfl) (by kernel_rfl)))
    (fun W base args ds p hval hA hlt hsz _ => full_walk W base args ds p hval hA hlt hsz)

theorem full_holds : Rows.VarsFullSaid :=
  OpenClaim.holds_of_wide 4 Tryd.f4 rfl rfl rfl rfl rfl rfl rfl ⟨rfl, rfl, rfl, rfl, rfl⟩ rfl rfl rfl rfl rfl (by kernel_rfl) Tryd.func4 (by kernel_rfl)
    (of_decide_eq_true (by kernel_rfl)) (by unfold Func.isWrapper; first | (rw [if_pos (by decide +kernel)]; kernel_rfl) | (rw [if_neg (by decide +kernel)]; exact ⟨rfl, rfl⟩))
    (fun os started H enc _ => full_lifted os started H enc)

theorem full_card_holds : Rows.VarsFullCardSaid :=
  Claim7.holds_tied_plain_at .later [] [.data, .pinned] true (true, "c96c757bdfea8088c62c8c6dd3ba98ea580eaadc638996b6b88a8e78f8f2c5ff") true full_holds (fun _ h => by cases h) (by kernel_rfl) (fun _ h => by cases h) varsFull_row_tie rfl ⟨rfl, rfl⟩ (by kernel_rfl) rfl
    (fun f fn hf hfn => by
      obtain rfl : f = 4 := Option.some.inj ((show Tryd.prog.funcNamed "almoner/almonerlaw17.VarsFull" = some 4 by kernel_rfl).symm.trans hf) |>.symm
      obtain rfl : fn = Tryd.f4 := (Option.some.inj (Tryd.func4.symm.trans hfn)).symm
      exact ⟨by kernel_rfl, fun j t ht => by
        rw [Tryd.params4] at ht
        have hm : t ∈ [3, 9] := by simpa using Array.mem_of_getElem? ht
        have hall : ([3, 9].all fun u => !Tryd.prog.wantsStandIn u) = true := by kernel_rfl
        exact (show Tryd.prog.wantsStandIn t = false by simpa using List.all_eq_true.1 hall t hm)⟩)
    (by kernel_rfl)
end Go.Proofs.YtdcfpklohleoiaaDoor
