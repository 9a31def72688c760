/- VarsOut: whatever the texts, the law answers true; and its tied card. -/
import Derived.Test.YtdcfpklohleoiaaDoorAG
import Derived.Test.YtdcfpklohleoiaaDoorAM
import Derived.Test.YtdcfpklohleoiaaDoorLaw
import Derived.Test.YtdcfpklohleoiaaDoorCards
import Derived.Test.YtdcfpklohleoiaaDoorTie
import Derived.ChangeMaps5
import Derived.OpenShut
import Derived.SevenTiedAt
import Derived.Stop.Joined
namespace Go.Proofs.YtdcfpklohleoiaaDoor
open Go.ChangeShapes Go.WideShapes Go.ChangeAt Go.RowKit

set_option maxRecDepth 100000 in
theorem outs_walk {H : Type} {enc : TypeId × Value → H} (W : World) (base : Nat) (args : Array Value) (ds : List (DataW H)) (p : List MemPlace)
    (hval : ∀ (j : Nat) t v, Tryd.f6.params[j]? = some t → args[j]? = some v → Value.okWide Tryd.prog W .any base t v)
    (hA : DataW.TrodAll enc Tryd.prog W 0 (fun _ => true) true Tryd.f6.params.toList args.toList ds p) (hlt : ∀ x ∈ p, x.block < W.heap.size)
    (hsz : (DataW.weightsEach Tryd.prog Tryd.f6.params.toList ds).all (· ≤ reachBytes) = true) :
    Calls Tryd.prog 6 args W fun e W' => e = .returned (.bool true) ∧ Below W.heap.size W W' := by
  rw [Tryd.params6] at hA hval hsz
  obtain ⟨args⟩ := args
  obtain ⟨v0, vs0, d0, ds0, a0, b0, hargs, rfl, rfl, h0, r0⟩ := trodAll_cons hA
  obtain ⟨v1, vs1, d1, ds1, a1, b1, rfl, rfl, rfl, h1, r1⟩ := trodAll_cons r0
  obtain ⟨rfl, rfl, rfl⟩ := trodAll_nil r1
  simp at hargs
  subst hargs
  have hz0 : ∀ n ∈ d0.weights Tryd.prog 22, n ≤ reachBytes := fun n hn => by simpa using List.all_eq_true.1 hsz _ (DataW.weights_mem_each (j := 0) rfl rfl n hn)
  obtain ⟨p0, cap0, ss0, rfl, hc0, hl0, ho0, hs0⟩ := strl_of_trod h0 (fun x hx => hlt x (by simp [hx])) (okWide_slice Tryd.underlying22 (hval 0 22 v0 rfl rfl)) hz0
  obtain ⟨s1, rfl, rfl, rfl, hs1⟩ := Go.ChangeMaps.open_string Tryd.underlying9 (hval 1 9 v1 rfl rfl) h1
  obtain ⟨l1, rfl⟩ : ∃ l : List UInt8, s1 = ⟨l.toArray⟩ := ⟨s1.data.toList, by simp⟩
  exact (outs_any ss0 l1 p0 cap0 W ho0 hs0 hc0 hl0 (by rw [← sz l1]; unfold maxLen at hs1; exact hs1)).mono fun _ _ h => ⟨h.1, below_of_none h.2⟩

set_option maxRecDepth 100000 in
theorem outs_lifted (os : Os) (started : os.Started) (H : Type) (enc : TypeId × Value → H) :
    ReturnsInHanded {} Tryd.checked os 6 .any (fun w args => (Rows.varsOutSpec.pre enc Tryd.prog Tryd.f6 Rows.varsOutRow.domain false w args ∧ laidMetH Tryd.prog Rows.varsOutRow.laid w) ∧ sizedMet enc Tryd.prog Tryd.f6 (OpenSpec.ofChange Rows.varsOutSpec) false w args)
      (Rows.varsOutSpec.post enc Tryd.prog Tryd.f6 false true false false) :=
  law_lifted started (spec := Rows.varsOutSpec) Rows.varsOutRow.laid (by kernel_rfl) Tryd.func6 (by kernel_rfl) rfl Tryd.underlying4 rfl
    (fun ds h => by rw [Tryd.params6] at h; match ds, h with | [d0, d1], _ => rfl)
    (by rw [Tryd.params6]; intro t ht; simp at ht; rcases ht with rfl | rfl <;> exact ⟨by kernel_rfl, of_decide_eq_true (by kernel_rfl)⟩)
    (ChangeSpec.witness_shaped (enc := enc) (C := Tryd.checked) (os := os) (X := fun w _ => laidMetH Tryd.prog Rows.varsOutRow.laid w) false (World.laidAll Tryd.prog os Rows.varsOutRow.laid) #[.slice none 0 0, .string ⟨#[]⟩] 8 (World.laidAll_os _ _ _)
      (World.shaped_of_ZipB (by kernel_rfl) (by kernel_rfl)) (by kernel_rfl) (by kernel_rfl) (by kernel_rfl)
      (by rw [MakeChecks.laidMetH_plain _ _ _ (by kernel_rfl)]; exact laidMet_laidAll _ (by kernel_rfl) (by kernel_rfl)))
    (fun W base args ds p hval hA hlt hsz _ => outs_walk W base args ds p hval hA hlt hsz)

theorem outs_holds : Rows.VarsOutSaid :=
  OpenClaim.holds_of_wide 6 Tryd.f6 rfl rfl rfl rfl rfl rfl rfl ⟨rfl, rfl, rfl, rfl, rfl⟩ rfl rfl rfl rfl rfl (by kernel_rfl) Tryd.func6 (by kernel_rfl)
    (of_decide_eq_true (by kernel_rfl)) (by unfold Func.isWrapper; first | (rw [if_pos (by decide +kernel)]; kernel_rfl) | (rw [if_neg (by decide +kernel)]; exact ⟨rfl, rfl⟩))
    (fun os started H enc _ => outs_lifted os started H enc)

theorem outs_card_holds : Rows.VarsOutCardSaid :=
  Claim7.holds_tied_plain_at .later [] [.data, .pinned] true (true, "c96c757bdfea8088c62c8c6dd3ba98ea580eaadc638996b6b88a8e78f8f2c5ff") true outs_holds (fun _ h => by cases h) (by kernel_rfl) (fun _ h => by cases h) varsOut_row_tie rfl ⟨rfl, rfl⟩ (by kernel_rfl) rfl
    (fun f fn hf hfn => by
      obtain rfl : f = 6 := Option.some.inj ((show Tryd.prog.funcNamed "almoner/almonerlaw17.VarsOut" = some 6 by kernel_rfl).symm.trans hf) |>.symm
      obtain rfl : fn = Tryd.f6 := (Option.some.inj (Tryd.func6.symm.trans hfn)).symm
      exact ⟨by kernel_rfl, fun j t ht => by
        rw [Tryd.params6] at ht
        have hm : t ∈ [22, 9] := by simpa using Array.mem_of_getElem? ht
        have hall : ([22, 9].all fun u => !Tryd.prog.wantsStandIn u) = true := by kernel_rfl
        exact (show Tryd.prog.wantsStandIn t = false by simpa using List.all_eq_true.1 hall t hm)⟩)
    (by kernel_rfl)
end Go.Proofs.YtdcfpklohleoiaaDoor
