/- VarsPlays: whatever the texts and the steps, the law answers true; and its tied card. -/
import Derived.Test.YtdcfpklohleoiaaDoorAF
import Derived.Test.YtdcfpklohleoiaaDoorAL
import Derived.Test.YtdcfpklohleoiaaDoorLaw
import Derived.Test.YtdcfpklohleoiaaDoorCards
import Derived.Test.YtdcfpklohleoiaaDoorTie
import Derived.ChangeMaps5
import Derived.OpenShut
import Derived.SevenTiedAt
import Derived.Stop.Joined
namespace Go.Proofs.YtdcfpklohleoiaaDoor
open Go.ChangeShapes Go.WideShapes Go.ChangeAt Go.RowKit

set_option maxRecDepth 100000 in
theorem plays_walk {H : Type} {enc : TypeId × Value → H} (W : World) (base : Nat) (args : Array Value) (ds : List (DataW H)) (p : List MemPlace)
    (hval : ∀ (j : Nat) t v, Tryd.f5.params[j]? = some t → args[j]? = some v → Value.okWide Tryd.prog W .any base t v)
    (hA : DataW.TrodAll enc Tryd.prog W 0 (fun _ => true) true Tryd.f5.params.toList args.toList ds p) (hlt : ∀ x ∈ p, x.block < W.heap.size)
    (hsz : (DataW.weightsEach Tryd.prog Tryd.f5.params.toList ds).all (· ≤ reachBytes) = true) :
    Calls Tryd.prog 5 args W fun e W' => e = .returned (.bool true) ∧ Below W.heap.size W W' := by
  rw [Tryd.params5] at hA hval hsz
  obtain ⟨args⟩ := args
  obtain ⟨v0, vs0, d0, ds0, a0, b0, hargs, rfl, rfl, h0, r0⟩ := trodAll_cons hA
  obtain ⟨v1, vs1, d1, ds1, a1, b1, rfl, rfl, rfl, h1, r1⟩ := trodAll_cons r0
  obtain ⟨rfl, rfl, rfl⟩ := trodAll_nil r1
  simp at hargs
  subst hargs
  have hz0 : ∀ n ∈ d0.weights Tryd.prog 22, n ≤ reachBytes := fun n hn => by simpa using List.all_eq_true.1 hsz _ (DataW.weights_mem_each (j := 0) rfl rfl n hn)
  obtain ⟨p0, cap0, ss0, rfl, hc0, hl0, ho0, hs0⟩ := strl_of_trod h0 (fun x hx => hlt x (by simp [hx])) (okWide_slice Tryd.underlying22 (hval 0 22 v0 rfl rfl)) hz0
  have hz1 : ∀ n ∈ d1.weights Tryd.prog 23, n ≤ reachBytes := fun n hn => by simpa using List.all_eq_true.1 hsz _ (DataW.weights_mem_each (j := 1) rfl rfl n hn)
  obtain ⟨p1, cap1, os1, rfl, hl1, ho1, hs1⟩ := opl_of_trod h1 (fun x hx => hlt x (by simp [hx])) (okWide_slice Tryd.underlying23 (hval 1 23 v1 rfl rfl)) hz1
  exact (plays_any ss0 os1 p0 p1 cap0 cap1 W ho0 hs0 ho1 (fun o h => ⟨(hs1 o h).1, (hs1 o h).2.1⟩) hc0 hl0 hl1).mono fun _ _ h => ⟨h.1, below_of_none h.2⟩

set_option maxRecDepth 100000 in
theorem plays_lifted (os : Os) (started : os.Started) (H : Type) (enc : TypeId × Value → H) :
    ReturnsInHanded {} Tryd.checked os 5 .any (fun w args => (Rows.varsPlaysSpec.pre enc Tryd.prog Tryd.f5 Rows.varsPlaysRow.domain false w args ∧ laidMetH Tryd.prog Rows.varsPlaysRow.laid w) ∧ sizedMet enc Tryd.prog Tryd.f5 (OpenSpec.ofChange Rows.varsPlaysSpec) false w args)
      (Rows.varsPlaysSpec.post enc Tryd.prog Tryd.f5 false true false false) :=
  law_lifted started (spec := Rows.varsPlaysSpec) Rows.varsPlaysRow.laid (by kernel_rfl) Tryd.func5 (by kernel_rfl) rfl Tryd.underlying4 rfl
    (fun ds h => by rw [Tryd.params5] at h; match ds, h with | [d0, d1], _ => rfl)
    (by rw [Tryd.params5]; intro t ht; simp at ht; rcases ht with rfl | rfl <;> exact ⟨by kernel_rfl, of_decide_eq_true (by kernel_rfl)⟩)
    (ChangeSpec.witness_shaped (enc := enc) (C := Tryd.checked) (os := os) (X := fun w _ => laidMetH Tryd.prog Rows.varsPlaysRow.laid w) false (World.laidAll Tryd.prog os Rows.varsPlaysRow.laid) #[.slice none 0 0, .slice none 0 0] 8 (World.laidAll_os _ _ _)
      (World.shaped_of_ZipB (by kernel_rfl) (by kernel_rfl)) (by kernel_rfl) (by kernel_rfl) (by kernel_rfl)
      (by rw [MakeChecks.laidMetH_plain _ _ _ (by kernel_rfl)]; exact laidMet_laidAll _ (by kernel_rfl) (by kernel_rfl)))
    (fun W base args ds p hval hA hlt hsz _ => plays_walk W base args ds p hval hA hlt hsz)

theorem plays_holds : Rows.VarsPlaysSaid :=
  OpenClaim.holds_of_wide 5 Tryd.f5 rfl rfl rfl rfl rfl rfl rfl ⟨rfl, rfl, rfl, rfl, rfl⟩ rfl rfl rfl rfl rfl (by kernel_rfl) Tryd.func5 (by kernel_rfl)
    (of_decide_eq_true (by kernel_rfl)) (by unfold Func.isWrapper; first | (rw [if_pos (by decide +kernel)]; kernel_rfl) | (rw [if_neg (by decide +kernel)]; exact ⟨rfl, rfl⟩))
    (fun os started H enc _ => plays_lifted os started H enc)

theorem plays_card_holds : Rows.VarsPlaysCardSaid :=
  Claim7.holds_tied_plain_at .later [] [.data, .pinned] true (true, "c96c757bdfea8088c62c8c6dd3ba98ea580eaadc638996b6b88a8e78f8f2c5ff") true plays_holds (fun _ h => by cases h) (by kernel_rfl) (fun _ h => by cases h) varsPlays_row_tie rfl ⟨rfl, rfl⟩ (by kernel_rfl) rfl
    (fun f fn hf hfn => by
      obtain rfl : f = 5 := Option.some.inj ((show Tryd.prog.funcNamed "almoner/almonerlaw17.VarsPlays" = some 5 by kernel_rfl).symm.trans hf) |>.symm
      obtain rfl : fn = Tryd.f5 := (Option.some.inj (Tryd.func5.symm.trans hfn)).symm
      exact ⟨by kernel_rfl, fun j t ht => by
        rw [Tryd.params5] at ht
        have hm : t ∈ [22, 23] := by simpa using Array.mem_of_getElem? ht
        have hall : ([22, 23].all fun u => !Tryd.prog.wantsStandIn u) = true := by kernel_rfl
        exact (show Tryd.prog.wantsStandIn t = false by simpa using List.all_eq_true.1 hall t hm)⟩)
    (by kernel_rfl)
end Go.Proofs.YtdcfpklohleoiaaDoor
