/- The walks of Clone, To and the reference's; Same, plain; the argument row. -/
import Derived.Test.YtppnegohdogjeaaB
namespace Go.Proofs.Ytppnegohdogjeaa
open Go.RowKit

theorem none_cell {w w' : World} (h : w.grownBy w' none) {b off : Nat} {v : Value} (hb : b < w.heap.size) (hc : w.cell? ⟨b, off, none⟩ = some v) : w'.cell? ⟨b, off, none⟩ = some v :=
  ((below_of_none h).cell (p := ⟨b, off, none⟩) hb).trans hc

theorem rd_of_trod {H : Type} {enc : TypeId × Value → H} {W : World} {v : Value} {d : DataW H} {p : List MemPlace}
    (hf : DataW.Trod enc Try.prog W 0 (fun _ => true) true 22 v d p) (hlt : ∀ x ∈ p, x.block < W.heap.size) (hv : ∃ a len cap, v = .slice a len cap) :
    ∃ xs, Rd W W.heap.size v xs ∧ xs.length ≤ 9223372036854775807 := by
  obtain ⟨a0, len0, cap0, rfl⟩ := hv
  obtain ⟨fuel, hf⟩ := hf
  rcases ChangeShapes.open_ints Try.underlying22 Try.underlying3 (by kernel_rfl) hf with ⟨hcs, hx⟩ | ⟨a, len, cap, ss, hcs, _, hl, hm, hz, hx, hcell, hws⟩
  · simp [Value.cells] at hcs
    obtain ⟨rfl, rfl, rfl⟩ := hcs
    exact ⟨[], Rd.nil W _ (Nat.le_refl _), by simp⟩
  · simp [Value.cells] at hcs
    obtain ⟨rfl, rfl, rfl⟩ := hcs
    simp only [if_true] at hz
    have hlen : (ss.take len0).length = len0 := by rw [List.length_take]; omega
    refine ⟨ss.take len0, ⟨Nat.le_refl _, some a, cap0, by rw [hlen], by omega, hm, fun i hi => ?_⟩, by unfold maxLen at hm; omega⟩
    rw [hlen] at hi
    obtain ⟨b, off, rfl⟩ := addr_plain (hcell 0 (by omega))
    have hc := hcell i (by omega)
    rw [Addr.add_lit] at hc
    refine ⟨b, off, rfl, ?_, ?_⟩
    · have hx' : p = _ := congrArg Prod.snd hx
      exact hlt (MemPlace.cell b off) (by rw [hx']; exact row_mem (by omega))
    · rw [hc, List.getD_eq_getElem?_getD, List.getElem?_eq_getElem (by omega), List.getElem_take]
      rfl

set_option maxHeartbeats 400000 in
theorem clone_any (v : Value) (xs : List Int) (hp : 0 < xs.length) (B : Nat) (w : World) (hr : Rd w B v xs) (hx : xs.length ≤ 4096) :
    Calls Try.prog 35 #[v] w (RowPost w xs) := by
  have hsrc := hide ((hr.gr (only_alloc (only_refl w none) (.cells #[] 3))).src)
  obtain ⟨a, cap, rfl, h1, h2, h3⟩ := hr.form
  obtain ⟨b, off, rfl, _, _⟩ := h3 0 hp
  have hnil := fun W => Lib.run_eql_slice_nil (P := Try.prog) W 22 3 (some ⟨b, off, none⟩) xs.length cap 0 0 (by kernel_rfl)
  clear hr h3
  go_enter Try.func35, Try.ntmps35
  go_wp2_with (at_builtin; refine wpList_appAt 3 (.int .i64 0) 1 8 (by kernel_rfl) info3 rfl (.slice (some ⟨w.heap.size, 0, none⟩) 0 0) 0 [] 0 _ xs.length (icells xs) rfl rfl (Own.made w #[] 3 1 0 0 rfl (by decide)) (by omega) hsrc.out (by unfold maxLen; omega) (by omega) ?_)
  intro v' w2 ho hc hn _
  have hm : Made w w2 v' xs := by
    refine ⟨by simpa using ho, fun b hb => ?_, ?_⟩
    · rcases hn b hb with h | h
      · simp [Value.ownBlock] at h; omega
      · rw [World.size_alloc] at h; omega
    · exact (((Chg.refl nobody w).alloc (.cells #[] 3)).trans hc (fun i hi e => by simp [Value.ownBlock] at e; omega)).grown (fun _ _ e => e)
  have Hm := hide hm
  clear hm ho hc hn hsrc
  go_wp2
  go_ret
  exact ⟨_, rfl, Hm.out⟩

set_option maxHeartbeats 1000000 in
theorem same_eq (v v' : Value) (xs : List Int) (B B' : Nat) (w : World) (hr : Rd w B v xs) (hr' : Rd w B' v' xs) (hx : xs.length ≤ 4096) :
    Calls Try.prog 12 #[v, v'] w fun e w' => e = .returned (.bool true) ∧ w.grownBy w' none := by
  obtain ⟨a, cap, rfl, h1, h2, h3⟩ := hr.form
  obtain ⟨a', cap', rfl, h1', h2', h3'⟩ := hr'.form
  have H3 := hide h3
  have H3' := hide h3'
  clear h3 h3' hr hr'
  go_enter Try.func12, Try.ntmps12
  go_wp2_with fail
  go_loopw [5] (fun u wr => ∃ k : Nat, u = .int .i64 k ∧ k ≤ xs.length ∧ w.grownBy wr none) (fun u _ => xs.length - (intOf u).toNat)
  case atStart => exact ⟨0, rfl, by omega, only_refl _ _⟩
  case round =>
    obtain ⟨k, rfl, hk, hG⟩ := hrel
    have HG := hide hG
    by_cases hlt : k < xs.length
    · obtain ⟨b, off, rfl, hb, c0⟩ := H3.out k hlt
      obtain ⟨b', off', rfl, hb', c0'⟩ := H3'.out k hlt
      have c1 := none_cell hG hb c0
      have c1' := none_cell hG hb' c0'
      clear hG c0 c0'
      go_wp2_with fail
      go_quiet (fail)
      go_wp2
      go_roundw
      case rel => exact ⟨k + 1, by go_num, by omega, only_drewN HG.out _⟩
      case measure => simp [intOf]; omega
    · clear hG
      go_wp2
      go_ret
      exact ⟨rfl, HG.out⟩

def PlainPost (w : World) (xs : List Int) (e : Ending) (w' : World) : Prop := w' = w ∧ ((e = .returned (.bool true) ∧ xs.length = 20) ∨ e = .returned (.bool false))
set_option maxHeartbeats 400000 in
theorem plain_any (v : Value) (xs : List Int) (B : Nat) (w : World) (hr : Rd w B v xs) : Calls Try.prog 9 #[v] w (PlainPost w xs) := by
  obtain ⟨a, cap, rfl, h1, h2, h3⟩ := hr.form
  have H3 := hide h3
  clear h3 hr
  go_enter Try.func9, Try.ntmps9
  go_wp2_with fail
  go_loop [3] (fun u => ∃ k : Nat, u = .int .i64 k ∧ k ≤ xs.length) (fun u => xs.length - (intOf u).toNat)
  case atStart => exact ⟨0, rfl, by omega⟩
  case round =>
    obtain ⟨k, rfl, hk⟩ := hrel
    by_cases hlt : k < xs.length
    · obtain ⟨b, off, rfl, hb, c0⟩ := H3.out k hlt
      by_cases hx : xs[k] < -1
      · obtain ⟨x, hxx⟩ : ∃ x, x = xs[k] := ⟨_, rfl⟩
        rw [← hxx] at c0 hx
        clear hxx
        go_wp2
        go_ret
        exact ⟨rfl, .inr rfl⟩
      · obtain ⟨x, hxx⟩ : ∃ x, x = xs[k] := ⟨_, rfl⟩
        rw [← hxx] at c0 hx
        clear hxx
        go_wp2
        go_round
        case rel => exact ⟨k + 1, by go_num, by omega⟩
        case measure => simp [intOf]; omega
    · by_cases h20 : xs.length = 20
      · have q : ((xs.length : Int) == 20) = true := by rw [h20]; rfl
        have H20 := hide h20
        clear h20
        go_wp2
        go_ret
        exact ⟨rfl, .inl ⟨rfl, H20.out⟩⟩
      · have q : ((xs.length : Int) == 20) = false := by simp; omega
        go_wp2
        go_ret
        exact ⟨rfl, .inr rfl⟩

end Go.Proofs.Ytppnegohdogjeaa
