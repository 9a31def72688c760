/- The reference's terminal: full, back, Read. -/
import Derived.Test.YtpabcopkecgphaaQ
namespace Go.Proofs.Ytpabcopkecgphaa
open Go.RowKit

theorem info60 : (Try.prog.info? 60).map (fun i => (i.zero, i.size, i.bytes)) = some (some (.agg #[.string .empty, .bool false]), 2, 24) := by kernel_rfl
theorem rcells_one (l : List (List UInt8)) : ∀ u ∈ rcells l, u.oneCell' = true := by
  intro u hu
  obtain ⟨s, _, hs⟩ := List.mem_flatMap.1 hu
  simp at hs
  rcases hs with rfl | rfl <;> rfl

set_option maxHeartbeats 400000 in
theorem rfull_any {b : Nat} {S : Nat → Prop} {st : TS} {w : World} (h : RefIs w b S st) (hi : st.Inv) :
    Calls Try.prog 38 #[.pointer (some ⟨b, 0, none⟩)] w fun e w' => e = .returned (.bool (!st.room)) ∧ RefTo w w' b S st := by
  have hc := runread_any h hi
  have ha := hi.a
  obtain ⟨x, hx⟩ : ∃ x : Nat, x = waitOf st.lines := ⟨_, rfl⟩
  obtain ⟨y, hy⟩ : ∃ y : Nat, y = st.typed.length := ⟨_, rfl⟩
  have hroom : st.room = decide (x + y < 1024) := by unfold TS.room; rw [hx, hy]
  rw [hroom]
  rw [← hx, ← hy] at hc ha
  have Hc := hide hc
  by_cases hr : x + y < 1024
  · have q : decide ((1024 : Int) ≤ (x : Int) + (y : Int)) = false := by simp; omega
    have q2 : (!decide (x + y < 1024)) = false := by simp; omega
    rw [q2]
    clear hc hx hy hroom h hi q2 hr
    go_enter Try.func38, Try.ntmps38
    go_wp2_with (go_at_call 19; (with_reducible refine Hc.out.mono ?_); rintro e w1 ⟨rfl, hT⟩; (have HT := hide hT; clear hT))
    go_ret
    exact ⟨rfl, HT.out⟩
  · have q : decide ((1024 : Int) ≤ (x : Int) + (y : Int)) = true := by simp; omega
    have q2 : (!decide (x + y < 1024)) = true := by simp; omega
    rw [q2]
    clear hc hx hy hroom h hi q2 hr
    go_enter Try.func38, Try.ntmps38
    go_wp2_with (go_at_call 19; (with_reducible refine Hc.out.mono ?_); rintro e w1 ⟨rfl, hT⟩; (have HT := hide hT; clear hT))
    go_ret
    exact ⟨rfl, HT.out⟩

set_option maxHeartbeats 1000000 in
theorem rback_any {b : Nat} {S : Nat → Prop} {st : TS} {w : World} (h : RefIs w b S st) (hi : st.typed.length ≤ 256) (hlen : st.screen.length + 3 ≤ 1099511627776) :
    Calls Try.prog 39 #[.pointer (some ⟨b, 0, none⟩)] w fun e w' => e = .returned (.tuple #[]) ∧ RefTo w w' b S st.rub := by
  obtain ⟨a, cap, c0, c1, c2, c3⟩ := h.cells
  obtain ⟨z0, z1, z2, z3⟩ := h.free
  by_cases ht : st.typed = []
  · have hr : st.rub = st := by unfold TS.rub; rw [if_pos ht]
    rw [hr]
    rw [ht] at c1
    have H := hide h
    clear h ht hr
    go_enter Try.func39, Try.ntmps39
    go_wp2
    go_returns
    exact ⟨rfl, RefTo.refl H.out⟩
  · have hr : st.rub = TS.show { st with typed := st.typed.dropLast } bsb := by unfold TS.rub; rw [if_neg ht]
    rw [hr]
    have H := hide h
    obtain ⟨n, hn⟩ : ∃ n : Nat, n = st.typed.length := ⟨_, rfl⟩
    have hn0 : 0 < n := by rw [hn]; exact List.length_pos_iff.2 ht
    have hz : (ByteArray.mk st.screen.toArray).size ≤ 1099511627776 := by rw [arr_size]; omega
    have hz3 : (ByteArray.mk st.screen.toArray).size + 3 ≤ 1099511627776 := by rw [arr_size]; omega
    obtain ⟨s, hs⟩ : ∃ s : ByteArray, s = ⟨st.typed.toArray⟩ := ⟨_, rfl⟩
    have hsz : s.size = n := by rw [hs, arr_size, hn]
    have hl : s.toList = st.typed := by rw [ByteArray.toList_eq, hs]
    have q1 : s.toList.isEmpty = false := by rw [hl]; simpa using ht
    have q2 : (s.toList == []) = false := by rw [hl]; simpa using ht
    have hn2 : n ≤ 256 := by omega
    rw [← hs] at c1
    obtain ⟨m, hm⟩ : ∃ m : Nat, m = n - 1 := ⟨_, rfl⟩
    clear h ht hr hn hl hi
    have hsz0 := hsz
    have Hs := hide hs
    have Hsz := hide hsz
    clear hs hsz
    have hcut : ∀ W S, RefIs W b S st → RefTo W (W.setCell ⟨b, 1, none⟩ (.string (s.extract 0 m))) b S { st with typed := st.typed.dropLast } := by
      intro W S hW
      have he : s.extract 0 m = ⟨(st.typed.dropLast).toArray⟩ := by
        apply ByteArray.ext
        rw [ByteArray.data_extract]
        apply Array.ext'
        rw [Array.toList_extract, List.extract_eq_take_drop, List.drop_zero, Nat.sub_zero, List.dropLast_eq_take, Hs.out]
        have : st.typed.length = n := by rw [← Hsz.out, Hs.out, arr_size]
        rw [this, ← hm]
      rw [he]
      exact RefTo.set hW 1 _ _ rfl (fun _ => rfl)
    have hm1 : (m : Int) = (n : Int) - 1 := by omega
    have hmn : m ≤ s.size := by rw [hsz0]; omega
    have hw : wrap64 ((s.size : Int) - 1) = (m : Int) := by rw [IntWalk.wrap64_in _ ⟨by rw [hsz0]; omega, by rw [hsz0]; omega⟩, hsz0]; omega
    have Hw := hide hw
    clear hw
    clear hsz0
    have Hcut := hide hcut
    have Hm1 := hide hm1
    have Hm := hide hm
    clear hcut hm hm1
    have hcat : ∀ W S, RefIs W b S { st with typed := st.typed.dropLast } → RefTo W (W.setCell ⟨b, 3, none⟩ (.string (⟨st.screen.toArray⟩ ++ ⟨#[8, 32, 8]⟩))) b S { st with typed := st.typed.dropLast, screen := st.screen ++ bsb } := by
      intro W S hW
      rw [arr_app]
      exact RefTo.set hW 3 _ _ rfl (fun _ => rfl)
    have Hcat := hide hcat
    clear hcat
    cases hsi : st.silent
    · rw [hsi] at c2
      have Hsi := hide hsi
      clear hsi
      go_enter Try.func39, Try.ntmps39
      go_wp2_with fail
      have hw := Hw.out
      refine wp_region_qtail 14 (by kernel_rfl) (by kernel_rfl) ?_
      simp only [List.take_succ_cons, List.take_zero, List.drop_succ_cons, List.drop_zero]
      repeat (go_big_quiet_step (fail))
      refine wpQuiet_nil ?_
      rintro _ ⟨nq, rfl⟩
      clear hw
      go_wp2_with fail
      go_returns
      refine ⟨rfl, ?_⟩
      rw [show TS.show { lines := st.lines, typed := st.typed.dropLast, silent := false, screen := st.screen } bsb = { st with typed := st.typed.dropLast, screen := st.screen ++ bsb } from by unfold TS.show; rw [Hsi.out]; rfl]
      exact RefTo.trans (RefTo.drewN H.out nq) fun S1 h1 => (Hcut.out _ _ h1).trans fun S2 h2 => Hcat.out _ _ h2
    · rw [hsi] at c2
      have Hsi := hide hsi
      clear hsi
      go_enter Try.func39, Try.ntmps39
      go_wp2_with fail
      have hw := Hw.out
      refine wp_region_qtail 14 (by kernel_rfl) (by kernel_rfl) ?_
      simp only [List.take_succ_cons, List.take_zero, List.drop_succ_cons, List.drop_zero]
      repeat (go_big_quiet_step (fail))
      refine wpQuiet_nil ?_
      rintro _ ⟨nq, rfl⟩
      clear hw
      go_wp2
      go_returns
      refine ⟨rfl, ?_⟩
      rw [show TS.show { lines := st.lines, typed := st.typed.dropLast, silent := true, screen := st.screen } bsb = { st with typed := st.typed.dropLast } from by unfold TS.show; rw [Hsi.out]; rfl]
      exact RefTo.trans (RefTo.drewN H.out nq) fun S1 h1 => Hcut.out _ _ h1

end Go.Proofs.Ytpabcopkecgphaa
