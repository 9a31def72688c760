/- The walks of Row (slices.Repeat) and of shown. -/
import Derived.Test.YtppnegohdogjeaaG
namespace Go.Proofs.Ytppnegohdogjeaa
open Go.RowKit

set_option maxHeartbeats 400000 in
theorem mul64_any (w : World) : Calls Try.prog 43 #[.int .u64 1, .int .u64 20] w fun e w' => e = .returned (.tuple #[.int .u64 0, .int .u64 20]) ∧ w = w' := by
  go_enter Try.func43, Try.ntmps43
  go_wp2
  go_ret2
  exact ⟨rfl, rfl⟩
set_option maxHeartbeats 400000 in
theorem mul_any (w : World) : Calls Try.prog 41 #[.int .u64 1, .int .u64 20] w fun e w' => e = .returned (.tuple #[.int .u64 0, .int .u64 20]) ∧ w = w' := by
  go_enter Try.func41, Try.ntmps41
  go_wp2_with (go_at_call 43; (with_reducible refine (mul64_any _).mono ?_); rintro e w' ⟨rfl, rfl⟩)
  go_ret2
  exact ⟨rfl, rfl⟩

def neg : Value := .int .i64 (-1)
def negs : List Int := List.replicate 20 (-1)
theorem negs_len : negs.length = 20 := by simp [negs]
/-- Block g holds twenty cells, the first n of them -1. -/
def RepAt (w : World) (g n : Nat) : Prop := ∃ cs : List Value, w.heap[g]? = some (.cells cs.toArray 3 (0, 0)) ∧ cs.length = 20 ∧ ∀ j, j < n → cs[j]? = some neg

set_option maxHeartbeats 1000000 in
theorem repeat_any (b : Nat) (w : World) (h : w.cell? ⟨b, 0, none⟩ = some neg) (hb : b < w.heap.size) :
    Calls Try.prog 36 #[.slice (some ⟨b, 0, none⟩) 1 1, .int .i64 20] w (RowPost w negs) := by
  unfold neg at h
  have hmk : ∀ W : World, (Instr.makeSlice 22 (.int .i64 20) (.int .i64 20)).run Try.prog W = .ok (.slice (some ⟨W.heap.size, 0, none⟩) 20 20) (W.alloc (.cells (madeCells (Value.int .i64 0).cells 20) 3)) := by
    intro W
    obtain ⟨i0, hi0, hz0, hz1, hz2⟩ := info_parts info3
    have := run_make_rowN (P := Try.prog) 22 3 i0 (.int .i64 0) (by kernel_rfl) hi0 hz0 .i64 .i64 20 20 (Nat.le_refl _) (by rw [hz2]; omega) (by omega) W
    rw [hz1] at this
    exact this
  go_enter Try.func36, Try.ntmps36
  go_wp2_with (first
    | (go_at_call 41; (with_reducible refine (mul_any _).mono ?_); rintro e w' ⟨rfl, rfl⟩)
    | (refine wpList_copy_splice rfl (.tmp 31) (.tmp 32) 22 22 rfl 3 (by kernel_rfl) (by kernel_rfl) (some ⟨w.heap.size, 0, none⟩) (some ⟨b, 0, none⟩) 20 20 1 1 rfl rfl w.heap.size 0 (madeCells #[.int .i64 0] 20).toList 3 (by simpa using heap_alloc_new w (.cells (madeCells #[.int .i64 0] 20) 3)) [neg] rfl ?c2 (by simp [madeCells]) ?c3 w.heap.size w ?c4 (Nat.le_refl _) ?_))
  case c2 =>
    intro j v hj
    cases j with
    | zero => simp at hj; subst hj; exact h
    | succ j => simp at hj
  case c3 => exact fun v hv => by simp at hv; subst hv; rfl
  case c4 => exact (Below.refl _ _).alloc (Nat.le_refl _) _
  intro w2 hw hb2
  have h0 : RepAt w2 w.heap.size 1 := by
    refine ⟨_, hw.out, by rw [length_splice _ _ _ (by simp [madeCells])]; simp [madeCells], fun j hj => ?_⟩
    have : j = 0 := by omega
    subst this
    rfl
  have H0 := hide h0
  have Hb2 := hide hb2
  obtain ⟨g, hg⟩ : ∃ g, w.heap.size = g := ⟨_, rfl⟩
  rw [hg] at H0 Hb2 ⊢
  have Hg := hide hg
  clear hw hb2 h0 hb h hmk hg
  go_wp2_with fail
  go_loopw [8] (fun u wr => ∃ n : Nat, u = .int .i64 n ∧ 1 ≤ n ∧ n ≤ 20 ∧ RepAt wr g n ∧ Below g w wr) (fun u _ => 20 - (intOf u).toNat)
  case atStart => exact ⟨1, rfl, by omega, by omega, H0.out, Hb2.out⟩
  case round =>
    obtain ⟨n, rfl, h1, h20, hR, hB⟩ := hrel
    clear H0 Hb2
    by_cases hlt : n < 20
    · obtain ⟨m, hm⟩ : ∃ m, m = min n (20 - n) := ⟨_, rfl⟩
      have hm1 : n + m ≤ 20 := by omega
      have hm2 : 0 < m := by omega
      have hm3 : m = Nat.min n (20 - n) := hm
      have hm4 : m ≤ n := by omega
      obtain ⟨cs, hcs, hlen, hval⟩ := hR
      have HB := hide hB
      have Hcs := hide hcs
      have Hval := hide hval
      have Hm3 := hide hm3
      clear hB hcs hval hm hm3
      go_wp2_with fail
      have e1 : ¬ (20 = n) := by omega
      have e2 : (n : Int) ≤ 20 := by omega
      have e3 : (0 : Int) ≤ (n : Int) := by omega
      have hc2 : 0 < (List.replicate m neg).length → (some (⟨g, n, none⟩ : Addr)) = some ⟨g, n, none⟩ ∧ ∃ ad, some (⟨g, 0, none⟩ : Addr) = some ad ∧ ∀ j v, (List.replicate m neg)[j]? = some v → wr.drew.cell? (ad.add j) = some v := by
        refine fun _ => ⟨rfl, _, rfl, fun j v hj => ?_⟩
        rw [List.getElem?_replicate] at hj
        split at hj
        · injection hj with hj
          rw [Addr.add_lit, Nat.zero_add, ← hj]
          rw [show wr.drew.cell? ⟨g, j, none⟩ = wr.cell? ⟨g, j, none⟩ from rfl, cell_of_row wr g j _ 3 (0, 0) Hcs.out, List.getElem?_toArray]
          exact Hval.out j (by omega)
        · cases hj
      have hc3 : ∀ v ∈ List.replicate m neg, v.oneCell' = true := fun v hv => by rw [List.eq_of_mem_replicate hv]; rfl
      have hc4 : Below g w wr.drew := ⟨HB.out.os, HB.out.tape, HB.out.output, HB.out.size, HB.out.block⟩
      have hc5 : (List.replicate m neg).length = Nat.min n (20 - n) := by rw [List.length_replicate]; exact Hm3.out
      have hc6 : n + (List.replicate m neg).length ≤ cs.length := by rw [List.length_replicate]; omega
      have Hc2 := hide hc2
      have Hc3 := hide hc3
      have Hc4 := hide hc4
      have Hc5 := hide hc5
      have Hc6 := hide hc6
      clear hc2 hc3 hc4 hc5 hc6
      go_region_held3 (fun _ => True) (trivial) ((refine step_copy_splice (by rfl) (.tmp 41) (.tmp 44) 22 22 (by rfl) 3 (by kernel_rfl) (by kernel_rfl) (some ⟨g, n, none⟩) (some ⟨g, 0, none⟩) (20 - n) (20 - n) n 20 (by rfl) (by rfl) g n cs 3 (by exact Hcs.out) (List.replicate m neg) Hc5.out Hc2.out Hc6.out Hc3.out g w Hc4.out (Nat.le_refl _) ?_; intro w3 hw3 hb3))
      have hR3 : RepAt w3 g (n + m) := by
        refine ⟨_, hw3.out, by rw [length_splice _ _ _ Hc6.out]; exact hlen, fun j hj => ?_⟩
        unfold splice
        by_cases hjn : j < n
        · rw [List.getElem?_append_left (by rw [List.length_take]; omega), List.getElem?_take_of_lt hjn]
          exact Hval.out j hjn
        · rw [List.getElem?_append_right (by rw [List.length_take]; omega), List.length_take, List.getElem?_append_left (by rw [List.length_replicate]; omega), List.getElem?_replicate, if_pos (by omega)]
      have HR3 := hide hR3
      have HB3 := hide hb3
      have Hw : IntKind.i64.wrap ((n : Int) + (m : Int)) = ((n + m : Nat) : Int) := by rw [IntWalk.i64_in _ (by omega)]; omega
      rw [Hw]
      clear hw3 hb3 hR3 Hw
      go_wp2
      go_roundw
      case rel => exact ⟨n + m, rfl, by omega, by omega, HR3.out, HB3.out⟩
      case measure => simp [intOf]; omega
    · have : n = 20 := by omega
      subst this
      have HB := hide hB
      have HR := hide hR
      clear hB hR
      go_wp2
      go_ret
      obtain ⟨cs, hcs, hlen, hval⟩ := HR.out
      have hcs2 : cs = icells negs := by
        apply List.ext_getElem?
        intro i
        by_cases hi : i < 20
        · rw [hval i hi]
          simp only [icells, negs, List.map_replicate, List.getElem?_replicate, if_pos hi]
          rfl
        · rw [List.getElem?_eq_none (by omega), List.getElem?_eq_none (by rw [icells_length, negs_len]; omega)]
      refine ⟨_, rfl, ⟨by rw [icells_length, Nat.mul_one], .inr ⟨g, 0, 20, _, (0, 0), rfl, hcs, Nat.zero_le _, by rw [negs_len]; omega, by decide, ?_, fun j hj => ?_⟩⟩, ?_, ?_⟩
      · rw [List.size_toArray, hlen]; omega
      · rw [Nat.zero_add, List.getElem?_toArray, hcs2]
      · intro b' hb'
        simp [Value.ownBlock] at hb'
        have := Hg.out
        omega
      · have h9 := HB.out
        rw [← Hg.out] at h9
        exact none_of_below h9

end Go.Proofs.Ytppnegohdogjeaa
