/- The walk of DescSeeks: whatever the places, it answers true. -/
import Derived.Test.YtppnegohdogjeaaL
namespace Go.Proofs.Ytppnegohdogjeaa
open Go.RowKit

def sA (x : Int) (h : Nat) : Sl := ⟨1, 3, 4, false, x, h⟩
def sB (y : Int) : Sl := ⟨1, 3, 2, false, y, 1⟩
def TS (x y : Int) (h : Nat) : List Sl := sA x h :: sB y :: List.replicate 58 sl0
theorem sk_open1 : openRes (List.replicate 60 sl0) (sA 0 0) = (sA 0 1 :: List.replicate 59 sl0, 0, 0) := by
  unfold openRes
  rw [if_neg (by decide), fs_here (by decide) (by decide)]
  rfl
theorem sk_open2 : openRes (sA 0 1 :: List.replicate 59 sl0) (sB 0) = (TS 0 0 1, 1, 0) := by
  unfold openRes
  rw [if_neg (by decide), fs_next (by decide) (by decide), fs_here (by decide) (by decide)]
  rfl
theorem sk_hold : holdRes (TS 0 0 1) 0 = (TS 0 0 2, true) := by kernel_rfl
theorem sk_held : heldRes (TS 0 0 1) 0 = 1 := by kernel_rfl
theorem sk_live0 (x y : Int) : liveN (TS x y 2) 0 = some 0 := by
  unfold liveN
  rw [if_pos ⟨by decide, by decide, show (2 : Nat) ≠ 0 from by decide⟩]
  rfl
theorem sk_live1 (x y : Int) : liveN (TS x y 2) 1 = some 1 := by
  unfold liveN
  rw [if_pos ⟨by decide, by decide, show (1 : Nat) ≠ 0 from by decide⟩]
  rfl
theorem sk_get0 (x y : Int) : getRes (TS x y 2) 0 = ((sA x 2).desc, true) := by unfold getRes; rw [sk_live0]; rfl
theorem sk_get1 (x y : Int) : getRes (TS x y 2) 1 = ((sB y).desc, true) := by unfold getRes; rw [sk_live1]; rfl
theorem sk_held0 (x y : Int) : heldRes (TS x y 2) 0 = 2 := by unfold heldRes; rw [sk_live0]; rfl
theorem sk_held1 (x y : Int) : heldRes (TS x y 2) 1 = 1 := by unfold heldRes; rw [sk_live1]; rfl
theorem sk_s0 (x y p : Int) (h : 0 ≤ p) : seekRes (TS x y 2) 0 p = (TS p y 2, true) := by
  unfold seekRes; rw [sk_live0]; simp only []; rw [if_neg (by omega)]; rfl
theorem sk_s1 (x y p : Int) (h : 0 ≤ p) : seekRes (TS x y 2) 1 p = (TS x p 2, true) := by
  unfold seekRes; rw [sk_live1]; simp only []; rw [if_neg (by omega)]; rfl
theorem sk_n0 (x y p : Int) (h : p < 0) : seekRes (TS x y 2) 0 p = (TS x y 2, false) := by
  unfold seekRes; rw [sk_live0]; simp only []; rw [if_pos h]
theorem sk_n1 (x y p : Int) (h : p < 0) : seekRes (TS x y 2) 1 p = (TS x y 2, false) := by
  unfold seekRes; rw [sk_live1]; simp only []; rw [if_pos h]

set_option maxRecDepth 100000 in
set_option maxHeartbeats 4000000 in
theorem seeks_any (a : Option Addr) (len cap : Nat) (hlen : len ≤ 9223372036854775807) (a2 : Option Addr) (len2 cap2 : Nat) (hlen2 : len2 ≤ 9223372036854775807) (w : World) (ha : IntsIn w a len) (hi : BoolsIn w a2 len2) :
    Calls Try.prog 7 #[.slice a len cap, .slice a2 len2 cap2] w fun e w' => e = .returned (.bool true) ∧ Below w.heap.size w w' := by
  have Ha := hide ha
  have Hi := hide hi
  clear ha hi
  go_enter Try.func7, Try.ntmps7
  go_wp2_with fail
  go_at_call 8
  refine (shown_any w).mono ?_
  rintro e w1 ⟨rfl, hg⟩
  have G1 := hide hg
  clear hg
  go_wp2_with fail
  go_at_call 20
  refine (new_any w1).mono ?_
  rintro e w2 ⟨rfl, h, hg, -⟩
  have R0 := hide (show Tab w w2 w1.heap.size (List.replicate 60 sl0) from ⟨h, only_trans G1.out hg, G1.out.size⟩)
  clear h hg G1
  generalize w1.heap.size = b at R0 ⊢
  go_wp2_with fail
  go_at_call 21
  refine (open_any b _ (sA 0 0) _ R0.out.t).mono ?_
  rw [sk_open1]
  rintro e w3 ⟨rfl, h, hg⟩
  have R1 := hide (R0.out.turn h hg)
  clear h hg R0
  go_wp2_with fail
  go_at_call 21
  refine (open_any b _ (sB 0) _ R1.out.t).mono ?_
  rw [sk_open2]
  rintro e w4 ⟨rfl, h, hg⟩
  have R2 := hide (R1.out.turn h hg)
  clear h hg R1
  go_wp2_with fail
  go_at_call 22
  refine (hold_any b _ 0 _ R2.out.t (by rw [sk_held]; decide)).mono ?_
  rw [sk_hold]
  rintro e w5 ⟨rfl, h, hg⟩
  have R3 := hide (R2.out.turn h hg)
  clear h hg R2
  go_wp2_with fail
  go_loopw [11, 12, 13] (fun u1 u2 u wr => ∃ (k : Nat) (x y : Int), u = .int .i64 k ∧ u1 = .int .i64 x ∧ u2 = .int .i64 y ∧ k ≤ 100 ∧ Tab w wr b (TS x y 2)) (fun _ _ u _ => 100 - (intOf u).toNat)
  case atStart => exact ⟨0, 0, 0, rfl, rfl, rfl, by omega, R3.out⟩
  case round =>
    obtain ⟨k, x, y, rfl, rfl, rfl, hk, hT⟩ := hrel
    clear R3
    have HT := hide hT
    by_cases hlt : k < len ∧ k < len2 ∧ k < 100
    · obtain ⟨hlt, hlt1, hlt2⟩ := hlt
      obtain ⟨b1, off1, p, rfl, hb1, hz, c1⟩ := Ha.out k hlt
      obtain ⟨b2, off2, z, rfl, hb2, c2⟩ := Hi.out k hlt1
      have d1 := none_cell hT.g hb1 c1
      have d2 := none_cell hT.g hb2 c2
      have q1 : decide ((k : Int) < len) = true := by simp; omega
      have q2 : decide ((k : Int) < len2) = true := by simp; omega
      have q3 : decide ((k : Int) < 100) = true := by simp; omega
      have C1 := hide c1
      have C2 := hide c2
      clear hT hz c1 c2
      by_cases hp : 0 ≤ p
      all_goals cases z
      · have qp : decide (0 ≤ p) = true := by simpa using hp
        have hs := sk_s1 x y p (by omega)
        have Hs := hide hs
        clear hs
        go_wp2_with fail
        go_at_call 27
        refine (seek_any b (TS x y 2) 1 p _ HT.out.t).mono ?_
        rw [Hs.out]
        rintro e w6 ⟨rfl, h, hg⟩
        have HT2 := hide (HT.out.turn h hg)
        have d1 := none_cell HT2.out.g hb1 C1.out
        have d2 := none_cell HT2.out.g hb2 C2.out
        clear h hg HT
        go_wp2_with fail
        go_at_call 25
        refine (get_any b (TS x p 2) 0 _ HT2.out.t).mono ?_
        unfold GetPost
        rw [sk_get0]
        rintro e w7 ⟨rfl, hg⟩
        have HT3 := hide ((HT2.out.gr hg).alloc (.cells #[.int .i64 1, .int .i64 3, .int .i64 4, .bool false, .int .i64 x] 41))
        clear hg HT2
        rw [show (sA x 2).desc = .agg #[.int .i64 1, .int .i64 3, .int .i64 4, .bool false, .int .i64 x] from rfl]
        go_wp2_with fail
        go_at_call 25
        refine (get_any b (TS x p 2) 1 _ HT3.out.t).mono ?_
        unfold GetPost
        rw [sk_get1]
        rintro e w8 ⟨rfl, hg⟩
        have HT4 := hide ((HT3.out.gr hg).alloc (.cells #[.int .i64 1, .int .i64 3, .int .i64 2, .bool false, .int .i64 p] 41))
        have p1 : w8.cell? ⟨w7.heap.size, 1, none⟩ = some (.int .i64 3) := none_cell hg (by simp) (World.cell?_alloc_new w7 _ _ 1)
        have p2 : w8.cell? ⟨w7.heap.size, 2, none⟩ = some (.int .i64 4) := none_cell hg (by simp) (World.cell?_alloc_new w7 _ _ 2)
        have p4 : w8.cell? ⟨w7.heap.size, 4, none⟩ = some (.int .i64 x) := none_cell hg (by simp) (World.cell?_alloc_new w7 _ _ 4)
        have hlt7 : w7.heap.size < w8.heap.size := by have := hg.size; rw [World.size_alloc] at this; omega
        clear hg HT3
        rw [show (sB p).desc = .agg #[.int .i64 1, .int .i64 3, .int .i64 2, .bool false, .int .i64 p] from rfl]
        go_wp2
        go_roundw
        case rel => exact ⟨k + 1, _, _, by go_num, rfl, rfl, by omega, HT4.out⟩
        case measure => simp [intOf]; omega
      · have qp : decide (0 ≤ p) = true := by simpa using hp
        have hs := sk_s0 x y p (by omega)
        have Hs := hide hs
        clear hs
        go_wp2_with fail
        go_at_call 27
        refine (seek_any b (TS x y 2) 0 p _ HT.out.t).mono ?_
        rw [Hs.out]
        rintro e w6 ⟨rfl, h, hg⟩
        have HT2 := hide (HT.out.turn h hg)
        have d1 := none_cell HT2.out.g hb1 C1.out
        have d2 := none_cell HT2.out.g hb2 C2.out
        clear h hg HT
        go_wp2_with fail
        go_at_call 25
        refine (get_any b (TS p y 2) 0 _ HT2.out.t).mono ?_
        unfold GetPost
        rw [sk_get0]
        rintro e w7 ⟨rfl, hg⟩
        have HT3 := hide ((HT2.out.gr hg).alloc (.cells #[.int .i64 1, .int .i64 3, .int .i64 4, .bool false, .int .i64 p] 41))
        clear hg HT2
        rw [show (sA p 2).desc = .agg #[.int .i64 1, .int .i64 3, .int .i64 4, .bool false, .int .i64 p] from rfl]
        go_wp2_with fail
        go_at_call 25
        refine (get_any b (TS p y 2) 1 _ HT3.out.t).mono ?_
        unfold GetPost
        rw [sk_get1]
        rintro e w8 ⟨rfl, hg⟩
        have HT4 := hide ((HT3.out.gr hg).alloc (.cells #[.int .i64 1, .int .i64 3, .int .i64 2, .bool false, .int .i64 y] 41))
        have p1 : w8.cell? ⟨w7.heap.size, 1, none⟩ = some (.int .i64 3) := none_cell hg (by simp) (World.cell?_alloc_new w7 _ _ 1)
        have p2 : w8.cell? ⟨w7.heap.size, 2, none⟩ = some (.int .i64 4) := none_cell hg (by simp) (World.cell?_alloc_new w7 _ _ 2)
        have p4 : w8.cell? ⟨w7.heap.size, 4, none⟩ = some (.int .i64 p) := none_cell hg (by simp) (World.cell?_alloc_new w7 _ _ 4)
        have hlt7 : w7.heap.size < w8.heap.size := by have := hg.size; rw [World.size_alloc] at this; omega
        clear hg HT3
        rw [show (sB y).desc = .agg #[.int .i64 1, .int .i64 3, .int .i64 2, .bool false, .int .i64 y] from rfl]
        go_wp2
        go_roundw
        case rel => exact ⟨k + 1, _, _, by go_num, rfl, rfl, by omega, HT4.out⟩
        case measure => simp [intOf]; omega
      · have qp : decide (0 ≤ p) = false := by simp; omega
        have hs := sk_n1 x y p (by omega)
        have Hs := hide hs
        clear hs
        go_wp2_with fail
        go_at_call 27
        refine (seek_any b (TS x y 2) 1 p _ HT.out.t).mono ?_
        rw [Hs.out]
        rintro e w6 ⟨rfl, h, hg⟩
        have HT2 := hide (HT.out.turn h hg)
        have d1 := none_cell HT2.out.g hb1 C1.out
        have d2 := none_cell HT2.out.g hb2 C2.out
        clear h hg HT
        go_wp2_with fail
        go_at_call 25
        refine (get_any b (TS x y 2) 0 _ HT2.out.t).mono ?_
        unfold GetPost
        rw [sk_get0]
        rintro e w7 ⟨rfl, hg⟩
        have HT3 := hide ((HT2.out.gr hg).alloc (.cells #[.int .i64 1, .int .i64 3, .int .i64 4, .bool false, .int .i64 x] 41))
        clear hg HT2
        rw [show (sA x 2).desc = .agg #[.int .i64 1, .int .i64 3, .int .i64 4, .bool false, .int .i64 x] from rfl]
        go_wp2_with fail
        go_at_call 25
        refine (get_any b (TS x y 2) 1 _ HT3.out.t).mono ?_
        unfold GetPost
        rw [sk_get1]
        rintro e w8 ⟨rfl, hg⟩
        have HT4 := hide ((HT3.out.gr hg).alloc (.cells #[.int .i64 1, .int .i64 3, .int .i64 2, .bool false, .int .i64 y] 41))
        have p1 : w8.cell? ⟨w7.heap.size, 1, none⟩ = some (.int .i64 3) := none_cell hg (by simp) (World.cell?_alloc_new w7 _ _ 1)
        have p2 : w8.cell? ⟨w7.heap.size, 2, none⟩ = some (.int .i64 4) := none_cell hg (by simp) (World.cell?_alloc_new w7 _ _ 2)
        have p4 : w8.cell? ⟨w7.heap.size, 4, none⟩ = some (.int .i64 x) := none_cell hg (by simp) (World.cell?_alloc_new w7 _ _ 4)
        have hlt7 : w7.heap.size < w8.heap.size := by have := hg.size; rw [World.size_alloc] at this; omega
        clear hg HT3
        rw [show (sB y).desc = .agg #[.int .i64 1, .int .i64 3, .int .i64 2, .bool false, .int .i64 y] from rfl]
        go_wp2
        go_roundw
        case rel => exact ⟨k + 1, _, _, by go_num, rfl, rfl, by omega, HT4.out⟩
        case measure => simp [intOf]; omega
      · have qp : decide (0 ≤ p) = false := by simp; omega
        have hs := sk_n0 x y p (by omega)
        have Hs := hide hs
        clear hs
        go_wp2_with fail
        go_at_call 27
        refine (seek_any b (TS x y 2) 0 p _ HT.out.t).mono ?_
        rw [Hs.out]
        rintro e w6 ⟨rfl, h, hg⟩
        have HT2 := hide (HT.out.turn h hg)
        have d1 := none_cell HT2.out.g hb1 C1.out
        have d2 := none_cell HT2.out.g hb2 C2.out
        clear h hg HT
        go_wp2_with fail
        go_at_call 25
        refine (get_any b (TS x y 2) 0 _ HT2.out.t).mono ?_
        unfold GetPost
        rw [sk_get0]
        rintro e w7 ⟨rfl, hg⟩
        have HT3 := hide ((HT2.out.gr hg).alloc (.cells #[.int .i64 1, .int .i64 3, .int .i64 4, .bool false, .int .i64 x] 41))
        clear hg HT2
        rw [show (sA x 2).desc = .agg #[.int .i64 1, .int .i64 3, .int .i64 4, .bool false, .int .i64 x] from rfl]
        go_wp2_with fail
        go_at_call 25
        refine (get_any b (TS x y 2) 1 _ HT3.out.t).mono ?_
        unfold GetPost
        rw [sk_get1]
        rintro e w8 ⟨rfl, hg⟩
        have HT4 := hide ((HT3.out.gr hg).alloc (.cells #[.int .i64 1, .int .i64 3, .int .i64 2, .bool false, .int .i64 y] 41))
        have p1 : w8.cell? ⟨w7.heap.size, 1, none⟩ = some (.int .i64 3) := none_cell hg (by simp) (World.cell?_alloc_new w7 _ _ 1)
        have p2 : w8.cell? ⟨w7.heap.size, 2, none⟩ = some (.int .i64 4) := none_cell hg (by simp) (World.cell?_alloc_new w7 _ _ 2)
        have p4 : w8.cell? ⟨w7.heap.size, 4, none⟩ = some (.int .i64 x) := none_cell hg (by simp) (World.cell?_alloc_new w7 _ _ 4)
        have hlt7 : w7.heap.size < w8.heap.size := by have := hg.size; rw [World.size_alloc] at this; omega
        clear hg HT3
        rw [show (sB y).desc = .agg #[.int .i64 1, .int .i64 3, .int .i64 2, .bool false, .int .i64 y] from rfl]
        go_wp2
        go_roundw
        case rel => exact ⟨k + 1, _, _, by go_num, rfl, rfl, by omega, HT4.out⟩
        case measure => simp [intOf]; omega
    · clear hT
      by_cases h1 : k < len
      · by_cases h2 : k < len2
        all_goals
          go_wp2_with (go_at_call 24; (first | (with_reducible refine (held_any b (TS x y 2) 0 _ HT.out.t).mono ?_) | (with_reducible refine (held_any b (TS x y 2) 1 _ HT.out.t).mono ?_)); (first | rw [sk_held0] | rw [sk_held1]); rintro e w6 ⟨rfl, rfl⟩)
          go_ret
          exact ⟨rfl, below_of_none HT.out.g⟩
      · go_wp2_with (go_at_call 24; (first | (with_reducible refine (held_any b (TS x y 2) 0 _ HT.out.t).mono ?_) | (with_reducible refine (held_any b (TS x y 2) 1 _ HT.out.t).mono ?_)); (first | rw [sk_held0] | rw [sk_held1]); rintro e w6 ⟨rfl, rfl⟩)
        go_ret
        exact ⟨rfl, below_of_none HT.out.g⟩

end Go.Proofs.Ytppnegohdogjeaa
