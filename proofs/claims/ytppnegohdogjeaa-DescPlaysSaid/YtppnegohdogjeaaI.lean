/- The walks of Row and of shown. -/
import Derived.Test.YtppnegohdogjeaaH
namespace Go.Proofs.Ytppnegohdogjeaa
open Go.RowKit

theorem Made.after {w w1 w2 : World} {v : Value} {xs : List Int} (h : Made w1 w2 v xs) (hg : w.grownBy w1 none) : Made w w2 v xs :=
  ⟨h.own, fun b hb => Nat.le_trans hg.size (h.new b hb), only_trans hg h.grown⟩

set_option maxHeartbeats 400000 in
theorem row_any (w : World) : Calls Try.prog 19 #[] w (RowPost w negs) := by
  go_enter Try.func19, Try.ntmps19
  go_wp2_with fail
  go_at_call 36
  refine (repeat_any w.heap.size _ (World.cell?_alloc_new w _ _ 0) (by simp)).mono ?_
  rintro e w1 ⟨v, rfl, hM⟩
  have HM := hide hM
  clear hM
  go_wp2
  go_ret
  exact ⟨_, rfl, HM.out.after (only_alloc (only_refl _ _) _)⟩

def T0 : List Sl := List.replicate 60 sl0
def dS : Sl := ⟨2, 3, 0, false, 0, 0⟩
def T1 : List Sl := T0.set 0 (putH dS 1)
def T2 : List Sl := T1.set 0 (putH (putH dS 1) 2)
def T3 : List Sl := T2.set 0 (putH (putH (putH dS 1) 2) 1)
def T4 : List Sl := T3.set 0 (putH (putH (putH (putH dS 1) 2) 1) 0)
theorem sh_open : openRes T0 dS = (T1, 0, 0) := by
  unfold openRes
  rw [if_neg (by decide), fs_here (by decide) (by decide)]
  rfl
theorem sh_hold : holdRes T1 0 = (T2, true) := by kernel_rfl
theorem sh_drop : dropRes T2 0 = (T3, noDesc, false) := by kernel_rfl
theorem sh_drop2 : dropRes T3 0 = (T4, dS.desc, true) := by kernel_rfl
theorem sh_h1 : heldRes T1 0 = 1 := by kernel_rfl
theorem sh_h2 : heldRes T2 0 = 2 := by kernel_rfl
theorem sh_h3 : heldRes T3 0 = 1 := by kernel_rfl

def P1 : List Int := negs.set 0 7
def P2 : List Int := P1.set 2 7
theorem sh_put : putRes negs 7 0 = (P1, 0, 0) := by
  unfold putRes
  rw [show (max 0 (0 : Int)).toNat = 0 from rfl, ff_here (by decide) (by decide)]
  rfl
theorem sh_to : toRes P1 0 2 = (P2, -1, 0) := by kernel_rfl

set_option maxRecDepth 100000 in
set_option maxHeartbeats 1000000 in
theorem shown_any (w : World) : Calls Try.prog 8 #[] w fun e w' => e = .returned (.bool true) ∧ w.grownBy w' none := by
  go_enter Try.func8, Try.ntmps8
  go_wp2_with fail
  go_at_call 20
  refine (new_any w).mono ?_
  rintro e w1 ⟨rfl, h, hg, -⟩
  have H1 := hide (show TabIs w1 w.heap.size 66 T0 from h)
  have G1 := hide hg
  clear h hg
  go_wp2_with fail
  go_at_call 21
  refine (open_any _ T0 dS _ H1.out).mono ?_
  rw [sh_open]
  rintro e w2 ⟨rfl, h, hg⟩
  have H2 := hide h
  have G2 := hide (only_new G1.out (Nat.le_refl _) hg)
  clear h hg H1 G1
  go_wp2_with fail
  go_at_call 22
  refine (hold_any _ T1 0 _ H2.out (by rw [sh_h1]; decide)).mono ?_
  rw [sh_hold]
  rintro e w3 ⟨rfl, h, hg⟩
  have H3 := hide h
  have G3 := hide (only_new G2.out (Nat.le_refl _) hg)
  clear h hg H2 G2
  go_wp2_with fail
  go_at_call 23
  refine (drop_any _ T2 0 _ H3.out (by rw [sh_h2]; decide)).mono ?_
  rw [sh_drop]
  rintro e w4 ⟨rfl, h, hg⟩
  have H4 := hide h
  have G4 := hide (only_new G3.out (Nat.le_refl _) hg)
  clear h hg H3 G3
  unfold noDesc
  go_wp2_with fail
  go_at_call 23
  have hlt := H4.out.lt
  refine (drop_any _ T3 0 _ (H4.out.alloc _) (by rw [sh_h3]; decide)).mono ?_
  rw [sh_drop2]
  rintro e w5 ⟨rfl, h, hg⟩
  have H5 := hide h
  have G5 := hide (only_new (only_alloc G4.out _) (Nat.le_refl _) hg)
  clear h hg H4 G4
  unfold dS Sl.desc
  go_wp2_with fail
  refine (row_any _).mono ?_
  rintro e w6 ⟨v6, rfl, hM6⟩
  have d1 : w6.cell? ⟨w5.heap.size, 1, none⟩ = some (.int .i64 3) := none_cell hM6.grown (by simp) (World.cell?_alloc_new w5 _ _ 1)
  have hd5 : w5.heap.size < w6.heap.size := by have := hM6.grown.size; rw [World.size_alloc] at this; omega
  have HM6 := hide hM6
  clear hM6
  go_wp2_with fail
  go_at_call 10
  refine (put_any v6 negs 7 0 (by omega) _ _ HM6.out.rd (by decide)).mono ?_
  rw [sh_put]
  rintro e w7 ⟨v7, rfl, hM7⟩
  have d1 := none_cell hM7.grown hd5 d1
  have hd5 := Nat.lt_of_lt_of_le hd5 hM7.grown.size
  obtain ⟨a7, cap7, rfl, _, _⟩ := hM7.own.form
  have HM7 := hide hM7
  clear hM7
  rw [show P1.length = 20 from rfl]
  go_wp2_with fail
  go_at_call 15
  refine (to_any _ P1 0 2 _ _ HM7.out.rd (by decide)).mono ?_
  rw [sh_to]
  rintro e w8 ⟨v8, rfl, hM8⟩
  have d1 := none_cell hM8.grown hd5 d1
  obtain ⟨g8, off8, cap8, rfl, hn8, hc8, _, hcell⟩ := hM8.own.some_ (by decide)
  have p0 : w8.cell? ⟨g8, off8, none⟩ = some (.int .i64 7) := (hcell 0 (by decide)).trans rfl
  have p2 : w8.cell? ⟨g8, off8 + 2, none⟩ = some (.int .i64 7) := (hcell 2 (by decide)).trans rfl
  have HM8 := hide hM8
  clear hM8 hcell
  rw [show P2.length = 20 from rfl] at hn8 ⊢
  unfold maxLen at hc8
  go_wp2
  go_ret
  exact ⟨rfl, only_trans (only_trans (only_trans (only_alloc G5.out _) HM6.out.grown) HM7.out.grown) HM8.out.grown⟩

end Go.Proofs.Ytppnegohdogjeaa
