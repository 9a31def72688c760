/- The walk of the document's set, where the pattern ends; and whole. -/
import Derived.Test.YtphjafidencdeaaV
namespace Go.Proofs.Ytphjafidencdeaa
open Go.RowKit
set_option maxRecDepth 100000

set_option maxHeartbeats 8000000 in
theorem rset_end (p : List UInt8) (i : Nat) (w : World) (hp : p.length ≤ 1000000) (hi : i = p.length) :
    Calls Try.prog 31 #[sv p, .int .i64 i] w fun e w' => e = .returned (.tuple #[.agg d0.cells, .int .i64 0]) ∧ w.grownBy w' none := by
  have h1 := sz p
  have q0 : decide ((i : Int) < (p.length : Int)) = false := by simp; omega
  have hpi : p.length ≤ i := by omega
  clear hi
  unfold sv
  go_enter Try.func31, Try.ntmps31
  go_wp2_with (first
    | (refine wpList_alloc45 rfl rfl ?_)
    | (refine wpList_b91 rfl rfl ?_)
    | (refine wpList_store45 (b := w.heap.size + 1) (x := d0) d91 rfl _ _ rfl (by simp [go_sem]) rfl (by have := Blk.new (w.alloc (.cells d0.cells 45)) 45 d0.cells; rw [World.size_alloc] at this; exact this) ?_; obtain ⟨W2, hW2⟩ : ∃ W2, ((w.alloc (.cells d0.cells 45)).alloc (.cells d0.cells 45)).setCells (w.heap.size + 1) 0 d91.cells.toList = W2 := ⟨_, rfl⟩; rw [hW2]; (have HX := hide (start31 w)); rw [hW2] at HX; clear hW2; obtain ⟨f1, f2, f3⟩ := HX.out; (have HD0 := hide f1); (have HZ0 := hide f2); (have HG0 := hide f3); (have hc2 := (Blk.cell f1 2).trans (DPt.c2 d91)); (have hz2 := Blk.frozen f1 2); (have hl2 := Blk.lt f1); clear f1 f2 f3 HX))
  go_loopw [1] (fun v wr => ∃ k : Nat, v = .int .i64 k ∧ p.length ≤ k ∧ DAt wr w.heap.size d0 ∧ w.grownBy wr none) (fun v _ => 1000000 - (intOf v).toNat)
  case atStart => exact ⟨i, rfl, hpi, HZ0.out, HG0.out⟩
  case round =>
    obtain ⟨k, rfl, hk, hz, hg⟩ := hrel
    have HZ0 := hide hz
    have HG0 := hide hg
    clear hz hg
    have q1 : decide ((k : Int) < (p.length : Int)) = false := by simp; omega
    go_wp2_with (first | (refine wpList_b0 rfl rfl ?_) | (refine wpList_store45 d0 rfl _ _ rfl rfl rfl HZ0.out ?_))
    obtain ⟨f1, f2⟩ := DAt.store HZ0.out d0
    exact bodyPost_ret (res45 rfl rfl f1) rfl ⟨rfl, only_new HG0.out (Nat.le_refl _) f2⟩

theorem rset_any (p : List UInt8) (i : Nat) (w : World) (hp : p.length ≤ 1000000) (hi : i ≤ p.length) :
    Calls Try.prog 31 #[sv p, .int .i64 i] w fun e w' => e = .returned (.tuple #[.agg (dsetF p i).1.cells, .int .i64 (dsetF p i).2]) ∧ w.grownBy w' none := by
  rw [dsetF_out]
  by_cases h : i < p.length
  · have hd : p.getD i 0 = p[i] := getD_at h
    by_cases h33 : p[i] = 33
    · have e : dNot p i = true := by unfold dNot; rw [hd, h33]; simp [h]
      rw [e]
      exact rset_not p i w hp h h33 _ rfl
    · have e : dNot p i = false := by unfold dNot; rw [hd]; simp [h33]
      rw [e]
      exact rset_is p i w hp h h33 _ rfl
  · have e : dNot p i = false := by unfold dNot; simp [h]
    have e2 : setGo addD p i i noF = none := setGo_end h
    rw [e]
    show Calls Try.prog 31 _ w fun e w' => e = .returned (.tuple #[.agg (outD false (setGo addD p i i noF)).1.cells, .int .i64 (outD false (setGo addD p i i noF)).2]) ∧ w.grownBy w' none
    rw [e2]
    exact rset_end p i w hp (by omega)

end Go.Proofs.Ytphjafidencdeaa
