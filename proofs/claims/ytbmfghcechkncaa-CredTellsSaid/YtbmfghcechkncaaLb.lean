/- The walk of CredDrops. -/
import Derived.Test.YtbmfghcechkncaaLa
namespace Go.Proofs.Ytbmfghcechkncaa
open Go.RowKit

theorem arr5 (a b c d e a' b' c' d' e' : Value) : ((((#[a, b, c, d, e].setIfInBounds 0 a').setIfInBounds 1 b').setIfInBounds 2 c').setIfInBounds 3 d').setIfInBounds 4 e' = #[a', b', c', d', e'] := rfl
set_option maxRecDepth 100000 in
set_option maxHeartbeats 2000000 in
theorem drops_any (x y z : Int) (w : World) : Calls Try.prog 6 #[.int .i64 x, .int .i64 y, .int .i64 z] w fun e w' => e = .returned (.bool true) ∧ w.grownBy w' none := by
  obtain ⟨c, hc, ec⟩ := and_bound x 32767 (by omega)
  obtain ⟨a, ha, ea⟩ := and_bound y 32767 (by omega)
  obtain ⟨b, hb, eb⟩ := and_bound z 32767 (by omega)
  simp only [Int.cast_ofNat_Int] at ea eb ec
  have iu : idB (1 + (a : Int)) = true := idB_of (by omega)
  have ig : idB (b : Int) = true := idB_of (by omega)
  have ic : idB (c : Int) = true := idB_of (by omega)
  have i3 : idB 3 = true := idB_of (by omega)
  have i4 : idB 4 = true := idB_of (by omega)
  have i0 : idB 0 = true := idB_of (by omega)
  have z1 : ((1 + (a : Int)) == 0) = false := by rw [beq_eq_false_iff_ne]; omega
  have z2 : ((0 : Int) == 1 + (a : Int)) = false := by rw [beq_eq_false_iff_ne]; omega
  have E1 : setgidF ⟨c, 0, 0, 3, 4⟩ (b : Int) = (⟨c, 0, 0, b, b⟩, 0) := by simp [setgidF, okTwo, Cr.ok, ig, ic, i3, i4, i0]
  have E2 : setuidF ⟨c, 0, 0, b, b⟩ (1 + (a : Int)) = (⟨1 + a, 1 + a, 1 + a, b, b⟩, 0) := by simp [setuidF, okTwo, Cr.ok, iu, ig, ic, i0]
  have E3 : setuidF ⟨1 + a, 1 + a, 1 + a, b, b⟩ 0 = (zero, 2) := by simp [setuidF, okTwo, Cr.ok, iu, ig, i0, z1, z2]
  have E4 : ofF (1 + (a : Int)) b = (⟨1 + a, 1 + a, 1 + a, b, b⟩, 0) := by simp [ofF, Cr.ok, iu, ig]
  clear iu ig ic i3 i4 i0 z1 z2
  go_enter Try.func6, Try.ntmps6
  go_wp2_with fail
  refine (shown_any _).mono ?_
  rintro e w1 ⟨rfl, hg⟩
  have Hg1 := hide hg
  clear hg
  go_wp2_with fail
  refine (setgid_calls _ _ _ _ _ _ _).mono ?_
  rw [E1]
  rintro e w2 ⟨rfl, hg⟩
  have B := (Blk.new w1 24 _).grown hg (by simp)
  have G : w1.grownBy w2 none := none_trans (only_alloc (only_refl _ _) _) hg
  obtain ⟨⟨p0, p1, p2, p3, p4⟩, q0, q1, q2, q3, q4⟩ := B.c5
  have B' := (((((B.set_ 0 (.int .i64 c)).set_ 1 (.int .i64 0)).set_ 2 (.int .i64 0)).set_ 3 (.int .i64 b)).set_ 4 (.int .i64 b))
  rw [arr5] at B'
  have G' := only_new (g := w1.heap.size) G (Nat.le_refl _) (only_setCell (only_setCell (only_setCell (only_setCell (only_setCell (only_refl w2 (some (w1.heap.size))) (p := ⟨w1.heap.size, 0, none⟩) (.inl rfl) (.int .i64 c)) (p := ⟨w1.heap.size, 1, none⟩) (.inl rfl) (.int .i64 0)) (p := ⟨w1.heap.size, 2, none⟩) (.inl rfl) (.int .i64 0)) (p := ⟨w1.heap.size, 3, none⟩) (.inl rfl) (.int .i64 b)) (p := ⟨w1.heap.size, 4, none⟩) (.inl rfl) (.int .i64 b))
  have HB := hide B
  have HB' := hide B'
  have HG' := hide G'
  clear hg B B' G G' E1
  go_wp2_with fail
  generalize (((((w2.setCell ⟨w1.heap.size, 0, none⟩ (.int .i64 c)).setCell ⟨w1.heap.size, 1, none⟩ (.int .i64 0)).setCell ⟨w1.heap.size, 2, none⟩ (.int .i64 0)).setCell ⟨w1.heap.size, 3, none⟩ (.int .i64 b)).setCell ⟨w1.heap.size, 4, none⟩ (.int .i64 b)) = w3 at *
  refine (setuid_calls _ _ _ _ _ _ _).mono ?_
  rw [E2]
  rintro e w4 ⟨rfl, hg⟩
  have B := HB'.out.grown hg (by simp)
  have G : w1.grownBy w4 none := none_trans HG'.out hg
  clear p0 p1 p2 p3 p4 q0 q1 q2 q3 q4
  obtain ⟨⟨p0, p1, p2, p3, p4⟩, q0, q1, q2, q3, q4⟩ := B.c5
  have B' := (((((B.set_ 0 (.int .i64 (1 + (a : Int)))).set_ 1 (.int .i64 (1 + (a : Int)))).set_ 2 (.int .i64 (1 + (a : Int)))).set_ 3 (.int .i64 b)).set_ 4 (.int .i64 b))
  rw [arr5] at B'
  have G' := only_new (g := w1.heap.size) G (Nat.le_refl _) (only_setCell (only_setCell (only_setCell (only_setCell (only_setCell (only_refl w4 (some (w1.heap.size))) (p := ⟨w1.heap.size, 0, none⟩) (.inl rfl) (.int .i64 (1 + (a : Int)))) (p := ⟨w1.heap.size, 1, none⟩) (.inl rfl) (.int .i64 (1 + (a : Int)))) (p := ⟨w1.heap.size, 2, none⟩) (.inl rfl) (.int .i64 (1 + (a : Int)))) (p := ⟨w1.heap.size, 3, none⟩) (.inl rfl) (.int .i64 b)) (p := ⟨w1.heap.size, 4, none⟩) (.inl rfl) (.int .i64 b))
  clear HB HB' HG'
  have HB' := hide B'
  have HG' := hide G'
  clear hg B B' G G' E2
  go_wp2_with fail
  generalize (((((w4.setCell ⟨w1.heap.size, 0, none⟩ (.int .i64 (1 + (a : Int)))).setCell ⟨w1.heap.size, 1, none⟩ (.int .i64 (1 + (a : Int)))).setCell ⟨w1.heap.size, 2, none⟩ (.int .i64 (1 + (a : Int)))).setCell ⟨w1.heap.size, 3, none⟩ (.int .i64 b)).setCell ⟨w1.heap.size, 4, none⟩ (.int .i64 b)) = w5 at *
  refine (setuid_calls _ _ _ _ _ _ _).mono ?_
  rw [E3]
  rintro e w6 ⟨rfl, hg⟩
  have B := HB'.out.grown hg (by simp)
  have G : w1.grownBy w6 none := none_trans HG'.out hg
  clear p0 p1 p2 p3 p4 q0 q1 q2 q3 q4
  have HB := hide B
  have HG := hide G
  have hlt : w1.heap.size < w6.heap.size := B.lt
  clear hg B G E3
  go_wp2_with fail
  refine (of_calls _ _ _).mono ?_
  rw [E4]
  rintro e w7 ⟨rfl, hg⟩
  have B := (HB.out.alloc _).grown hg (by simp)
  have G : w1.grownBy w7 none := none_trans (only_alloc HG.out _) hg
  have hlt2 : w1.heap.size < w7.heap.size := B.lt
  obtain ⟨⟨p0, p1, p2, p3, p4⟩, q0, q1, q2, q3, q4⟩ := B.c5
  have HG7 := hide G
  clear hg B G E4
  go_wp2_with fail
  go_ret
  exact ⟨rfl, only_alloc (none_trans Hg1.out HG7.out) _⟩

end Go.Proofs.Ytbmfghcechkncaa
