/- The walk of CredTells. -/
import Derived.Test.YtbmfghcechkncaaLb
namespace Go.Proofs.Ytbmfghcechkncaa
open Go.RowKit

set_option maxRecDepth 100000 in
set_option maxHeartbeats 4000000 in
theorem tells_any (r e s g k u v m o : Int) (w : World) : Calls Try.prog 4 #[.agg #[.int .i64 r, .int .i64 e, .int .i64 s, .int .i64 g, .int .i64 k], .int .i64 u, .int .i64 v, .int .i64 m, .int .i64 o] w fun e w' => e = .returned (.bool true) ∧ w.grownBy w' none := by
  have K_c := hide (Blk.new w 24 #[.int .i64 r, .int .i64 e, .int .i64 s, .int .i64 g, .int .i64 k])
  have G := hide (only_alloc (only_refl w none) (.cells #[.int .i64 r, .int .i64 e, .int .i64 s, .int .i64 g, .int .i64 k] 24))
  go_enter Try.func4, Try.ntmps4
  go_wp2_with fail
  refine (shown_any _).mono ?_
  rintro e' x1 ⟨rfl, hg⟩
  have J_c := hide (K_c.out.grown hg (by simp))
  clear K_c
  have G' := hide (none_trans G.out hg)
  clear hg G
  obtain ⟨⟨p_c0, p_c1, p_c2, p_c3, p_c4⟩, q_c0, q_c1, q_c2, q_c3, q_c4⟩ := J_c.out.c5
  have K_c := J_c
  have G := G'
  clear G' J_c
  go_wp2_with fail
  refine (of_calls _ _ _).mono ?_
  rintro e' x2 ⟨rfl, hg⟩
  clear p_c0 p_c1 p_c2 p_c3 p_c4 q_c0 q_c1 q_c2 q_c3 q_c4
  have J_c := hide (K_c.out.grown hg (by simp))
  clear K_c
  have G' := hide (none_trans G.out hg)
  clear hg G
  obtain ⟨⟨p_c0, p_c1, p_c2, p_c3, p_c4⟩, q_c0, q_c1, q_c2, q_c3, q_c4⟩ := J_c.out.c5
  have lt_c_a : w.heap.size < x2.heap.size := J_c.out.lt
  have K_c := hide (J_c.out.alloc (.cells #[.int .i64 (ofF u v).1.r, .int .i64 (ofF u v).1.e, .int .i64 (ofF u v).1.s, .int .i64 (ofF u v).1.g, .int .i64 (ofF u v).1.h] 24))
  have le_a : w.heap.size ≤ x2.heap.size := G'.out.size
  have K_a := hide (Blk.new x2 24 #[.int .i64 (ofF u v).1.r, .int .i64 (ofF u v).1.e, .int .i64 (ofF u v).1.s, .int .i64 (ofF u v).1.g, .int .i64 (ofF u v).1.h])
  have G := hide (only_alloc G'.out (.cells #[.int .i64 (ofF u v).1.r, .int .i64 (ofF u v).1.e, .int .i64 (ofF u v).1.s, .int .i64 (ofF u v).1.g, .int .i64 (ofF u v).1.h] 24))
  clear G' J_c
  go_wp2_with fail
  generalize (x2.alloc (.cells #[.int .i64 (ofF u v).1.r, .int .i64 (ofF u v).1.e, .int .i64 (ofF u v).1.s, .int .i64 (ofF u v).1.g, .int .i64 (ofF u v).1.h] 24)) = y3 at *
  refine (rof_calls _ _ _).mono ?_
  rintro e' x3 ⟨rfl, hg⟩
  clear p_c0 p_c1 p_c2 p_c3 p_c4 q_c0 q_c1 q_c2 q_c3 q_c4
  have J_c := hide (K_c.out.grown hg (by simp))
  have J_a := hide (K_a.out.grown hg (by simp))
  clear K_c K_a
  have G' := hide (none_trans G.out hg)
  clear hg G
  obtain ⟨⟨p_c0, p_c1, p_c2, p_c3, p_c4⟩, q_c0, q_c1, q_c2, q_c3, q_c4⟩ := J_c.out.c5
  obtain ⟨⟨p_a0, p_a1, p_a2, p_a3, p_a4⟩, q_a0, q_a1, q_a2, q_a3, q_a4⟩ := J_a.out.c5
  have lt_c_b : w.heap.size < x3.heap.size := J_c.out.lt
  have K_c := hide (J_c.out.alloc (.cells #[.int .i64 (ofF u v).1.r, .int .i64 (ofF u v).1.e, .int .i64 (ofF u v).1.s, .int .i64 (ofF u v).1.g, .int .i64 (ofF u v).1.h] 24))
  have lt_a_b : x2.heap.size < x3.heap.size := J_a.out.lt
  have K_a := hide (J_a.out.alloc (.cells #[.int .i64 (ofF u v).1.r, .int .i64 (ofF u v).1.e, .int .i64 (ofF u v).1.s, .int .i64 (ofF u v).1.g, .int .i64 (ofF u v).1.h] 24))
  have le_b : w.heap.size ≤ x3.heap.size := G'.out.size
  have K_b := hide (Blk.new x3 24 #[.int .i64 (ofF u v).1.r, .int .i64 (ofF u v).1.e, .int .i64 (ofF u v).1.s, .int .i64 (ofF u v).1.g, .int .i64 (ofF u v).1.h])
  have G := hide (only_alloc G'.out (.cells #[.int .i64 (ofF u v).1.r, .int .i64 (ofF u v).1.e, .int .i64 (ofF u v).1.s, .int .i64 (ofF u v).1.g, .int .i64 (ofF u v).1.h] 24))
  clear G' J_c J_a
  go_wp2_with fail
  generalize (x3.alloc (.cells #[.int .i64 (ofF u v).1.r, .int .i64 (ofF u v).1.e, .int .i64 (ofF u v).1.s, .int .i64 (ofF u v).1.g, .int .i64 (ofF u v).1.h] 24)) = y4 at *
  refine (exec_calls _ _ _ _ _ _ _ _).mono ?_
  rintro e' x4 ⟨rfl, hg⟩
  clear p_c0 p_c1 p_c2 p_c3 p_c4 q_c0 q_c1 q_c2 q_c3 q_c4 p_a0 p_a1 p_a2 p_a3 p_a4 q_a0 q_a1 q_a2 q_a3 q_a4
  have J_c := hide (K_c.out.grown hg (by simp))
  have J_a := hide (K_a.out.grown hg (by simp))
  have J_b := hide (K_b.out.grown hg (by simp))
  clear K_c K_a K_b
  have G' := hide (none_trans G.out hg)
  clear hg G
  obtain ⟨⟨p_c0, p_c1, p_c2, p_c3, p_c4⟩, q_c0, q_c1, q_c2, q_c3, q_c4⟩ := J_c.out.c5
  obtain ⟨⟨p_a0, p_a1, p_a2, p_a3, p_a4⟩, q_a0, q_a1, q_a2, q_a3, q_a4⟩ := J_a.out.c5
  obtain ⟨⟨p_b0, p_b1, p_b2, p_b3, p_b4⟩, q_b0, q_b1, q_b2, q_b3, q_b4⟩ := J_b.out.c5
  have lt_c_x : w.heap.size < x4.heap.size := J_c.out.lt
  have K_c := hide (J_c.out.alloc (.cells #[.int .i64 (execF ⟨r, e, s, g, k⟩ m o).1.r, .int .i64 (execF ⟨r, e, s, g, k⟩ m o).1.e, .int .i64 (execF ⟨r, e, s, g, k⟩ m o).1.s, .int .i64 (execF ⟨r, e, s, g, k⟩ m o).1.g, .int .i64 (execF ⟨r, e, s, g, k⟩ m o).1.h] 24))
  have lt_a_x : x2.heap.size < x4.heap.size := J_a.out.lt
  have K_a := hide (J_a.out.alloc (.cells #[.int .i64 (execF ⟨r, e, s, g, k⟩ m o).1.r, .int .i64 (execF ⟨r, e, s, g, k⟩ m o).1.e, .int .i64 (execF ⟨r, e, s, g, k⟩ m o).1.s, .int .i64 (execF ⟨r, e, s, g, k⟩ m o).1.g, .int .i64 (execF ⟨r, e, s, g, k⟩ m o).1.h] 24))
  have lt_b_x : x3.heap.size < x4.heap.size := J_b.out.lt
  have K_b := hide (J_b.out.alloc (.cells #[.int .i64 (execF ⟨r, e, s, g, k⟩ m o).1.r, .int .i64 (execF ⟨r, e, s, g, k⟩ m o).1.e, .int .i64 (execF ⟨r, e, s, g, k⟩ m o).1.s, .int .i64 (execF ⟨r, e, s, g, k⟩ m o).1.g, .int .i64 (execF ⟨r, e, s, g, k⟩ m o).1.h] 24))
  have le_x : w.heap.size ≤ x4.heap.size := G'.out.size
  have K_x := hide (Blk.new x4 24 #[.int .i64 (execF ⟨r, e, s, g, k⟩ m o).1.r, .int .i64 (execF ⟨r, e, s, g, k⟩ m o).1.e, .int .i64 (execF ⟨r, e, s, g, k⟩ m o).1.s, .int .i64 (execF ⟨r, e, s, g, k⟩ m o).1.g, .int .i64 (execF ⟨r, e, s, g, k⟩ m o).1.h])
  have G := hide (only_alloc G'.out (.cells #[.int .i64 (execF ⟨r, e, s, g, k⟩ m o).1.r, .int .i64 (execF ⟨r, e, s, g, k⟩ m o).1.e, .int .i64 (execF ⟨r, e, s, g, k⟩ m o).1.s, .int .i64 (execF ⟨r, e, s, g, k⟩ m o).1.g, .int .i64 (execF ⟨r, e, s, g, k⟩ m o).1.h] 24))
  clear G' J_c J_a J_b
  go_wp2_with fail
  generalize (x4.alloc (.cells #[.int .i64 (execF ⟨r, e, s, g, k⟩ m o).1.r, .int .i64 (execF ⟨r, e, s, g, k⟩ m o).1.e, .int .i64 (execF ⟨r, e, s, g, k⟩ m o).1.s, .int .i64 (execF ⟨r, e, s, g, k⟩ m o).1.g, .int .i64 (execF ⟨r, e, s, g, k⟩ m o).1.h] 24)) = y5 at *
  refine (rexec_calls _ _ _ _ _ _ _ _).mono ?_
  rintro e' x5 ⟨rfl, hg⟩
  clear p_c0 p_c1 p_c2 p_c3 p_c4 q_c0 q_c1 q_c2 q_c3 q_c4 p_a0 p_a1 p_a2 p_a3 p_a4 q_a0 q_a1 q_a2 q_a3 q_a4 p_b0 p_b1 p_b2 p_b3 p_b4 q_b0 q_b1 q_b2 q_b3 q_b4
  have J_c := hide (K_c.out.grown hg (by simp))
  have J_a := hide (K_a.out.grown hg (by simp))
  have J_b := hide (K_b.out.grown hg (by simp))
  have J_x := hide (K_x.out.grown hg (by simp))
  clear K_c K_a K_b K_x
  have G' := hide (none_trans G.out hg)
  clear hg G
  obtain ⟨⟨p_c0, p_c1, p_c2, p_c3, p_c4⟩, q_c0, q_c1, q_c2, q_c3, q_c4⟩ := J_c.out.c5
  obtain ⟨⟨p_a0, p_a1, p_a2, p_a3, p_a4⟩, q_a0, q_a1, q_a2, q_a3, q_a4⟩ := J_a.out.c5
  obtain ⟨⟨p_b0, p_b1, p_b2, p_b3, p_b4⟩, q_b0, q_b1, q_b2, q_b3, q_b4⟩ := J_b.out.c5
  obtain ⟨⟨p_x0, p_x1, p_x2, p_x3, p_x4⟩, q_x0, q_x1, q_x2, q_x3, q_x4⟩ := J_x.out.c5
  have lt_c_y : w.heap.size < x5.heap.size := J_c.out.lt
  have K_c := hide (J_c.out.alloc (.cells #[.int .i64 (execF ⟨r, e, s, g, k⟩ m o).1.r, .int .i64 (execF ⟨r, e, s, g, k⟩ m o).1.e, .int .i64 (execF ⟨r, e, s, g, k⟩ m o).1.s, .int .i64 (execF ⟨r, e, s, g, k⟩ m o).1.g, .int .i64 (execF ⟨r, e, s, g, k⟩ m o).1.h] 24))
  have lt_a_y : x2.heap.size < x5.heap.size := J_a.out.lt
  have K_a := hide (J_a.out.alloc (.cells #[.int .i64 (execF ⟨r, e, s, g, k⟩ m o).1.r, .int .i64 (execF ⟨r, e, s, g, k⟩ m o).1.e, .int .i64 (execF ⟨r, e, s, g, k⟩ m o).1.s, .int .i64 (execF ⟨r, e, s, g, k⟩ m o).1.g, .int .i64 (execF ⟨r, e, s, g, k⟩ m o).1.h] 24))
  have lt_b_y : x3.heap.size < x5.heap.size := J_b.out.lt
  have K_b := hide (J_b.out.alloc (.cells #[.int .i64 (execF ⟨r, e, s, g, k⟩ m o).1.r, .int .i64 (execF ⟨r, e, s, g, k⟩ m o).1.e, .int .i64 (execF ⟨r, e, s, g, k⟩ m o).1.s, .int .i64 (execF ⟨r, e, s, g, k⟩ m o).1.g, .int .i64 (execF ⟨r, e, s, g, k⟩ m o).1.h] 24))
  have lt_x_y : x4.heap.size < x5.heap.size := J_x.out.lt
  have K_x := hide (J_x.out.alloc (.cells #[.int .i64 (execF ⟨r, e, s, g, k⟩ m o).1.r, .int .i64 (execF ⟨r, e, s, g, k⟩ m o).1.e, .int .i64 (execF ⟨r, e, s, g, k⟩ m o).1.s, .int .i64 (execF ⟨r, e, s, g, k⟩ m o).1.g, .int .i64 (execF ⟨r, e, s, g, k⟩ m o).1.h] 24))
  have le_y : w.heap.size ≤ x5.heap.size := G'.out.size
  have K_y := hide (Blk.new x5 24 #[.int .i64 (execF ⟨r, e, s, g, k⟩ m o).1.r, .int .i64 (execF ⟨r, e, s, g, k⟩ m o).1.e, .int .i64 (execF ⟨r, e, s, g, k⟩ m o).1.s, .int .i64 (execF ⟨r, e, s, g, k⟩ m o).1.g, .int .i64 (execF ⟨r, e, s, g, k⟩ m o).1.h])
  have G := hide (only_alloc G'.out (.cells #[.int .i64 (execF ⟨r, e, s, g, k⟩ m o).1.r, .int .i64 (execF ⟨r, e, s, g, k⟩ m o).1.e, .int .i64 (execF ⟨r, e, s, g, k⟩ m o).1.s, .int .i64 (execF ⟨r, e, s, g, k⟩ m o).1.g, .int .i64 (execF ⟨r, e, s, g, k⟩ m o).1.h] 24))
  clear G' J_c J_a J_b J_x
  go_wp2_with fail
  generalize (x5.alloc (.cells #[.int .i64 (execF ⟨r, e, s, g, k⟩ m o).1.r, .int .i64 (execF ⟨r, e, s, g, k⟩ m o).1.e, .int .i64 (execF ⟨r, e, s, g, k⟩ m o).1.s, .int .i64 (execF ⟨r, e, s, g, k⟩ m o).1.g, .int .i64 (execF ⟨r, e, s, g, k⟩ m o).1.h] 24)) = y6 at *
  refine (setuid_calls _ _ _ _ _ _ _).mono ?_
  rintro e' x6 ⟨rfl, hg⟩
  clear p_c0 p_c1 p_c2 p_c3 p_c4 q_c0 q_c1 q_c2 q_c3 q_c4 p_a0 p_a1 p_a2 p_a3 p_a4 q_a0 q_a1 q_a2 q_a3 q_a4 p_b0 p_b1 p_b2 p_b3 p_b4 q_b0 q_b1 q_b2 q_b3 q_b4 p_x0 p_x1 p_x2 p_x3 p_x4 q_x0 q_x1 q_x2 q_x3 q_x4
  have J_c := hide (K_c.out.grown hg (by simp))
  have J_a := hide (K_a.out.grown hg (by simp))
  have J_b := hide (K_b.out.grown hg (by simp))
  have J_x := hide (K_x.out.grown hg (by simp))
  have J_y := hide (K_y.out.grown hg (by simp))
  clear K_c K_a K_b K_x K_y
  have G' := hide (none_trans G.out hg)
  clear hg G
  obtain ⟨⟨p_c0, p_c1, p_c2, p_c3, p_c4⟩, q_c0, q_c1, q_c2, q_c3, q_c4⟩ := J_c.out.c5
  obtain ⟨⟨p_a0, p_a1, p_a2, p_a3, p_a4⟩, q_a0, q_a1, q_a2, q_a3, q_a4⟩ := J_a.out.c5
  obtain ⟨⟨p_b0, p_b1, p_b2, p_b3, p_b4⟩, q_b0, q_b1, q_b2, q_b3, q_b4⟩ := J_b.out.c5
  obtain ⟨⟨p_x0, p_x1, p_x2, p_x3, p_x4⟩, q_x0, q_x1, q_x2, q_x3, q_x4⟩ := J_x.out.c5
  obtain ⟨⟨p_y0, p_y1, p_y2, p_y3, p_y4⟩, q_y0, q_y1, q_y2, q_y3, q_y4⟩ := J_y.out.c5
  have K_c := hide (((((J_c.out.far (p := ⟨x2.heap.size, 0, none⟩) (Nat.ne_of_lt lt_c_a) (.int .i64 (setuidF ⟨r, e, s, g, k⟩ u).1.r)).far (p := ⟨x2.heap.size, 1, none⟩) (Nat.ne_of_lt lt_c_a) (.int .i64 (setuidF ⟨r, e, s, g, k⟩ u).1.e)).far (p := ⟨x2.heap.size, 2, none⟩) (Nat.ne_of_lt lt_c_a) (.int .i64 (setuidF ⟨r, e, s, g, k⟩ u).1.s)).far (p := ⟨x2.heap.size, 3, none⟩) (Nat.ne_of_lt lt_c_a) (.int .i64 (setuidF ⟨r, e, s, g, k⟩ u).1.g)).far (p := ⟨x2.heap.size, 4, none⟩) (Nat.ne_of_lt lt_c_a) (.int .i64 (setuidF ⟨r, e, s, g, k⟩ u).1.h))
  have K_b := hide (((((J_b.out.far (p := ⟨x2.heap.size, 0, none⟩) (Nat.ne_of_gt lt_a_b) (.int .i64 (setuidF ⟨r, e, s, g, k⟩ u).1.r)).far (p := ⟨x2.heap.size, 1, none⟩) (Nat.ne_of_gt lt_a_b) (.int .i64 (setuidF ⟨r, e, s, g, k⟩ u).1.e)).far (p := ⟨x2.heap.size, 2, none⟩) (Nat.ne_of_gt lt_a_b) (.int .i64 (setuidF ⟨r, e, s, g, k⟩ u).1.s)).far (p := ⟨x2.heap.size, 3, none⟩) (Nat.ne_of_gt lt_a_b) (.int .i64 (setuidF ⟨r, e, s, g, k⟩ u).1.g)).far (p := ⟨x2.heap.size, 4, none⟩) (Nat.ne_of_gt lt_a_b) (.int .i64 (setuidF ⟨r, e, s, g, k⟩ u).1.h))
  have K_x := hide (((((J_x.out.far (p := ⟨x2.heap.size, 0, none⟩) (Nat.ne_of_gt lt_a_x) (.int .i64 (setuidF ⟨r, e, s, g, k⟩ u).1.r)).far (p := ⟨x2.heap.size, 1, none⟩) (Nat.ne_of_gt lt_a_x) (.int .i64 (setuidF ⟨r, e, s, g, k⟩ u).1.e)).far (p := ⟨x2.heap.size, 2, none⟩) (Nat.ne_of_gt lt_a_x) (.int .i64 (setuidF ⟨r, e, s, g, k⟩ u).1.s)).far (p := ⟨x2.heap.size, 3, none⟩) (Nat.ne_of_gt lt_a_x) (.int .i64 (setuidF ⟨r, e, s, g, k⟩ u).1.g)).far (p := ⟨x2.heap.size, 4, none⟩) (Nat.ne_of_gt lt_a_x) (.int .i64 (setuidF ⟨r, e, s, g, k⟩ u).1.h))
  have K_y := hide (((((J_y.out.far (p := ⟨x2.heap.size, 0, none⟩) (Nat.ne_of_gt lt_a_y) (.int .i64 (setuidF ⟨r, e, s, g, k⟩ u).1.r)).far (p := ⟨x2.heap.size, 1, none⟩) (Nat.ne_of_gt lt_a_y) (.int .i64 (setuidF ⟨r, e, s, g, k⟩ u).1.e)).far (p := ⟨x2.heap.size, 2, none⟩) (Nat.ne_of_gt lt_a_y) (.int .i64 (setuidF ⟨r, e, s, g, k⟩ u).1.s)).far (p := ⟨x2.heap.size, 3, none⟩) (Nat.ne_of_gt lt_a_y) (.int .i64 (setuidF ⟨r, e, s, g, k⟩ u).1.g)).far (p := ⟨x2.heap.size, 4, none⟩) (Nat.ne_of_gt lt_a_y) (.int .i64 (setuidF ⟨r, e, s, g, k⟩ u).1.h))
  have K2 := (((((J_a.out.set_ 0 (.int .i64 (setuidF ⟨r, e, s, g, k⟩ u).1.r)).set_ 1 (.int .i64 (setuidF ⟨r, e, s, g, k⟩ u).1.e)).set_ 2 (.int .i64 (setuidF ⟨r, e, s, g, k⟩ u).1.s)).set_ 3 (.int .i64 (setuidF ⟨r, e, s, g, k⟩ u).1.g)).set_ 4 (.int .i64 (setuidF ⟨r, e, s, g, k⟩ u).1.h))
  rw [arr5] at K2
  have K_a := hide K2
  clear K2
  have G := hide (only_new G'.out le_a (only_setCell (only_setCell (only_setCell (only_setCell (only_setCell (only_refl x6 (some (x2.heap.size))) (p := ⟨x2.heap.size, 0, none⟩) (.inl rfl) (.int .i64 (setuidF ⟨r, e, s, g, k⟩ u).1.r)) (p := ⟨x2.heap.size, 1, none⟩) (.inl rfl) (.int .i64 (setuidF ⟨r, e, s, g, k⟩ u).1.e)) (p := ⟨x2.heap.size, 2, none⟩) (.inl rfl) (.int .i64 (setuidF ⟨r, e, s, g, k⟩ u).1.s)) (p := ⟨x2.heap.size, 3, none⟩) (.inl rfl) (.int .i64 (setuidF ⟨r, e, s, g, k⟩ u).1.g)) (p := ⟨x2.heap.size, 4, none⟩) (.inl rfl) (.int .i64 (setuidF ⟨r, e, s, g, k⟩ u).1.h)))
  clear G' J_c J_a J_b J_x J_y
  go_wp2_with fail
  generalize (((((x6.setCell ⟨x2.heap.size, 0, none⟩ (.int .i64 (setuidF ⟨r, e, s, g, k⟩ u).1.r)).setCell ⟨x2.heap.size, 1, none⟩ (.int .i64 (setuidF ⟨r, e, s, g, k⟩ u).1.e)).setCell ⟨x2.heap.size, 2, none⟩ (.int .i64 (setuidF ⟨r, e, s, g, k⟩ u).1.s)).setCell ⟨x2.heap.size, 3, none⟩ (.int .i64 (setuidF ⟨r, e, s, g, k⟩ u).1.g)).setCell ⟨x2.heap.size, 4, none⟩ (.int .i64 (setuidF ⟨r, e, s, g, k⟩ u).1.h)) = y7 at *
  refine (rsetuid_calls _ _ _ _ _ _ _).mono ?_
  rintro e' x7 ⟨rfl, hg⟩
  clear p_c0 p_c1 p_c2 p_c3 p_c4 q_c0 q_c1 q_c2 q_c3 q_c4 p_a0 p_a1 p_a2 p_a3 p_a4 q_a0 q_a1 q_a2 q_a3 q_a4 p_b0 p_b1 p_b2 p_b3 p_b4 q_b0 q_b1 q_b2 q_b3 q_b4 p_x0 p_x1 p_x2 p_x3 p_x4 q_x0 q_x1 q_x2 q_x3 q_x4 p_y0 p_y1 p_y2 p_y3 p_y4 q_y0 q_y1 q_y2 q_y3 q_y4
  have J_c := hide (K_c.out.grown hg (by simp))
  have J_a := hide (K_a.out.grown hg (by simp))
  have J_b := hide (K_b.out.grown hg (by simp))
  have J_x := hide (K_x.out.grown hg (by simp))
  have J_y := hide (K_y.out.grown hg (by simp))
  clear K_c K_a K_b K_x K_y
  have G' := hide (none_trans G.out hg)
  clear hg G
  obtain ⟨⟨p_c0, p_c1, p_c2, p_c3, p_c4⟩, q_c0, q_c1, q_c2, q_c3, q_c4⟩ := J_c.out.c5
  obtain ⟨⟨p_a0, p_a1, p_a2, p_a3, p_a4⟩, q_a0, q_a1, q_a2, q_a3, q_a4⟩ := J_a.out.c5
  obtain ⟨⟨p_b0, p_b1, p_b2, p_b3, p_b4⟩, q_b0, q_b1, q_b2, q_b3, q_b4⟩ := J_b.out.c5
  obtain ⟨⟨p_x0, p_x1, p_x2, p_x3, p_x4⟩, q_x0, q_x1, q_x2, q_x3, q_x4⟩ := J_x.out.c5
  obtain ⟨⟨p_y0, p_y1, p_y2, p_y3, p_y4⟩, q_y0, q_y1, q_y2, q_y3, q_y4⟩ := J_y.out.c5
  have K_c := hide (((((J_c.out.far (p := ⟨x3.heap.size, 0, none⟩) (Nat.ne_of_lt lt_c_b) (.int .i64 (setuidF ⟨r, e, s, g, k⟩ u).1.r)).far (p := ⟨x3.heap.size, 1, none⟩) (Nat.ne_of_lt lt_c_b) (.int .i64 (setuidF ⟨r, e, s, g, k⟩ u).1.e)).far (p := ⟨x3.heap.size, 2, none⟩) (Nat.ne_of_lt lt_c_b) (.int .i64 (setuidF ⟨r, e, s, g, k⟩ u).1.s)).far (p := ⟨x3.heap.size, 3, none⟩) (Nat.ne_of_lt lt_c_b) (.int .i64 (setuidF ⟨r, e, s, g, k⟩ u).1.g)).far (p := ⟨x3.heap.size, 4, none⟩) (Nat.ne_of_lt lt_c_b) (.int .i64 (setuidF ⟨r, e, s, g, k⟩ u).1.h))
  have K_a := hide (((((J_a.out.far (p := ⟨x3.heap.size, 0, none⟩) (Nat.ne_of_lt lt_a_b) (.int .i64 (setuidF ⟨r, e, s, g, k⟩ u).1.r)).far (p := ⟨x3.heap.size, 1, none⟩) (Nat.ne_of_lt lt_a_b) (.int .i64 (setuidF ⟨r, e, s, g, k⟩ u).1.e)).far (p := ⟨x3.heap.size, 2, none⟩) (Nat.ne_of_lt lt_a_b) (.int .i64 (setuidF ⟨r, e, s, g, k⟩ u).1.s)).far (p := ⟨x3.heap.size, 3, none⟩) (Nat.ne_of_lt lt_a_b) (.int .i64 (setuidF ⟨r, e, s, g, k⟩ u).1.g)).far (p := ⟨x3.heap.size, 4, none⟩) (Nat.ne_of_lt lt_a_b) (.int .i64 (setuidF ⟨r, e, s, g, k⟩ u).1.h))
  have K_x := hide (((((J_x.out.far (p := ⟨x3.heap.size, 0, none⟩) (Nat.ne_of_gt lt_b_x) (.int .i64 (setuidF ⟨r, e, s, g, k⟩ u).1.r)).far (p := ⟨x3.heap.size, 1, none⟩) (Nat.ne_of_gt lt_b_x) (.int .i64 (setuidF ⟨r, e, s, g, k⟩ u).1.e)).far (p := ⟨x3.heap.size, 2, none⟩) (Nat.ne_of_gt lt_b_x) (.int .i64 (setuidF ⟨r, e, s, g, k⟩ u).1.s)).far (p := ⟨x3.heap.size, 3, none⟩) (Nat.ne_of_gt lt_b_x) (.int .i64 (setuidF ⟨r, e, s, g, k⟩ u).1.g)).far (p := ⟨x3.heap.size, 4, none⟩) (Nat.ne_of_gt lt_b_x) (.int .i64 (setuidF ⟨r, e, s, g, k⟩ u).1.h))
  have K_y := hide (((((J_y.out.far (p := ⟨x3.heap.size, 0, none⟩) (Nat.ne_of_gt lt_b_y) (.int .i64 (setuidF ⟨r, e, s, g, k⟩ u).1.r)).far (p := ⟨x3.heap.size, 1, none⟩) (Nat.ne_of_gt lt_b_y) (.int .i64 (setuidF ⟨r, e, s, g, k⟩ u).1.e)).far (p := ⟨x3.heap.size, 2, none⟩) (Nat.ne_of_gt lt_b_y) (.int .i64 (setuidF ⟨r, e, s, g, k⟩ u).1.s)).far (p := ⟨x3.heap.size, 3, none⟩) (Nat.ne_of_gt lt_b_y) (.int .i64 (setuidF ⟨r, e, s, g, k⟩ u).1.g)).far (p := ⟨x3.heap.size, 4, none⟩) (Nat.ne_of_gt lt_b_y) (.int .i64 (setuidF ⟨r, e, s, g, k⟩ u).1.h))
  have K2 := (((((J_b.out.set_ 0 (.int .i64 (setuidF ⟨r, e, s, g, k⟩ u).1.r)).set_ 1 (.int .i64 (setuidF ⟨r, e, s, g, k⟩ u).1.e)).set_ 2 (.int .i64 (setuidF ⟨r, e, s, g, k⟩ u).1.s)).set_ 3 (.int .i64 (setuidF ⟨r, e, s, g, k⟩ u).1.g)).set_ 4 (.int .i64 (setuidF ⟨r, e, s, g, k⟩ u).1.h))
  rw [arr5] at K2
  have K_b := hide K2
  clear K2
  have G := hide (only_new G'.out le_b (only_setCell (only_setCell (only_setCell (only_setCell (only_setCell (only_refl x7 (some (x3.heap.size))) (p := ⟨x3.heap.size, 0, none⟩) (.inl rfl) (.int .i64 (setuidF ⟨r, e, s, g, k⟩ u).1.r)) (p := ⟨x3.heap.size, 1, none⟩) (.inl rfl) (.int .i64 (setuidF ⟨r, e, s, g, k⟩ u).1.e)) (p := ⟨x3.heap.size, 2, none⟩) (.inl rfl) (.int .i64 (setuidF ⟨r, e, s, g, k⟩ u).1.s)) (p := ⟨x3.heap.size, 3, none⟩) (.inl rfl) (.int .i64 (setuidF ⟨r, e, s, g, k⟩ u).1.g)) (p := ⟨x3.heap.size, 4, none⟩) (.inl rfl) (.int .i64 (setuidF ⟨r, e, s, g, k⟩ u).1.h)))
  clear G' J_c J_a J_b J_x J_y
  go_wp2_with fail
  generalize (((((x7.setCell ⟨x3.heap.size, 0, none⟩ (.int .i64 (setuidF ⟨r, e, s, g, k⟩ u).1.r)).setCell ⟨x3.heap.size, 1, none⟩ (.int .i64 (setuidF ⟨r, e, s, g, k⟩ u).1.e)).setCell ⟨x3.heap.size, 2, none⟩ (.int .i64 (setuidF ⟨r, e, s, g, k⟩ u).1.s)).setCell ⟨x3.heap.size, 3, none⟩ (.int .i64 (setuidF ⟨r, e, s, g, k⟩ u).1.g)).setCell ⟨x3.heap.size, 4, none⟩ (.int .i64 (setuidF ⟨r, e, s, g, k⟩ u).1.h)) = y8 at *
  refine (setgid_calls _ _ _ _ _ _ _).mono ?_
  rintro e' x8 ⟨rfl, hg⟩
  clear p_c0 p_c1 p_c2 p_c3 p_c4 q_c0 q_c1 q_c2 q_c3 q_c4 p_a0 p_a1 p_a2 p_a3 p_a4 q_a0 q_a1 q_a2 q_a3 q_a4 p_b0 p_b1 p_b2 p_b3 p_b4 q_b0 q_b1 q_b2 q_b3 q_b4 p_x0 p_x1 p_x2 p_x3 p_x4 q_x0 q_x1 q_x2 q_x3 q_x4 p_y0 p_y1 p_y2 p_y3 p_y4 q_y0 q_y1 q_y2 q_y3 q_y4
  have J_c := hide (K_c.out.grown hg (by simp))
  have J_a := hide (K_a.out.grown hg (by simp))
  have J_b := hide (K_b.out.grown hg (by simp))
  have J_x := hide (K_x.out.grown hg (by simp))
  have J_y := hide (K_y.out.grown hg (by simp))
  clear K_c K_a K_b K_x K_y
  have G' := hide (none_trans G.out hg)
  clear hg G
  obtain ⟨⟨p_c0, p_c1, p_c2, p_c3, p_c4⟩, q_c0, q_c1, q_c2, q_c3, q_c4⟩ := J_c.out.c5
  obtain ⟨⟨p_a0, p_a1, p_a2, p_a3, p_a4⟩, q_a0, q_a1, q_a2, q_a3, q_a4⟩ := J_a.out.c5
  obtain ⟨⟨p_b0, p_b1, p_b2, p_b3, p_b4⟩, q_b0, q_b1, q_b2, q_b3, q_b4⟩ := J_b.out.c5
  obtain ⟨⟨p_x0, p_x1, p_x2, p_x3, p_x4⟩, q_x0, q_x1, q_x2, q_x3, q_x4⟩ := J_x.out.c5
  obtain ⟨⟨p_y0, p_y1, p_y2, p_y3, p_y4⟩, q_y0, q_y1, q_y2, q_y3, q_y4⟩ := J_y.out.c5
  have K_c := hide (((((J_c.out.far (p := ⟨x4.heap.size, 0, none⟩) (Nat.ne_of_lt lt_c_x) (.int .i64 (setgidF ⟨r, e, s, g, k⟩ v).1.r)).far (p := ⟨x4.heap.size, 1, none⟩) (Nat.ne_of_lt lt_c_x) (.int .i64 (setgidF ⟨r, e, s, g, k⟩ v).1.e)).far (p := ⟨x4.heap.size, 2, none⟩) (Nat.ne_of_lt lt_c_x) (.int .i64 (setgidF ⟨r, e, s, g, k⟩ v).1.s)).far (p := ⟨x4.heap.size, 3, none⟩) (Nat.ne_of_lt lt_c_x) (.int .i64 (setgidF ⟨r, e, s, g, k⟩ v).1.g)).far (p := ⟨x4.heap.size, 4, none⟩) (Nat.ne_of_lt lt_c_x) (.int .i64 (setgidF ⟨r, e, s, g, k⟩ v).1.h))
  have K_a := hide (((((J_a.out.far (p := ⟨x4.heap.size, 0, none⟩) (Nat.ne_of_lt lt_a_x) (.int .i64 (setgidF ⟨r, e, s, g, k⟩ v).1.r)).far (p := ⟨x4.heap.size, 1, none⟩) (Nat.ne_of_lt lt_a_x) (.int .i64 (setgidF ⟨r, e, s, g, k⟩ v).1.e)).far (p := ⟨x4.heap.size, 2, none⟩) (Nat.ne_of_lt lt_a_x) (.int .i64 (setgidF ⟨r, e, s, g, k⟩ v).1.s)).far (p := ⟨x4.heap.size, 3, none⟩) (Nat.ne_of_lt lt_a_x) (.int .i64 (setgidF ⟨r, e, s, g, k⟩ v).1.g)).far (p := ⟨x4.heap.size, 4, none⟩) (Nat.ne_of_lt lt_a_x) (.int .i64 (setgidF ⟨r, e, s, g, k⟩ v).1.h))
  have K_b := hide (((((J_b.out.far (p := ⟨x4.heap.size, 0, none⟩) (Nat.ne_of_lt lt_b_x) (.int .i64 (setgidF ⟨r, e, s, g, k⟩ v).1.r)).far (p := ⟨x4.heap.size, 1, none⟩) (Nat.ne_of_lt lt_b_x) (.int .i64 (setgidF ⟨r, e, s, g, k⟩ v).1.e)).far (p := ⟨x4.heap.size, 2, none⟩) (Nat.ne_of_lt lt_b_x) (.int .i64 (setgidF ⟨r, e, s, g, k⟩ v).1.s)).far (p := ⟨x4.heap.size, 3, none⟩) (Nat.ne_of_lt lt_b_x) (.int .i64 (setgidF ⟨r, e, s, g, k⟩ v).1.g)).far (p := ⟨x4.heap.size, 4, none⟩) (Nat.ne_of_lt lt_b_x) (.int .i64 (setgidF ⟨r, e, s, g, k⟩ v).1.h))
  have K_y := hide (((((J_y.out.far (p := ⟨x4.heap.size, 0, none⟩) (Nat.ne_of_gt lt_x_y) (.int .i64 (setgidF ⟨r, e, s, g, k⟩ v).1.r)).far (p := ⟨x4.heap.size, 1, none⟩) (Nat.ne_of_gt lt_x_y) (.int .i64 (setgidF ⟨r, e, s, g, k⟩ v).1.e)).far (p := ⟨x4.heap.size, 2, none⟩) (Nat.ne_of_gt lt_x_y) (.int .i64 (setgidF ⟨r, e, s, g, k⟩ v).1.s)).far (p := ⟨x4.heap.size, 3, none⟩) (Nat.ne_of_gt lt_x_y) (.int .i64 (setgidF ⟨r, e, s, g, k⟩ v).1.g)).far (p := ⟨x4.heap.size, 4, none⟩) (Nat.ne_of_gt lt_x_y) (.int .i64 (setgidF ⟨r, e, s, g, k⟩ v).1.h))
  have K2 := (((((J_x.out.set_ 0 (.int .i64 (setgidF ⟨r, e, s, g, k⟩ v).1.r)).set_ 1 (.int .i64 (setgidF ⟨r, e, s, g, k⟩ v).1.e)).set_ 2 (.int .i64 (setgidF ⟨r, e, s, g, k⟩ v).1.s)).set_ 3 (.int .i64 (setgidF ⟨r, e, s, g, k⟩ v).1.g)).set_ 4 (.int .i64 (setgidF ⟨r, e, s, g, k⟩ v).1.h))
  rw [arr5] at K2
  have K_x := hide K2
  clear K2
  have G := hide (only_new G'.out le_x (only_setCell (only_setCell (only_setCell (only_setCell (only_setCell (only_refl x8 (some (x4.heap.size))) (p := ⟨x4.heap.size, 0, none⟩) (.inl rfl) (.int .i64 (setgidF ⟨r, e, s, g, k⟩ v).1.r)) (p := ⟨x4.heap.size, 1, none⟩) (.inl rfl) (.int .i64 (setgidF ⟨r, e, s, g, k⟩ v).1.e)) (p := ⟨x4.heap.size, 2, none⟩) (.inl rfl) (.int .i64 (setgidF ⟨r, e, s, g, k⟩ v).1.s)) (p := ⟨x4.heap.size, 3, none⟩) (.inl rfl) (.int .i64 (setgidF ⟨r, e, s, g, k⟩ v).1.g)) (p := ⟨x4.heap.size, 4, none⟩) (.inl rfl) (.int .i64 (setgidF ⟨r, e, s, g, k⟩ v).1.h)))
  clear G' J_c J_a J_b J_x J_y
  go_wp2_with fail
  generalize (((((x8.setCell ⟨x4.heap.size, 0, none⟩ (.int .i64 (setgidF ⟨r, e, s, g, k⟩ v).1.r)).setCell ⟨x4.heap.size, 1, none⟩ (.int .i64 (setgidF ⟨r, e, s, g, k⟩ v).1.e)).setCell ⟨x4.heap.size, 2, none⟩ (.int .i64 (setgidF ⟨r, e, s, g, k⟩ v).1.s)).setCell ⟨x4.heap.size, 3, none⟩ (.int .i64 (setgidF ⟨r, e, s, g, k⟩ v).1.g)).setCell ⟨x4.heap.size, 4, none⟩ (.int .i64 (setgidF ⟨r, e, s, g, k⟩ v).1.h)) = y9 at *
  refine (rsetgid_calls _ _ _ _ _ _ _).mono ?_
  rintro e' x9 ⟨rfl, hg⟩
  clear p_c0 p_c1 p_c2 p_c3 p_c4 q_c0 q_c1 q_c2 q_c3 q_c4 p_a0 p_a1 p_a2 p_a3 p_a4 q_a0 q_a1 q_a2 q_a3 q_a4 p_b0 p_b1 p_b2 p_b3 p_b4 q_b0 q_b1 q_b2 q_b3 q_b4 p_x0 p_x1 p_x2 p_x3 p_x4 q_x0 q_x1 q_x2 q_x3 q_x4 p_y0 p_y1 p_y2 p_y3 p_y4 q_y0 q_y1 q_y2 q_y3 q_y4
  have J_c := hide (K_c.out.grown hg (by simp))
  have J_a := hide (K_a.out.grown hg (by simp))
  have J_b := hide (K_b.out.grown hg (by simp))
  have J_x := hide (K_x.out.grown hg (by simp))
  have J_y := hide (K_y.out.grown hg (by simp))
  clear K_c K_a K_b K_x K_y
  have G' := hide (none_trans G.out hg)
  clear hg G
  obtain ⟨⟨p_c0, p_c1, p_c2, p_c3, p_c4⟩, q_c0, q_c1, q_c2, q_c3, q_c4⟩ := J_c.out.c5
  obtain ⟨⟨p_a0, p_a1, p_a2, p_a3, p_a4⟩, q_a0, q_a1, q_a2, q_a3, q_a4⟩ := J_a.out.c5
  obtain ⟨⟨p_b0, p_b1, p_b2, p_b3, p_b4⟩, q_b0, q_b1, q_b2, q_b3, q_b4⟩ := J_b.out.c5
  obtain ⟨⟨p_x0, p_x1, p_x2, p_x3, p_x4⟩, q_x0, q_x1, q_x2, q_x3, q_x4⟩ := J_x.out.c5
  obtain ⟨⟨p_y0, p_y1, p_y2, p_y3, p_y4⟩, q_y0, q_y1, q_y2, q_y3, q_y4⟩ := J_y.out.c5
  have K_c := hide (((((J_c.out.far (p := ⟨x5.heap.size, 0, none⟩) (Nat.ne_of_lt lt_c_y) (.int .i64 (setgidF ⟨r, e, s, g, k⟩ v).1.r)).far (p := ⟨x5.heap.size, 1, none⟩) (Nat.ne_of_lt lt_c_y) (.int .i64 (setgidF ⟨r, e, s, g, k⟩ v).1.e)).far (p := ⟨x5.heap.size, 2, none⟩) (Nat.ne_of_lt lt_c_y) (.int .i64 (setgidF ⟨r, e, s, g, k⟩ v).1.s)).far (p := ⟨x5.heap.size, 3, none⟩) (Nat.ne_of_lt lt_c_y) (.int .i64 (setgidF ⟨r, e, s, g, k⟩ v).1.g)).far (p := ⟨x5.heap.size, 4, none⟩) (Nat.ne_of_lt lt_c_y) (.int .i64 (setgidF ⟨r, e, s, g, k⟩ v).1.h))
  have K_a := hide (((((J_a.out.far (p := ⟨x5.heap.size, 0, none⟩) (Nat.ne_of_lt lt_a_y) (.int .i64 (setgidF ⟨r, e, s, g, k⟩ v).1.r)).far (p := ⟨x5.heap.size, 1, none⟩) (Nat.ne_of_lt lt_a_y) (.int .i64 (setgidF ⟨r, e, s, g, k⟩ v).1.e)).far (p := ⟨x5.heap.size, 2, none⟩) (Nat.ne_of_lt lt_a_y) (.int .i64 (setgidF ⟨r, e, s, g, k⟩ v).1.s)).far (p := ⟨x5.heap.size, 3, none⟩) (Nat.ne_of_lt lt_a_y) (.int .i64 (setgidF ⟨r, e, s, g, k⟩ v).1.g)).far (p := ⟨x5.heap.size, 4, none⟩) (Nat.ne_of_lt lt_a_y) (.int .i64 (setgidF ⟨r, e, s, g, k⟩ v).1.h))
  have K_b := hide (((((J_b.out.far (p := ⟨x5.heap.size, 0, none⟩) (Nat.ne_of_lt lt_b_y) (.int .i64 (setgidF ⟨r, e, s, g, k⟩ v).1.r)).far (p := ⟨x5.heap.size, 1, none⟩) (Nat.ne_of_lt lt_b_y) (.int .i64 (setgidF ⟨r, e, s, g, k⟩ v).1.e)).far (p := ⟨x5.heap.size, 2, none⟩) (Nat.ne_of_lt lt_b_y) (.int .i64 (setgidF ⟨r, e, s, g, k⟩ v).1.s)).far (p := ⟨x5.heap.size, 3, none⟩) (Nat.ne_of_lt lt_b_y) (.int .i64 (setgidF ⟨r, e, s, g, k⟩ v).1.g)).far (p := ⟨x5.heap.size, 4, none⟩) (Nat.ne_of_lt lt_b_y) (.int .i64 (setgidF ⟨r, e, s, g, k⟩ v).1.h))
  have K_x := hide (((((J_x.out.far (p := ⟨x5.heap.size, 0, none⟩) (Nat.ne_of_lt lt_x_y) (.int .i64 (setgidF ⟨r, e, s, g, k⟩ v).1.r)).far (p := ⟨x5.heap.size, 1, none⟩) (Nat.ne_of_lt lt_x_y) (.int .i64 (setgidF ⟨r, e, s, g, k⟩ v).1.e)).far (p := ⟨x5.heap.size, 2, none⟩) (Nat.ne_of_lt lt_x_y) (.int .i64 (setgidF ⟨r, e, s, g, k⟩ v).1.s)).far (p := ⟨x5.heap.size, 3, none⟩) (Nat.ne_of_lt lt_x_y) (.int .i64 (setgidF ⟨r, e, s, g, k⟩ v).1.g)).far (p := ⟨x5.heap.size, 4, none⟩) (Nat.ne_of_lt lt_x_y) (.int .i64 (setgidF ⟨r, e, s, g, k⟩ v).1.h))
  have K2 := (((((J_y.out.set_ 0 (.int .i64 (setgidF ⟨r, e, s, g, k⟩ v).1.r)).set_ 1 (.int .i64 (setgidF ⟨r, e, s, g, k⟩ v).1.e)).set_ 2 (.int .i64 (setgidF ⟨r, e, s, g, k⟩ v).1.s)).set_ 3 (.int .i64 (setgidF ⟨r, e, s, g, k⟩ v).1.g)).set_ 4 (.int .i64 (setgidF ⟨r, e, s, g, k⟩ v).1.h))
  rw [arr5] at K2
  have K_y := hide K2
  clear K2
  have G := hide (only_new G'.out le_y (only_setCell (only_setCell (only_setCell (only_setCell (only_setCell (only_refl x9 (some (x5.heap.size))) (p := ⟨x5.heap.size, 0, none⟩) (.inl rfl) (.int .i64 (setgidF ⟨r, e, s, g, k⟩ v).1.r)) (p := ⟨x5.heap.size, 1, none⟩) (.inl rfl) (.int .i64 (setgidF ⟨r, e, s, g, k⟩ v).1.e)) (p := ⟨x5.heap.size, 2, none⟩) (.inl rfl) (.int .i64 (setgidF ⟨r, e, s, g, k⟩ v).1.s)) (p := ⟨x5.heap.size, 3, none⟩) (.inl rfl) (.int .i64 (setgidF ⟨r, e, s, g, k⟩ v).1.g)) (p := ⟨x5.heap.size, 4, none⟩) (.inl rfl) (.int .i64 (setgidF ⟨r, e, s, g, k⟩ v).1.h)))
  clear G' J_c J_a J_b J_x J_y
  go_wp2_with fail
  go_goals
  go_ret
  exact ⟨rfl, G.out⟩

end Go.Proofs.Ytbmfghcechkncaa
