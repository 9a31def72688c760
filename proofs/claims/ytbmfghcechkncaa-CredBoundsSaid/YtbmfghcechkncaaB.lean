/- Walks: Exec, Setuid, Setgid, for every cred and every number. -/
import Derived.Test.YtbmfghcechkncaaA
namespace Go.Proofs.Ytbmfghcechkncaa
open Go.RowKit

def zero : Cr := ⟨0, 0, 0, 0, 0⟩
def okTwo (c : Cr) (x : Int) : Bool := c.ok && idB x
def mb (m : Int) : Int := bits BinOp.and IntKind.i64 m 2048

set_option maxHeartbeats 400000 in
theorem exec_bad (r e s g k : Int) (m o : Int) (w : World) (hok : okTwo ⟨r, e, s, g, k⟩ o = false) :
    Calls Try.prog 11 #[(⟨r, e, s, g, k⟩ : Cr).val, .int .i64 m, .int .i64 o] w fun e' w' => e' = .returned (.tuple #[(zero : Cr).val, .int .i64 1]) ∧ w.grownBy w' none := by
  have Hok := hide hok
  clear hok
  unfold Cr.val
  go_enter Try.func11, Try.ntmps11
  go_wp2_with (go_at_call 18; refine (right_one ⟨r, e, s, g, k⟩ _ _ _ (Blk.new2 w _ _ 3 _)).mono ?_; rintro e' w' ⟨rfl, hg⟩; rw [show (Cr.ok ⟨r, e, s, g, k⟩ && idB o) = false from Hok.out]; (have Hg := hide hg; clear hg); (obtain ⟨⟨p0, p1, p2, p3, p4⟩, q0, q1, q2, q3, q4⟩ := (((Blk.new1 w _ 24 _).alloc _).grown Hg.out (by simp; try omega)).c5); (obtain ⟨⟨k0, k1, k2, k3, k4⟩, l0, l1, l2, l3, l4⟩ := ((((Blk.new w 24 _).alloc _).alloc _).grown Hg.out (by simp; try omega)).c5))
  exact bodyPost_ret (v := .tuple #[(zero : Cr).val, .int .i64 1]) (by simp [results, Try.results11, go_sem, Cr.val, zero, p0, p1, p2, p3, p4]) rfl ⟨rfl, (by repeat' (first | (with_reducible refine none_setCell ?_ ?_ _) | (with_reducible refine only_new ?_ ?_ Hg.out) | (with_reducible refine only_alloc ?_ _) | (with_reducible exact only_refl _ _) | omega | (simp; done) | (simp; omega)))⟩

set_option maxHeartbeats 400000 in
theorem exec_set (r e s g k : Int) (m o : Int) (w : World) (hok : okTwo ⟨r, e, s, g, k⟩ o = true) (hb : (mb m != 0) = true) :
    Calls Try.prog 11 #[(⟨r, e, s, g, k⟩ : Cr).val, .int .i64 m, .int .i64 o] w fun e' w' => e' = .returned (.tuple #[(⟨r, o, o, g, k⟩ : Cr).val, .int .i64 0]) ∧ w.grownBy w' none := by
  have Hok := hide hok
  clear hok
  unfold mb at hb
  unfold Cr.val
  go_enter Try.func11, Try.ntmps11
  go_wp2_with (go_at_call 18; refine (right_one ⟨r, e, s, g, k⟩ _ _ _ (Blk.new2 w _ _ 3 _)).mono ?_; rintro e' w' ⟨rfl, hg⟩; rw [show (Cr.ok ⟨r, e, s, g, k⟩ && idB o) = true from Hok.out]; (have Hg := hide hg; clear hg); (obtain ⟨⟨p0, p1, p2, p3, p4⟩, q0, q1, q2, q3, q4⟩ := (((Blk.new1 w _ 24 _).alloc _).grown Hg.out (by simp; try omega)).c5); (obtain ⟨⟨k0, k1, k2, k3, k4⟩, l0, l1, l2, l3, l4⟩ := ((((Blk.new w 24 _).alloc _).alloc _).grown Hg.out (by simp; try omega)).c5))
  exact bodyPost_ret (v := .tuple #[(⟨r, o, o, g, k⟩ : Cr).val, .int .i64 0]) (by simp [results, Try.results11, go_sem, Cr.val, p0, p1, p2, p3, p4]) rfl ⟨rfl, (by repeat' (first | (with_reducible refine none_setCell ?_ ?_ _) | (with_reducible refine only_new ?_ ?_ Hg.out) | (with_reducible refine only_alloc ?_ _) | (with_reducible exact only_refl _ _) | omega | (simp; done) | (simp; omega)))⟩

set_option maxHeartbeats 400000 in
theorem exec_plain (r e s g k : Int) (m o : Int) (w : World) (hok : okTwo ⟨r, e, s, g, k⟩ o = true) (hb : (mb m != 0) = false) :
    Calls Try.prog 11 #[(⟨r, e, s, g, k⟩ : Cr).val, .int .i64 m, .int .i64 o] w fun e' w' => e' = .returned (.tuple #[(⟨r, e, e, g, k⟩ : Cr).val, .int .i64 0]) ∧ w.grownBy w' none := by
  have Hok := hide hok
  clear hok
  unfold mb at hb
  unfold Cr.val
  go_enter Try.func11, Try.ntmps11
  go_wp2_with (go_at_call 18; refine (right_one ⟨r, e, s, g, k⟩ _ _ _ (Blk.new2 w _ _ 3 _)).mono ?_; rintro e' w' ⟨rfl, hg⟩; rw [show (Cr.ok ⟨r, e, s, g, k⟩ && idB o) = true from Hok.out]; (have Hg := hide hg; clear hg); (obtain ⟨⟨p0, p1, p2, p3, p4⟩, q0, q1, q2, q3, q4⟩ := (((Blk.new1 w _ 24 _).alloc _).grown Hg.out (by simp; try omega)).c5); (obtain ⟨⟨k0, k1, k2, k3, k4⟩, l0, l1, l2, l3, l4⟩ := ((((Blk.new w 24 _).alloc _).alloc _).grown Hg.out (by simp; try omega)).c5))
  exact bodyPost_ret (v := .tuple #[(⟨r, e, e, g, k⟩ : Cr).val, .int .i64 0]) (by simp [results, Try.results11, go_sem, Cr.val, p0, p1, p2, p3, p4]) rfl ⟨rfl, (by repeat' (first | (with_reducible refine none_setCell ?_ ?_ _) | (with_reducible refine only_new ?_ ?_ Hg.out) | (with_reducible refine only_alloc ?_ _) | (with_reducible exact only_refl _ _) | omega | (simp; done) | (simp; omega)))⟩

set_option maxHeartbeats 400000 in
theorem setuid_bad (r e s g k : Int) (u : Int) (w : World) (hok : okTwo ⟨r, e, s, g, k⟩ u = false) :
    Calls Try.prog 12 #[(⟨r, e, s, g, k⟩ : Cr).val, .int .i64 u] w fun e' w' => e' = .returned (.tuple #[(zero : Cr).val, .int .i64 1]) ∧ w.grownBy w' none := by
  have Hok := hide hok
  clear hok
  unfold Cr.val
  go_enter Try.func12, Try.ntmps12
  go_wp2_with (go_at_call 18; refine (right_one ⟨r, e, s, g, k⟩ _ _ _ (Blk.new2 w _ _ 3 _)).mono ?_; rintro e' w' ⟨rfl, hg⟩; rw [show (Cr.ok ⟨r, e, s, g, k⟩ && idB u) = false from Hok.out]; (have Hg := hide hg; clear hg); (obtain ⟨⟨p0, p1, p2, p3, p4⟩, q0, q1, q2, q3, q4⟩ := (((Blk.new1 w _ 24 _).alloc _).grown Hg.out (by simp; try omega)).c5); (obtain ⟨⟨k0, k1, k2, k3, k4⟩, l0, l1, l2, l3, l4⟩ := ((((Blk.new w 24 _).alloc _).alloc _).grown Hg.out (by simp; try omega)).c5))
  exact bodyPost_ret (v := .tuple #[(zero : Cr).val, .int .i64 1]) (by simp [results, Try.results12, go_sem, Cr.val, zero, p0, p1, p2, p3, p4]) rfl ⟨rfl, (by repeat' (first | (with_reducible refine none_setCell ?_ ?_ _) | (with_reducible refine only_new ?_ ?_ Hg.out) | (with_reducible refine only_alloc ?_ _) | (with_reducible exact only_refl _ _) | omega | (simp; done) | (simp; omega)))⟩

set_option maxHeartbeats 400000 in
theorem setuid_all (r e s g k : Int) (u : Int) (w : World) (hok : okTwo ⟨r, e, s, g, k⟩ u = true) (he : (e == 0) = true) :
    Calls Try.prog 12 #[(⟨r, e, s, g, k⟩ : Cr).val, .int .i64 u] w fun e' w' => e' = .returned (.tuple #[(⟨u, u, u, g, k⟩ : Cr).val, .int .i64 0]) ∧ w.grownBy w' none := by
  have Hok := hide hok
  clear hok
  unfold Cr.val
  go_enter Try.func12, Try.ntmps12
  go_wp2_with (go_at_call 18; refine (right_one ⟨r, e, s, g, k⟩ _ _ _ (Blk.new2 w _ _ 3 _)).mono ?_; rintro e' w' ⟨rfl, hg⟩; rw [show (Cr.ok ⟨r, e, s, g, k⟩ && idB u) = true from Hok.out]; (have Hg := hide hg; clear hg); (obtain ⟨⟨p0, p1, p2, p3, p4⟩, q0, q1, q2, q3, q4⟩ := (((Blk.new1 w _ 24 _).alloc _).grown Hg.out (by simp; try omega)).c5); (obtain ⟨⟨k0, k1, k2, k3, k4⟩, l0, l1, l2, l3, l4⟩ := ((((Blk.new w 24 _).alloc _).alloc _).grown Hg.out (by simp; try omega)).c5))
  exact bodyPost_ret (v := .tuple #[(⟨u, u, u, g, k⟩ : Cr).val, .int .i64 0]) (by simp [results, Try.results12, go_sem, Cr.val, p0, p1, p2, p3, p4]) rfl ⟨rfl, (by repeat' (first | (with_reducible refine none_setCell ?_ ?_ _) | (with_reducible refine only_new ?_ ?_ Hg.out) | (with_reducible refine only_alloc ?_ _) | (with_reducible exact only_refl _ _) | omega | (simp; done) | (simp; omega)))⟩

set_option maxHeartbeats 400000 in
theorem setuid_real (r e s g k : Int) (u : Int) (w : World) (hok : okTwo ⟨r, e, s, g, k⟩ u = true) (he : (e == 0) = false) (hr : (u == r) = true) :
    Calls Try.prog 12 #[(⟨r, e, s, g, k⟩ : Cr).val, .int .i64 u] w fun e' w' => e' = .returned (.tuple #[(⟨r, u, s, g, k⟩ : Cr).val, .int .i64 0]) ∧ w.grownBy w' none := by
  have Hok := hide hok
  clear hok
  unfold Cr.val
  go_enter Try.func12, Try.ntmps12
  go_wp2_with (go_at_call 18; refine (right_one ⟨r, e, s, g, k⟩ _ _ _ (Blk.new2 w _ _ 3 _)).mono ?_; rintro e' w' ⟨rfl, hg⟩; rw [show (Cr.ok ⟨r, e, s, g, k⟩ && idB u) = true from Hok.out]; (have Hg := hide hg; clear hg); (obtain ⟨⟨p0, p1, p2, p3, p4⟩, q0, q1, q2, q3, q4⟩ := (((Blk.new1 w _ 24 _).alloc _).grown Hg.out (by simp; try omega)).c5); (obtain ⟨⟨k0, k1, k2, k3, k4⟩, l0, l1, l2, l3, l4⟩ := ((((Blk.new w 24 _).alloc _).alloc _).grown Hg.out (by simp; try omega)).c5))
  exact bodyPost_ret (v := .tuple #[(⟨r, u, s, g, k⟩ : Cr).val, .int .i64 0]) (by simp [results, Try.results12, go_sem, Cr.val, p0, p1, p2, p3, p4]) rfl ⟨rfl, (by repeat' (first | (with_reducible refine none_setCell ?_ ?_ _) | (with_reducible refine only_new ?_ ?_ Hg.out) | (with_reducible refine only_alloc ?_ _) | (with_reducible exact only_refl _ _) | omega | (simp; done) | (simp; omega)))⟩

set_option maxHeartbeats 400000 in
theorem setuid_saved (r e s g k : Int) (u : Int) (w : World) (hok : okTwo ⟨r, e, s, g, k⟩ u = true) (he : (e == 0) = false) (hr : (u == r) = false) (hs : (u == s) = true) :
    Calls Try.prog 12 #[(⟨r, e, s, g, k⟩ : Cr).val, .int .i64 u] w fun e' w' => e' = .returned (.tuple #[(⟨r, u, s, g, k⟩ : Cr).val, .int .i64 0]) ∧ w.grownBy w' none := by
  have Hok := hide hok
  clear hok
  unfold Cr.val
  go_enter Try.func12, Try.ntmps12
  go_wp2_with (go_at_call 18; refine (right_one ⟨r, e, s, g, k⟩ _ _ _ (Blk.new2 w _ _ 3 _)).mono ?_; rintro e' w' ⟨rfl, hg⟩; rw [show (Cr.ok ⟨r, e, s, g, k⟩ && idB u) = true from Hok.out]; (have Hg := hide hg; clear hg); (obtain ⟨⟨p0, p1, p2, p3, p4⟩, q0, q1, q2, q3, q4⟩ := (((Blk.new1 w _ 24 _).alloc _).grown Hg.out (by simp; try omega)).c5); (obtain ⟨⟨k0, k1, k2, k3, k4⟩, l0, l1, l2, l3, l4⟩ := ((((Blk.new w 24 _).alloc _).alloc _).grown Hg.out (by simp; try omega)).c5))
  exact bodyPost_ret (v := .tuple #[(⟨r, u, s, g, k⟩ : Cr).val, .int .i64 0]) (by simp [results, Try.results12, go_sem, Cr.val, p0, p1, p2, p3, p4]) rfl ⟨rfl, (by repeat' (first | (with_reducible refine none_setCell ?_ ?_ _) | (with_reducible refine only_new ?_ ?_ Hg.out) | (with_reducible refine only_alloc ?_ _) | (with_reducible exact only_refl _ _) | omega | (simp; done) | (simp; omega)))⟩

set_option maxHeartbeats 400000 in
theorem setuid_perm (r e s g k : Int) (u : Int) (w : World) (hok : okTwo ⟨r, e, s, g, k⟩ u = true) (he : (e == 0) = false) (hr : (u == r) = false) (hs : (u == s) = false) :
    Calls Try.prog 12 #[(⟨r, e, s, g, k⟩ : Cr).val, .int .i64 u] w fun e' w' => e' = .returned (.tuple #[(zero : Cr).val, .int .i64 2]) ∧ w.grownBy w' none := by
  have Hok := hide hok
  clear hok
  unfold Cr.val
  go_enter Try.func12, Try.ntmps12
  go_wp2_with (go_at_call 18; refine (right_one ⟨r, e, s, g, k⟩ _ _ _ (Blk.new2 w _ _ 3 _)).mono ?_; rintro e' w' ⟨rfl, hg⟩; rw [show (Cr.ok ⟨r, e, s, g, k⟩ && idB u) = true from Hok.out]; (have Hg := hide hg; clear hg); (obtain ⟨⟨p0, p1, p2, p3, p4⟩, q0, q1, q2, q3, q4⟩ := (((Blk.new1 w _ 24 _).alloc _).grown Hg.out (by simp; try omega)).c5); (obtain ⟨⟨k0, k1, k2, k3, k4⟩, l0, l1, l2, l3, l4⟩ := ((((Blk.new w 24 _).alloc _).alloc _).grown Hg.out (by simp; try omega)).c5))
  exact bodyPost_ret (v := .tuple #[(zero : Cr).val, .int .i64 2]) (by simp [results, Try.results12, go_sem, Cr.val, zero, p0, p1, p2, p3, p4]) rfl ⟨rfl, (by repeat' (first | (with_reducible refine none_setCell ?_ ?_ _) | (with_reducible refine only_new ?_ ?_ Hg.out) | (with_reducible refine only_alloc ?_ _) | (with_reducible exact only_refl _ _) | omega | (simp; done) | (simp; omega)))⟩

set_option maxHeartbeats 400000 in
theorem setgid_bad (r e s g k : Int) (u : Int) (w : World) (hok : okTwo ⟨r, e, s, g, k⟩ u = false) :
    Calls Try.prog 16 #[(⟨r, e, s, g, k⟩ : Cr).val, .int .i64 u] w fun e' w' => e' = .returned (.tuple #[(zero : Cr).val, .int .i64 1]) ∧ w.grownBy w' none := by
  have Hok := hide hok
  clear hok
  unfold Cr.val
  go_enter Try.func16, Try.ntmps16
  go_wp2_with (go_at_call 18; refine (right_one ⟨r, e, s, g, k⟩ _ _ _ (Blk.new2 w _ _ 3 _)).mono ?_; rintro e' w' ⟨rfl, hg⟩; rw [show (Cr.ok ⟨r, e, s, g, k⟩ && idB u) = false from Hok.out]; (have Hg := hide hg; clear hg); (obtain ⟨⟨p0, p1, p2, p3, p4⟩, q0, q1, q2, q3, q4⟩ := (((Blk.new1 w _ 24 _).alloc _).grown Hg.out (by simp; try omega)).c5); (obtain ⟨⟨k0, k1, k2, k3, k4⟩, l0, l1, l2, l3, l4⟩ := ((((Blk.new w 24 _).alloc _).alloc _).grown Hg.out (by simp; try omega)).c5))
  exact bodyPost_ret (v := .tuple #[(zero : Cr).val, .int .i64 1]) (by simp [results, Try.results16, go_sem, Cr.val, zero, p0, p1, p2, p3, p4]) rfl ⟨rfl, (by repeat' (first | (with_reducible refine none_setCell ?_ ?_ _) | (with_reducible refine only_new ?_ ?_ Hg.out) | (with_reducible refine only_alloc ?_ _) | (with_reducible exact only_refl _ _) | omega | (simp; done) | (simp; omega)))⟩

set_option maxHeartbeats 400000 in
theorem setgid_all (r e s g k : Int) (u : Int) (w : World) (hok : okTwo ⟨r, e, s, g, k⟩ u = true) (he : (e == 0) = true) :
    Calls Try.prog 16 #[(⟨r, e, s, g, k⟩ : Cr).val, .int .i64 u] w fun e' w' => e' = .returned (.tuple #[(⟨r, e, s, u, u⟩ : Cr).val, .int .i64 0]) ∧ w.grownBy w' none := by
  have Hok := hide hok
  clear hok
  unfold Cr.val
  go_enter Try.func16, Try.ntmps16
  go_wp2_with (go_at_call 18; refine (right_one ⟨r, e, s, g, k⟩ _ _ _ (Blk.new2 w _ _ 3 _)).mono ?_; rintro e' w' ⟨rfl, hg⟩; rw [show (Cr.ok ⟨r, e, s, g, k⟩ && idB u) = true from Hok.out]; (have Hg := hide hg; clear hg); (obtain ⟨⟨p0, p1, p2, p3, p4⟩, q0, q1, q2, q3, q4⟩ := (((Blk.new1 w _ 24 _).alloc _).grown Hg.out (by simp; try omega)).c5); (obtain ⟨⟨k0, k1, k2, k3, k4⟩, l0, l1, l2, l3, l4⟩ := ((((Blk.new w 24 _).alloc _).alloc _).grown Hg.out (by simp; try omega)).c5))
  exact bodyPost_ret (v := .tuple #[(⟨r, e, s, u, u⟩ : Cr).val, .int .i64 0]) (by simp [results, Try.results16, go_sem, Cr.val, p0, p1, p2, p3, p4]) rfl ⟨rfl, (by repeat' (first | (with_reducible refine none_setCell ?_ ?_ _) | (with_reducible refine only_new ?_ ?_ Hg.out) | (with_reducible refine only_alloc ?_ _) | (with_reducible exact only_refl _ _) | omega | (simp; done) | (simp; omega)))⟩

set_option maxHeartbeats 400000 in
theorem setgid_back (r e s g k : Int) (u : Int) (w : World) (hok : okTwo ⟨r, e, s, g, k⟩ u = true) (he : (e == 0) = false) (hr : (u == g) = true) :
    Calls Try.prog 16 #[(⟨r, e, s, g, k⟩ : Cr).val, .int .i64 u] w fun e' w' => e' = .returned (.tuple #[(⟨r, e, s, g, u⟩ : Cr).val, .int .i64 0]) ∧ w.grownBy w' none := by
  have Hok := hide hok
  clear hok
  unfold Cr.val
  go_enter Try.func16, Try.ntmps16
  go_wp2_with (go_at_call 18; refine (right_one ⟨r, e, s, g, k⟩ _ _ _ (Blk.new2 w _ _ 3 _)).mono ?_; rintro e' w' ⟨rfl, hg⟩; rw [show (Cr.ok ⟨r, e, s, g, k⟩ && idB u) = true from Hok.out]; (have Hg := hide hg; clear hg); (obtain ⟨⟨p0, p1, p2, p3, p4⟩, q0, q1, q2, q3, q4⟩ := (((Blk.new1 w _ 24 _).alloc _).grown Hg.out (by simp; try omega)).c5); (obtain ⟨⟨k0, k1, k2, k3, k4⟩, l0, l1, l2, l3, l4⟩ := ((((Blk.new w 24 _).alloc _).alloc _).grown Hg.out (by simp; try omega)).c5))
  exact bodyPost_ret (v := .tuple #[(⟨r, e, s, g, u⟩ : Cr).val, .int .i64 0]) (by simp [results, Try.results16, go_sem, Cr.val, p0, p1, p2, p3, p4]) rfl ⟨rfl, (by repeat' (first | (with_reducible refine none_setCell ?_ ?_ _) | (with_reducible refine only_new ?_ ?_ Hg.out) | (with_reducible refine only_alloc ?_ _) | (with_reducible exact only_refl _ _) | omega | (simp; done) | (simp; omega)))⟩

set_option maxHeartbeats 400000 in
theorem setgid_perm (r e s g k : Int) (u : Int) (w : World) (hok : okTwo ⟨r, e, s, g, k⟩ u = true) (he : (e == 0) = false) (hr : (u == g) = false) :
    Calls Try.prog 16 #[(⟨r, e, s, g, k⟩ : Cr).val, .int .i64 u] w fun e' w' => e' = .returned (.tuple #[(zero : Cr).val, .int .i64 2]) ∧ w.grownBy w' none := by
  have Hok := hide hok
  clear hok
  unfold Cr.val
  go_enter Try.func16, Try.ntmps16
  go_wp2_with (go_at_call 18; refine (right_one ⟨r, e, s, g, k⟩ _ _ _ (Blk.new2 w _ _ 3 _)).mono ?_; rintro e' w' ⟨rfl, hg⟩; rw [show (Cr.ok ⟨r, e, s, g, k⟩ && idB u) = true from Hok.out]; (have Hg := hide hg; clear hg); (obtain ⟨⟨p0, p1, p2, p3, p4⟩, q0, q1, q2, q3, q4⟩ := (((Blk.new1 w _ 24 _).alloc _).grown Hg.out (by simp; try omega)).c5); (obtain ⟨⟨k0, k1, k2, k3, k4⟩, l0, l1, l2, l3, l4⟩ := ((((Blk.new w 24 _).alloc _).alloc _).grown Hg.out (by simp; try omega)).c5))
  exact bodyPost_ret (v := .tuple #[(zero : Cr).val, .int .i64 2]) (by simp [results, Try.results16, go_sem, Cr.val, zero, p0, p1, p2, p3, p4]) rfl ⟨rfl, (by repeat' (first | (with_reducible refine none_setCell ?_ ?_ _) | (with_reducible refine only_new ?_ ?_ Hg.out) | (with_reducible refine only_alloc ?_ _) | (with_reducible exact only_refl _ _) | omega | (simp; done) | (simp; omega)))⟩

end Go.Proofs.Ytbmfghcechkncaa
