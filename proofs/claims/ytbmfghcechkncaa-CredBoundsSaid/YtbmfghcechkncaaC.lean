/- Walks: the document's cred, for every cred and every number. -/
import Derived.Test.YtbmfghcechkncaaB
namespace Go.Proofs.Ytbmfghcechkncaa
open Go.RowKit

set_option maxHeartbeats 400000 in
theorem id_any (n : Int) (w : World) : Calls Try.prog 20 #[.int .i64 n] w fun e w' => e = .returned (.bool (idB n)) ∧ w' = w := by
  by_cases h : 0 ≤ n
  · go_enter Try.func20, Try.ntmps20
    go_wp2
    go_ret
    exact ⟨by by_cases h5 : n ≤ 65535 <;> simp [idB, badB, show ¬ n < 0 by omega, h5] <;> omega, rfl⟩
  · have h' : n < 0 := by omega
    clear h
    go_enter Try.func20, Try.ntmps20
    go_wp2
    go_ret
    exact ⟨by simp [idB, badB, h'], rfl⟩
theorem id_is (n : Int) (b : Bool) (h : idB n = b) (w : World) : Calls Try.prog 20 #[.int .i64 n] w fun e w' => e = .returned (.bool b) ∧ w' = w := by
  subst h; exact id_any n w

set_option maxHeartbeats 400000 in
theorem may_0 (r e s g k : Int) (w : World) (h0 : idB r = false) :
    Calls Try.prog 19 #[(⟨r, e, s, g, k⟩ : Cr).val] w fun e' w' => e' = .returned (.bool false) ∧ w.grownBy w' none := by
  have H0 := hide h0
  clear h0
  unfold Cr.val
  go_enter Try.func19, Try.ntmps19
  go_wp2_with (first
    | (go_at_call 20; (with_reducible refine (id_is r _ H0.out _).mono ?_); rintro e' w' ⟨rfl, rfl⟩))
  go_ret
  exact ⟨rfl, only_alloc (only_refl _ _) _⟩

set_option maxHeartbeats 400000 in
theorem may_1 (r e s g k : Int) (w : World) (h0 : idB r = true) (h1 : idB e = false) :
    Calls Try.prog 19 #[(⟨r, e, s, g, k⟩ : Cr).val] w fun e' w' => e' = .returned (.bool false) ∧ w.grownBy w' none := by
  have H0 := hide h0
  clear h0
  have H1 := hide h1
  clear h1
  unfold Cr.val
  go_enter Try.func19, Try.ntmps19
  go_wp2_with (first
    | (go_at_call 20; (with_reducible refine (id_is r _ H0.out _).mono ?_); rintro e' w' ⟨rfl, rfl⟩)
    | (go_at_call 20; (with_reducible refine (id_is e _ H1.out _).mono ?_); rintro e' w' ⟨rfl, rfl⟩))
  go_ret
  exact ⟨rfl, only_alloc (only_refl _ _) _⟩

set_option maxHeartbeats 400000 in
theorem may_2 (r e s g k : Int) (w : World) (h0 : idB r = true) (h1 : idB e = true) (h2 : idB s = false) :
    Calls Try.prog 19 #[(⟨r, e, s, g, k⟩ : Cr).val] w fun e' w' => e' = .returned (.bool false) ∧ w.grownBy w' none := by
  have H0 := hide h0
  clear h0
  have H1 := hide h1
  clear h1
  have H2 := hide h2
  clear h2
  unfold Cr.val
  go_enter Try.func19, Try.ntmps19
  go_wp2_with (first
    | (go_at_call 20; (with_reducible refine (id_is r _ H0.out _).mono ?_); rintro e' w' ⟨rfl, rfl⟩)
    | (go_at_call 20; (with_reducible refine (id_is e _ H1.out _).mono ?_); rintro e' w' ⟨rfl, rfl⟩)
    | (go_at_call 20; (with_reducible refine (id_is s _ H2.out _).mono ?_); rintro e' w' ⟨rfl, rfl⟩))
  go_ret
  exact ⟨rfl, only_alloc (only_refl _ _) _⟩

set_option maxHeartbeats 400000 in
theorem may_3 (r e s g k : Int) (w : World) (h0 : idB r = true) (h1 : idB e = true) (h2 : idB s = true) (h3 : idB g = false) :
    Calls Try.prog 19 #[(⟨r, e, s, g, k⟩ : Cr).val] w fun e' w' => e' = .returned (.bool false) ∧ w.grownBy w' none := by
  have H0 := hide h0
  clear h0
  have H1 := hide h1
  clear h1
  have H2 := hide h2
  clear h2
  have H3 := hide h3
  clear h3
  unfold Cr.val
  go_enter Try.func19, Try.ntmps19
  go_wp2_with (first
    | (go_at_call 20; (with_reducible refine (id_is r _ H0.out _).mono ?_); rintro e' w' ⟨rfl, rfl⟩)
    | (go_at_call 20; (with_reducible refine (id_is e _ H1.out _).mono ?_); rintro e' w' ⟨rfl, rfl⟩)
    | (go_at_call 20; (with_reducible refine (id_is s _ H2.out _).mono ?_); rintro e' w' ⟨rfl, rfl⟩)
    | (go_at_call 20; (with_reducible refine (id_is g _ H3.out _).mono ?_); rintro e' w' ⟨rfl, rfl⟩))
  go_ret
  exact ⟨rfl, only_alloc (only_refl _ _) _⟩

set_option maxHeartbeats 400000 in
theorem may_4 (r e s g k : Int) (w : World) (h0 : idB r = true) (h1 : idB e = true) (h2 : idB s = true) (h3 : idB g = true) (h4 : idB k = false) :
    Calls Try.prog 19 #[(⟨r, e, s, g, k⟩ : Cr).val] w fun e' w' => e' = .returned (.bool false) ∧ w.grownBy w' none := by
  have H0 := hide h0
  clear h0
  have H1 := hide h1
  clear h1
  have H2 := hide h2
  clear h2
  have H3 := hide h3
  clear h3
  have H4 := hide h4
  clear h4
  unfold Cr.val
  go_enter Try.func19, Try.ntmps19
  go_wp2_with (first
    | (go_at_call 20; (with_reducible refine (id_is r _ H0.out _).mono ?_); rintro e' w' ⟨rfl, rfl⟩)
    | (go_at_call 20; (with_reducible refine (id_is e _ H1.out _).mono ?_); rintro e' w' ⟨rfl, rfl⟩)
    | (go_at_call 20; (with_reducible refine (id_is s _ H2.out _).mono ?_); rintro e' w' ⟨rfl, rfl⟩)
    | (go_at_call 20; (with_reducible refine (id_is g _ H3.out _).mono ?_); rintro e' w' ⟨rfl, rfl⟩)
    | (go_at_call 20; (with_reducible refine (id_is k _ H4.out _).mono ?_); rintro e' w' ⟨rfl, rfl⟩))
  go_ret
  exact ⟨rfl, only_alloc (only_refl _ _) _⟩

set_option maxHeartbeats 400000 in
theorem may_5 (r e s g k : Int) (w : World) (h0 : idB r = true) (h1 : idB e = true) (h2 : idB s = true) (h3 : idB g = true) (h4 : idB k = true) :
    Calls Try.prog 19 #[(⟨r, e, s, g, k⟩ : Cr).val] w fun e' w' => e' = .returned (.bool true) ∧ w.grownBy w' none := by
  have H0 := hide h0
  clear h0
  have H1 := hide h1
  clear h1
  have H2 := hide h2
  clear h2
  have H3 := hide h3
  clear h3
  have H4 := hide h4
  clear h4
  unfold Cr.val
  go_enter Try.func19, Try.ntmps19
  go_wp2_with (first
    | (go_at_call 20; (with_reducible refine (id_is r _ H0.out _).mono ?_); rintro e' w' ⟨rfl, rfl⟩)
    | (go_at_call 20; (with_reducible refine (id_is e _ H1.out _).mono ?_); rintro e' w' ⟨rfl, rfl⟩)
    | (go_at_call 20; (with_reducible refine (id_is s _ H2.out _).mono ?_); rintro e' w' ⟨rfl, rfl⟩)
    | (go_at_call 20; (with_reducible refine (id_is g _ H3.out _).mono ?_); rintro e' w' ⟨rfl, rfl⟩)
    | (go_at_call 20; (with_reducible refine (id_is k _ H4.out _).mono ?_); rintro e' w' ⟨rfl, rfl⟩))
  go_ret
  exact ⟨rfl, only_alloc (only_refl _ _) _⟩

theorem may_is (r e s g k : Int) (w : World) (b : Bool) (h : (⟨r, e, s, g, k⟩ : Cr).ok = b) :
    Calls Try.prog 19 #[(⟨r, e, s, g, k⟩ : Cr).val] w fun e' w' => e' = .returned (.bool b) ∧ w.grownBy w' none := by
  subst h
  unfold Cr.ok
  cases h0 : idB r
  · exact may_0 r e s g k w h0
  cases h1 : idB e
  · exact may_1 r e s g k w h0 h1
  cases h2 : idB s
  · exact may_2 r e s g k w h0 h1 h2
  cases h3 : idB g
  · exact may_3 r e s g k w h0 h1 h2 h3
  cases h4 : idB k
  · exact may_4 r e s g k w h0 h1 h2 h3 h4
  exact may_5 r e s g k w h0 h1 h2 h3 h4

set_option maxHeartbeats 400000 in
theorem rexec_bad1 (r e s g k : Int) (m o : Int) (w : World) (hok : (⟨r, e, s, g, k⟩ : Cr).ok = false) :
    Calls Try.prog 14 #[(⟨r, e, s, g, k⟩ : Cr).val, .int .i64 m, .int .i64 o] w fun e' w' => e' = .returned (.tuple #[(zero : Cr).val, .int .i64 1]) ∧ w.grownBy w' none := by
  have Hok := hide hok
  clear hok
  unfold Cr.val
  go_enter Try.func14, Try.ntmps14
  go_wp2_with ((go_at_call 19; refine (may_is r e s g k _ _ Hok.out).mono ?_; rintro e' w' ⟨rfl, hg⟩; (have Hg := hide hg; clear hg); (obtain ⟨⟨p0, p1, p2, p3, p4⟩, q0, q1, q2, q3, q4⟩ := ((Blk.new1 w _ 24 _).grown Hg.out (by simp)).c5); (obtain ⟨⟨k0, k1, k2, k3, k4⟩, l0, l1, l2, l3, l4⟩ := (((Blk.new w 24 _).alloc _).grown Hg.out (by simp)).c5)))
  exact bodyPost_ret (v := .tuple #[(zero : Cr).val, .int .i64 1]) (by simp [results, Try.results14, go_sem, Cr.val, zero, p0, p1, p2, p3, p4]) rfl ⟨rfl, (by repeat' (first | (with_reducible refine none_setCell ?_ ?_ _) | (with_reducible refine none_trans ?_ Hg.out) | (with_reducible refine only_alloc ?_ _) | (with_reducible exact only_refl _ _) | omega | (simp; done) | (simp; omega)))⟩

set_option maxHeartbeats 400000 in
theorem rexec_bad2 (r e s g k : Int) (m o : Int) (w : World) (hok : (⟨r, e, s, g, k⟩ : Cr).ok = true) (hid : idB o = false) :
    Calls Try.prog 14 #[(⟨r, e, s, g, k⟩ : Cr).val, .int .i64 m, .int .i64 o] w fun e' w' => e' = .returned (.tuple #[(zero : Cr).val, .int .i64 1]) ∧ w.grownBy w' none := by
  have Hok := hide hok
  clear hok
  have Hid2 := hide hid
  clear hid
  unfold Cr.val
  go_enter Try.func14, Try.ntmps14
  go_wp2_with (first | (go_at_call 19; refine (may_is r e s g k _ _ Hok.out).mono ?_; rintro e' w' ⟨rfl, hg⟩; (have Hg := hide hg; clear hg); (obtain ⟨⟨p0, p1, p2, p3, p4⟩, q0, q1, q2, q3, q4⟩ := ((Blk.new1 w _ 24 _).grown Hg.out (by simp)).c5); (obtain ⟨⟨k0, k1, k2, k3, k4⟩, l0, l1, l2, l3, l4⟩ := (((Blk.new w 24 _).alloc _).grown Hg.out (by simp)).c5)) | (go_at_call 20; refine (id_is _ _ Hid2.out _).mono ?_; rintro e' w2 ⟨rfl, rfl⟩))
  exact bodyPost_ret (v := .tuple #[(zero : Cr).val, .int .i64 1]) (by simp [results, Try.results14, go_sem, Cr.val, zero, p0, p1, p2, p3, p4]) rfl ⟨rfl, (by repeat' (first | (with_reducible refine none_setCell ?_ ?_ _) | (with_reducible refine none_trans ?_ Hg.out) | (with_reducible refine only_alloc ?_ _) | (with_reducible exact only_refl _ _) | omega | (simp; done) | (simp; omega)))⟩

set_option maxHeartbeats 400000 in
theorem rsetuid_bad1 (r e s g k : Int) (u : Int) (w : World) (hok : (⟨r, e, s, g, k⟩ : Cr).ok = false) :
    Calls Try.prog 15 #[(⟨r, e, s, g, k⟩ : Cr).val, .int .i64 u] w fun e' w' => e' = .returned (.tuple #[(zero : Cr).val, .int .i64 1]) ∧ w.grownBy w' none := by
  have Hok := hide hok
  clear hok
  unfold Cr.val
  go_enter Try.func15, Try.ntmps15
  go_wp2_with ((go_at_call 19; refine (may_is r e s g k _ _ Hok.out).mono ?_; rintro e' w' ⟨rfl, hg⟩; (have Hg := hide hg; clear hg); (obtain ⟨⟨p0, p1, p2, p3, p4⟩, q0, q1, q2, q3, q4⟩ := ((Blk.new1 w _ 24 _).grown Hg.out (by simp)).c5); (obtain ⟨⟨k0, k1, k2, k3, k4⟩, l0, l1, l2, l3, l4⟩ := (((Blk.new w 24 _).alloc _).grown Hg.out (by simp)).c5)))
  exact bodyPost_ret (v := .tuple #[(zero : Cr).val, .int .i64 1]) (by simp [results, Try.results15, go_sem, Cr.val, zero, p0, p1, p2, p3, p4]) rfl ⟨rfl, (by repeat' (first | (with_reducible refine none_setCell ?_ ?_ _) | (with_reducible refine none_trans ?_ Hg.out) | (with_reducible refine only_alloc ?_ _) | (with_reducible exact only_refl _ _) | omega | (simp; done) | (simp; omega)))⟩

set_option maxHeartbeats 400000 in
theorem rsetuid_bad2 (r e s g k : Int) (u : Int) (w : World) (hok : (⟨r, e, s, g, k⟩ : Cr).ok = true) (hid : idB u = false) :
    Calls Try.prog 15 #[(⟨r, e, s, g, k⟩ : Cr).val, .int .i64 u] w fun e' w' => e' = .returned (.tuple #[(zero : Cr).val, .int .i64 1]) ∧ w.grownBy w' none := by
  have Hok := hide hok
  clear hok
  have Hid2 := hide hid
  clear hid
  unfold Cr.val
  go_enter Try.func15, Try.ntmps15
  go_wp2_with (first | (go_at_call 19; refine (may_is r e s g k _ _ Hok.out).mono ?_; rintro e' w' ⟨rfl, hg⟩; (have Hg := hide hg; clear hg); (obtain ⟨⟨p0, p1, p2, p3, p4⟩, q0, q1, q2, q3, q4⟩ := ((Blk.new1 w _ 24 _).grown Hg.out (by simp)).c5); (obtain ⟨⟨k0, k1, k2, k3, k4⟩, l0, l1, l2, l3, l4⟩ := (((Blk.new w 24 _).alloc _).grown Hg.out (by simp)).c5)) | (go_at_call 20; refine (id_is _ _ Hid2.out _).mono ?_; rintro e' w2 ⟨rfl, rfl⟩))
  exact bodyPost_ret (v := .tuple #[(zero : Cr).val, .int .i64 1]) (by simp [results, Try.results15, go_sem, Cr.val, zero, p0, p1, p2, p3, p4]) rfl ⟨rfl, (by repeat' (first | (with_reducible refine none_setCell ?_ ?_ _) | (with_reducible refine none_trans ?_ Hg.out) | (with_reducible refine only_alloc ?_ _) | (with_reducible exact only_refl _ _) | omega | (simp; done) | (simp; omega)))⟩

set_option maxHeartbeats 400000 in
theorem rsetgid_bad1 (r e s g k : Int) (u : Int) (w : World) (hok : (⟨r, e, s, g, k⟩ : Cr).ok = false) :
    Calls Try.prog 17 #[(⟨r, e, s, g, k⟩ : Cr).val, .int .i64 u] w fun e' w' => e' = .returned (.tuple #[(zero : Cr).val, .int .i64 1]) ∧ w.grownBy w' none := by
  have Hok := hide hok
  clear hok
  unfold Cr.val
  go_enter Try.func17, Try.ntmps17
  go_wp2_with ((go_at_call 19; refine (may_is r e s g k _ _ Hok.out).mono ?_; rintro e' w' ⟨rfl, hg⟩; (have Hg := hide hg; clear hg); (obtain ⟨⟨p0, p1, p2, p3, p4⟩, q0, q1, q2, q3, q4⟩ := ((Blk.new1 w _ 24 _).grown Hg.out (by simp)).c5); (obtain ⟨⟨k0, k1, k2, k3, k4⟩, l0, l1, l2, l3, l4⟩ := (((Blk.new w 24 _).alloc _).grown Hg.out (by simp)).c5)))
  exact bodyPost_ret (v := .tuple #[(zero : Cr).val, .int .i64 1]) (by simp [results, Try.results17, go_sem, Cr.val, zero, p0, p1, p2, p3, p4]) rfl ⟨rfl, (by repeat' (first | (with_reducible refine none_setCell ?_ ?_ _) | (with_reducible refine none_trans ?_ Hg.out) | (with_reducible refine only_alloc ?_ _) | (with_reducible exact only_refl _ _) | omega | (simp; done) | (simp; omega)))⟩

set_option maxHeartbeats 400000 in
theorem rsetgid_bad2 (r e s g k : Int) (u : Int) (w : World) (hok : (⟨r, e, s, g, k⟩ : Cr).ok = true) (hid : idB u = false) :
    Calls Try.prog 17 #[(⟨r, e, s, g, k⟩ : Cr).val, .int .i64 u] w fun e' w' => e' = .returned (.tuple #[(zero : Cr).val, .int .i64 1]) ∧ w.grownBy w' none := by
  have Hok := hide hok
  clear hok
  have Hid2 := hide hid
  clear hid
  unfold Cr.val
  go_enter Try.func17, Try.ntmps17
  go_wp2_with (first | (go_at_call 19; refine (may_is r e s g k _ _ Hok.out).mono ?_; rintro e' w' ⟨rfl, hg⟩; (have Hg := hide hg; clear hg); (obtain ⟨⟨p0, p1, p2, p3, p4⟩, q0, q1, q2, q3, q4⟩ := ((Blk.new1 w _ 24 _).grown Hg.out (by simp)).c5); (obtain ⟨⟨k0, k1, k2, k3, k4⟩, l0, l1, l2, l3, l4⟩ := (((Blk.new w 24 _).alloc _).grown Hg.out (by simp)).c5)) | (go_at_call 20; refine (id_is _ _ Hid2.out _).mono ?_; rintro e' w2 ⟨rfl, rfl⟩))
  exact bodyPost_ret (v := .tuple #[(zero : Cr).val, .int .i64 1]) (by simp [results, Try.results17, go_sem, Cr.val, zero, p0, p1, p2, p3, p4]) rfl ⟨rfl, (by repeat' (first | (with_reducible refine none_setCell ?_ ?_ _) | (with_reducible refine none_trans ?_ Hg.out) | (with_reducible refine only_alloc ?_ _) | (with_reducible exact only_refl _ _) | omega | (simp; done) | (simp; omega)))⟩

set_option maxHeartbeats 400000 in
theorem rexec_set (r e s g k : Int) (m o : Int) (w : World) (hok : (⟨r, e, s, g, k⟩ : Cr).ok = true) (hid : idB o = true) (hb : (mb m != 0) = true) :
    Calls Try.prog 14 #[(⟨r, e, s, g, k⟩ : Cr).val, .int .i64 m, .int .i64 o] w fun e' w' => e' = .returned (.tuple #[(⟨r, o, o, g, k⟩ : Cr).val, .int .i64 0]) ∧ w.grownBy w' none := by
  have Hok := hide hok
  clear hok
  have Hid2 := hide hid
  clear hid
  unfold mb at hb
  unfold Cr.val
  go_enter Try.func14, Try.ntmps14
  go_wp2_with (first | (go_at_call 19; refine (may_is r e s g k _ _ Hok.out).mono ?_; rintro e' w' ⟨rfl, hg⟩; (have Hg := hide hg; clear hg); (obtain ⟨⟨p0, p1, p2, p3, p4⟩, q0, q1, q2, q3, q4⟩ := ((Blk.new1 w _ 24 _).grown Hg.out (by simp)).c5); (obtain ⟨⟨k0, k1, k2, k3, k4⟩, l0, l1, l2, l3, l4⟩ := (((Blk.new w 24 _).alloc _).grown Hg.out (by simp)).c5)) | (go_at_call 20; refine (id_is _ _ Hid2.out _).mono ?_; rintro e' w2 ⟨rfl, rfl⟩))
  exact bodyPost_ret (v := .tuple #[(⟨r, o, o, g, k⟩ : Cr).val, .int .i64 0]) (by simp [results, Try.results14, go_sem, Cr.val, p0, p1, p2, p3, p4]) rfl ⟨rfl, (by repeat' (first | (with_reducible refine none_setCell ?_ ?_ _) | (with_reducible refine none_trans ?_ Hg.out) | (with_reducible refine only_alloc ?_ _) | (with_reducible exact only_refl _ _) | omega | (simp; done) | (simp; omega)))⟩

set_option maxHeartbeats 400000 in
theorem rexec_plain (r e s g k : Int) (m o : Int) (w : World) (hok : (⟨r, e, s, g, k⟩ : Cr).ok = true) (hid : idB o = true) (hb : (mb m != 0) = false) :
    Calls Try.prog 14 #[(⟨r, e, s, g, k⟩ : Cr).val, .int .i64 m, .int .i64 o] w fun e' w' => e' = .returned (.tuple #[(⟨r, e, e, g, k⟩ : Cr).val, .int .i64 0]) ∧ w.grownBy w' none := by
  have Hok := hide hok
  clear hok
  have Hid2 := hide hid
  clear hid
  unfold mb at hb
  unfold Cr.val
  go_enter Try.func14, Try.ntmps14
  go_wp2_with (first | (go_at_call 19; refine (may_is r e s g k _ _ Hok.out).mono ?_; rintro e' w' ⟨rfl, hg⟩; (have Hg := hide hg; clear hg); (obtain ⟨⟨p0, p1, p2, p3, p4⟩, q0, q1, q2, q3, q4⟩ := ((Blk.new1 w _ 24 _).grown Hg.out (by simp)).c5); (obtain ⟨⟨k0, k1, k2, k3, k4⟩, l0, l1, l2, l3, l4⟩ := (((Blk.new w 24 _).alloc _).grown Hg.out (by simp)).c5)) | (go_at_call 20; refine (id_is _ _ Hid2.out _).mono ?_; rintro e' w2 ⟨rfl, rfl⟩))
  exact bodyPost_ret (v := .tuple #[(⟨r, e, e, g, k⟩ : Cr).val, .int .i64 0]) (by simp [results, Try.results14, go_sem, Cr.val, p0, p1, p2, p3, p4]) rfl ⟨rfl, (by repeat' (first | (with_reducible refine none_setCell ?_ ?_ _) | (with_reducible refine none_trans ?_ Hg.out) | (with_reducible refine only_alloc ?_ _) | (with_reducible exact only_refl _ _) | omega | (simp; done) | (simp; omega)))⟩

set_option maxHeartbeats 400000 in
theorem rsetuid_all (r e s g k : Int) (u : Int) (w : World) (hok : (⟨r, e, s, g, k⟩ : Cr).ok = true) (hid : idB u = true) (he : (e == 0) = true) :
    Calls Try.prog 15 #[(⟨r, e, s, g, k⟩ : Cr).val, .int .i64 u] w fun e' w' => e' = .returned (.tuple #[(⟨u, u, u, g, k⟩ : Cr).val, .int .i64 0]) ∧ w.grownBy w' none := by
  have Hok := hide hok
  clear hok
  have Hid2 := hide hid
  clear hid
  have he' : (e != 0) = false := by simpa using he
  unfold Cr.val
  go_enter Try.func15, Try.ntmps15
  go_wp2_with (first | (go_at_call 19; refine (may_is r e s g k _ _ Hok.out).mono ?_; rintro e' w' ⟨rfl, hg⟩; (have Hg := hide hg; clear hg); (obtain ⟨⟨p0, p1, p2, p3, p4⟩, q0, q1, q2, q3, q4⟩ := ((Blk.new1 w _ 24 _).grown Hg.out (by simp)).c5); (obtain ⟨⟨k0, k1, k2, k3, k4⟩, l0, l1, l2, l3, l4⟩ := (((Blk.new w 24 _).alloc _).grown Hg.out (by simp)).c5)) | (go_at_call 20; refine (id_is _ _ Hid2.out _).mono ?_; rintro e' w2 ⟨rfl, rfl⟩))
  exact bodyPost_ret (v := .tuple #[(⟨u, u, u, g, k⟩ : Cr).val, .int .i64 0]) (by simp [results, Try.results15, go_sem, Cr.val, p0, p1, p2, p3, p4]) rfl ⟨rfl, (by repeat' (first | (with_reducible refine none_setCell ?_ ?_ _) | (with_reducible refine none_trans ?_ Hg.out) | (with_reducible refine only_alloc ?_ _) | (with_reducible exact only_refl _ _) | omega | (simp; done) | (simp; omega)))⟩

set_option maxHeartbeats 400000 in
theorem rsetuid_real (r e s g k : Int) (u : Int) (w : World) (hok : (⟨r, e, s, g, k⟩ : Cr).ok = true) (hid : idB u = true) (he : (e == 0) = false) (hr : (u == r) = true) :
    Calls Try.prog 15 #[(⟨r, e, s, g, k⟩ : Cr).val, .int .i64 u] w fun e' w' => e' = .returned (.tuple #[(⟨r, u, s, g, k⟩ : Cr).val, .int .i64 0]) ∧ w.grownBy w' none := by
  have Hok := hide hok
  clear hok
  have Hid2 := hide hid
  clear hid
  have he' : (e != 0) = true := by simpa using he
  have hr' : (u != r) = false := by simpa using hr
  unfold Cr.val
  go_enter Try.func15, Try.ntmps15
  go_wp2_with (first | (go_at_call 19; refine (may_is r e s g k _ _ Hok.out).mono ?_; rintro e' w' ⟨rfl, hg⟩; (have Hg := hide hg; clear hg); (obtain ⟨⟨p0, p1, p2, p3, p4⟩, q0, q1, q2, q3, q4⟩ := ((Blk.new1 w _ 24 _).grown Hg.out (by simp)).c5); (obtain ⟨⟨k0, k1, k2, k3, k4⟩, l0, l1, l2, l3, l4⟩ := (((Blk.new w 24 _).alloc _).grown Hg.out (by simp)).c5)) | (go_at_call 20; refine (id_is _ _ Hid2.out _).mono ?_; rintro e' w2 ⟨rfl, rfl⟩))
  exact bodyPost_ret (v := .tuple #[(⟨r, u, s, g, k⟩ : Cr).val, .int .i64 0]) (by simp [results, Try.results15, go_sem, Cr.val, p0, p1, p2, p3, p4]) rfl ⟨rfl, (by repeat' (first | (with_reducible refine none_setCell ?_ ?_ _) | (with_reducible refine none_trans ?_ Hg.out) | (with_reducible refine only_alloc ?_ _) | (with_reducible exact only_refl _ _) | omega | (simp; done) | (simp; omega)))⟩

set_option maxHeartbeats 400000 in
theorem rsetuid_saved (r e s g k : Int) (u : Int) (w : World) (hok : (⟨r, e, s, g, k⟩ : Cr).ok = true) (hid : idB u = true) (he : (e == 0) = false) (hr : (u == r) = false) (hs : (u == s) = true) :
    Calls Try.prog 15 #[(⟨r, e, s, g, k⟩ : Cr).val, .int .i64 u] w fun e' w' => e' = .returned (.tuple #[(⟨r, u, s, g, k⟩ : Cr).val, .int .i64 0]) ∧ w.grownBy w' none := by
  have Hok := hide hok
  clear hok
  have Hid2 := hide hid
  clear hid
  have he' : (e != 0) = true := by simpa using he
  have hr' : (u != r) = true := by simpa using hr
  have hs' : (u != s) = false := by simpa using hs
  unfold Cr.val
  go_enter Try.func15, Try.ntmps15
  go_wp2_with (first | (go_at_call 19; refine (may_is r e s g k _ _ Hok.out).mono ?_; rintro e' w' ⟨rfl, hg⟩; (have Hg := hide hg; clear hg); (obtain ⟨⟨p0, p1, p2, p3, p4⟩, q0, q1, q2, q3, q4⟩ := ((Blk.new1 w _ 24 _).grown Hg.out (by simp)).c5); (obtain ⟨⟨k0, k1, k2, k3, k4⟩, l0, l1, l2, l3, l4⟩ := (((Blk.new w 24 _).alloc _).grown Hg.out (by simp)).c5)) | (go_at_call 20; refine (id_is _ _ Hid2.out _).mono ?_; rintro e' w2 ⟨rfl, rfl⟩))
  exact bodyPost_ret (v := .tuple #[(⟨r, u, s, g, k⟩ : Cr).val, .int .i64 0]) (by simp [results, Try.results15, go_sem, Cr.val, p0, p1, p2, p3, p4]) rfl ⟨rfl, (by repeat' (first | (with_reducible refine none_setCell ?_ ?_ _) | (with_reducible refine none_trans ?_ Hg.out) | (with_reducible refine only_alloc ?_ _) | (with_reducible exact only_refl _ _) | omega | (simp; done) | (simp; omega)))⟩

set_option maxHeartbeats 400000 in
theorem rsetuid_perm (r e s g k : Int) (u : Int) (w : World) (hok : (⟨r, e, s, g, k⟩ : Cr).ok = true) (hid : idB u = true) (he : (e == 0) = false) (hr : (u == r) = false) (hs : (u == s) = false) :
    Calls Try.prog 15 #[(⟨r, e, s, g, k⟩ : Cr).val, .int .i64 u] w fun e' w' => e' = .returned (.tuple #[(zero : Cr).val, .int .i64 2]) ∧ w.grownBy w' none := by
  have Hok := hide hok
  clear hok
  have Hid2 := hide hid
  clear hid
  have he' : (e != 0) = true := by simpa using he
  have hr' : (u != r) = true := by simpa using hr
  have hs' : (u != s) = true := by simpa using hs
  unfold Cr.val
  go_enter Try.func15, Try.ntmps15
  go_wp2_with (first | (go_at_call 19; refine (may_is r e s g k _ _ Hok.out).mono ?_; rintro e' w' ⟨rfl, hg⟩; (have Hg := hide hg; clear hg); (obtain ⟨⟨p0, p1, p2, p3, p4⟩, q0, q1, q2, q3, q4⟩ := ((Blk.new1 w _ 24 _).grown Hg.out (by simp)).c5); (obtain ⟨⟨k0, k1, k2, k3, k4⟩, l0, l1, l2, l3, l4⟩ := (((Blk.new w 24 _).alloc _).grown Hg.out (by simp)).c5)) | (go_at_call 20; refine (id_is _ _ Hid2.out _).mono ?_; rintro e' w2 ⟨rfl, rfl⟩))
  exact bodyPost_ret (v := .tuple #[(zero : Cr).val, .int .i64 2]) (by simp [results, Try.results15, go_sem, Cr.val, zero, p0, p1, p2, p3, p4]) rfl ⟨rfl, (by repeat' (first | (with_reducible refine none_setCell ?_ ?_ _) | (with_reducible refine none_trans ?_ Hg.out) | (with_reducible refine only_alloc ?_ _) | (with_reducible exact only_refl _ _) | omega | (simp; done) | (simp; omega)))⟩

set_option maxHeartbeats 400000 in
theorem rsetgid_all (r e s g k : Int) (u : Int) (w : World) (hok : (⟨r, e, s, g, k⟩ : Cr).ok = true) (hid : idB u = true) (he : (e == 0) = true) :
    Calls Try.prog 17 #[(⟨r, e, s, g, k⟩ : Cr).val, .int .i64 u] w fun e' w' => e' = .returned (.tuple #[(⟨r, e, s, u, u⟩ : Cr).val, .int .i64 0]) ∧ w.grownBy w' none := by
  have Hok := hide hok
  clear hok
  have Hid2 := hide hid
  clear hid
  have he' : (e != 0) = false := by simpa using he
  unfold Cr.val
  go_enter Try.func17, Try.ntmps17
  go_wp2_with (first | (go_at_call 19; refine (may_is r e s g k _ _ Hok.out).mono ?_; rintro e' w' ⟨rfl, hg⟩; (have Hg := hide hg; clear hg); (obtain ⟨⟨p0, p1, p2, p3, p4⟩, q0, q1, q2, q3, q4⟩ := ((Blk.new1 w _ 24 _).grown Hg.out (by simp)).c5); (obtain ⟨⟨k0, k1, k2, k3, k4⟩, l0, l1, l2, l3, l4⟩ := (((Blk.new w 24 _).alloc _).grown Hg.out (by simp)).c5)) | (go_at_call 20; refine (id_is _ _ Hid2.out _).mono ?_; rintro e' w2 ⟨rfl, rfl⟩))
  exact bodyPost_ret (v := .tuple #[(⟨r, e, s, u, u⟩ : Cr).val, .int .i64 0]) (by simp [results, Try.results17, go_sem, Cr.val, p0, p1, p2, p3, p4]) rfl ⟨rfl, (by repeat' (first | (with_reducible refine none_setCell ?_ ?_ _) | (with_reducible refine none_trans ?_ Hg.out) | (with_reducible refine only_alloc ?_ _) | (with_reducible exact only_refl _ _) | omega | (simp; done) | (simp; omega)))⟩

set_option maxHeartbeats 400000 in
theorem rsetgid_back (r e s g k : Int) (u : Int) (w : World) (hok : (⟨r, e, s, g, k⟩ : Cr).ok = true) (hid : idB u = true) (he : (e == 0) = false) (hr : (u == g) = true) :
    Calls Try.prog 17 #[(⟨r, e, s, g, k⟩ : Cr).val, .int .i64 u] w fun e' w' => e' = .returned (.tuple #[(⟨r, e, s, g, u⟩ : Cr).val, .int .i64 0]) ∧ w.grownBy w' none := by
  have Hok := hide hok
  clear hok
  have Hid2 := hide hid
  clear hid
  have he' : (e != 0) = true := by simpa using he
  have hr' : (u != g) = false := by simpa using hr
  unfold Cr.val
  go_enter Try.func17, Try.ntmps17
  go_wp2_with (first | (go_at_call 19; refine (may_is r e s g k _ _ Hok.out).mono ?_; rintro e' w' ⟨rfl, hg⟩; (have Hg := hide hg; clear hg); (obtain ⟨⟨p0, p1, p2, p3, p4⟩, q0, q1, q2, q3, q4⟩ := ((Blk.new1 w _ 24 _).grown Hg.out (by simp)).c5); (obtain ⟨⟨k0, k1, k2, k3, k4⟩, l0, l1, l2, l3, l4⟩ := (((Blk.new w 24 _).alloc _).grown Hg.out (by simp)).c5)) | (go_at_call 20; refine (id_is _ _ Hid2.out _).mono ?_; rintro e' w2 ⟨rfl, rfl⟩))
  exact bodyPost_ret (v := .tuple #[(⟨r, e, s, g, u⟩ : Cr).val, .int .i64 0]) (by simp [results, Try.results17, go_sem, Cr.val, p0, p1, p2, p3, p4]) rfl ⟨rfl, (by repeat' (first | (with_reducible refine none_setCell ?_ ?_ _) | (with_reducible refine none_trans ?_ Hg.out) | (with_reducible refine only_alloc ?_ _) | (with_reducible exact only_refl _ _) | omega | (simp; done) | (simp; omega)))⟩

set_option maxHeartbeats 400000 in
theorem rsetgid_perm (r e s g k : Int) (u : Int) (w : World) (hok : (⟨r, e, s, g, k⟩ : Cr).ok = true) (hid : idB u = true) (he : (e == 0) = false) (hr : (u == g) = false) :
    Calls Try.prog 17 #[(⟨r, e, s, g, k⟩ : Cr).val, .int .i64 u] w fun e' w' => e' = .returned (.tuple #[(zero : Cr).val, .int .i64 2]) ∧ w.grownBy w' none := by
  have Hok := hide hok
  clear hok
  have Hid2 := hide hid
  clear hid
  have he' : (e != 0) = true := by simpa using he
  have hr' : (u != g) = true := by simpa using hr
  unfold Cr.val
  go_enter Try.func17, Try.ntmps17
  go_wp2_with (first | (go_at_call 19; refine (may_is r e s g k _ _ Hok.out).mono ?_; rintro e' w' ⟨rfl, hg⟩; (have Hg := hide hg; clear hg); (obtain ⟨⟨p0, p1, p2, p3, p4⟩, q0, q1, q2, q3, q4⟩ := ((Blk.new1 w _ 24 _).grown Hg.out (by simp)).c5); (obtain ⟨⟨k0, k1, k2, k3, k4⟩, l0, l1, l2, l3, l4⟩ := (((Blk.new w 24 _).alloc _).grown Hg.out (by simp)).c5)) | (go_at_call 20; refine (id_is _ _ Hid2.out _).mono ?_; rintro e' w2 ⟨rfl, rfl⟩))
  exact bodyPost_ret (v := .tuple #[(zero : Cr).val, .int .i64 2]) (by simp [results, Try.results17, go_sem, Cr.val, zero, p0, p1, p2, p3, p4]) rfl ⟨rfl, (by repeat' (first | (with_reducible refine none_setCell ?_ ?_ _) | (with_reducible refine none_trans ?_ Hg.out) | (with_reducible refine only_alloc ?_ _) | (with_reducible exact only_refl _ _) | omega | (simp; done) | (simp; omega)))⟩

end Go.Proofs.Ytbmfghcechkncaa
