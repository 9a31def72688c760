/- Whether numbers may be ids; Of and Exec of cred and of the document (turned from the texts of chapter 05). -/
import Derived.Test.YtolmpejaakpikaaKit
set_option linter.all false
namespace Go.Proofs.Ytolmpejaakpikaa
open Go.RowKit

theorem info3 : (Try.prog.info? 3).map (fun i => (i.zero, i.size, i.bytes)) = some (some (.int .i64 0), 1, 8) := by kernel_rfl

def badB (n : Int) : Bool := decide (n < 0) || decide (n > 65535)

set_option maxHeartbeats 400000 in
theorem bad_any (n : Int) (w : World) : Calls Try.prog 24 #[.int .i64 n] w fun e w' => e = .returned (.bool (badB n)) ∧ w' = w := by
  by_cases h : n < 0
  · go_enter Try.func24, Try.ntmps24
    go_wp2
    go_ret
    exact ⟨by simp [badB, h], rfl⟩
  · go_enter Try.func24, Try.ntmps24
    go_wp2
    go_ret
    exact ⟨by simp [badB]; omega, rfl⟩

/-- a slice of ints that reads as a list -/
def Ints (w : World) (a : Option Addr) (n : Nat) (xs : List Int) : Prop :=
  xs.length = n ∧ ∀ i (h : i < xs.length), ∃ b off, a = some ⟨b, off, none⟩ ∧ w.cell? ⟨b, off + i, none⟩ = some (.int .i64 xs[i])

theorem Ints.of_own {w : World} {base : Nat} {v : Value} {n : Nat} {xs : List Int} (h : w.ownsRow base 3 1 v n (xs.map (.int .i64))) : ∃ a c, v = .slice a n c ∧ Ints w a n xs := by
  obtain ⟨hl, h⟩ := h
  simp only [List.length_map, Nat.mul_one] at hl
  rcases h with ⟨rfl, rfl⟩ | ⟨g, cap, cur, rfl, hb, hg, hn, hm, hs, ht⟩
  · exact ⟨none, 0, rfl, hl, fun i hi => absurd hi (by omega)⟩
  · refine ⟨some ⟨g, 0, none⟩, cap, rfl, hl, fun i hi => ⟨g, 0, rfl, ?_⟩⟩
    have h1 : (cur.toList.take (n * 1))[i]? = some (.int .i64 xs[i]) := by
      rw [ht, List.getElem?_map, List.getElem?_eq_getElem hi]; rfl
    rw [List.getElem?_take] at h1
    split at h1
    · simp [World.cell?, hg]
      simpa using h1
    · cases h1

set_option maxHeartbeats 400000 in
theorem index_any (a : Option Addr) (n cap : Nat) (hn : n ≤ 100) (xs : List Int) (w : World) (hi : Ints w a n xs) :
    Calls Try.prog 25 #[.slice a n cap, .func (.func 24) #[] #[]] w fun e w' => ∃ r : Int, e = .returned (.int .i64 r) ∧ decide (0 ≤ r) = xs.any badB ∧ w' = w := by
  have hlen := hi.1
  have Hi := hide hi.2
  have Hlen := hide hlen
  have hl1 : xs.length ≤ n := by omega
  have hl2 : n ≤ xs.length := by omega
  clear hi hlen
  go_enter Try.func25, Try.ntmps25
  go_wp2
  go_loop [8] (fun v => ∃ k : Nat, k ≤ n ∧ v = .int .i64 k ∧ Hid (∀ i (h : i < xs.length), i < k → badB xs[i] = false)) (fun v => n - (intOf v).toNat)
  case atStart => exact ⟨0, by omega, rfl, hide (fun i h hk => absurd hk (by omega))⟩
  case round =>
    obtain ⟨k, hk, rfl, hb⟩ := hrel
    by_cases hlt : k < n
    · obtain ⟨b, off, rfl, hc⟩ := Hi.out k (by omega)
      cases hbad : badB (xs[k]'(by omega))
      · have Hbad := hide hbad
        clear hbad
        go_wp2_with (go_at_call 24; refine (bad_any _ _).mono ?_; rintro e w' ⟨rfl, rfl⟩; rw [Hbad.out])
        go_round
        case rel =>
          refine ⟨k + 1, by omega, by go_num, hide (fun i h hik => ?_)⟩
          by_cases e : i = k
          · subst e; exact Hbad.out
          · exact hb.out i h (by omega)
        case measure => simp [intOf]; omega
      · have Hbad := hide hbad
        clear hbad
        go_wp2_with (go_at_call 24; refine (bad_any _ _).mono ?_; rintro e w' ⟨rfl, rfl⟩; rw [Hbad.out])
        go_ret
        refine ⟨_, rfl, ?_, rfl⟩
        rw [decide_eq_true (by omega)]
        exact (List.any_eq_true.2 ⟨_, List.getElem_mem _, Hbad.out⟩).symm
    · go_wp2
      go_ret
      refine ⟨_, rfl, ?_, rfl⟩
      rw [decide_eq_false (by omega)]
      symm
      rw [List.any_eq_false]
      intro x hx
      obtain ⟨i, hi, rfl⟩ := List.getElem_of_mem hx
      rw [hb.out i hi (by omega)]
      simp

set_option maxHeartbeats 400000 in
theorem contains_any (a : Option Addr) (n cap : Nat) (hn : n ≤ 100) (xs : List Int) (w : World) (hi : Ints w a n xs) :
    Calls Try.prog 23 #[.slice a n cap, .func (.func 24) #[] #[]] w fun e w' => e = .returned (.bool (xs.any badB)) ∧ w' = w := by
  have Hi := hide hi
  clear hi
  go_enter Try.func23, Try.ntmps23
  go_wp2_with (go_at_call 25; refine (index_any _ _ _ hn _ _ Hi.out).mono ?_; rintro e w' ⟨r, rfl, hr, rfl⟩; (have Hr := hide hr; clear hr))
  go_ret
  exact ⟨by rw [← Hr.out]; rfl, rfl⟩


structure Cr where
  r : Int
  e : Int
  s : Int
  g : Int
  h : Int
def Cr.val (c : Cr) : Value := .agg #[.int .i64 c.r, .int .i64 c.e, .int .i64 c.s, .int .i64 c.g, .int .i64 c.h]
def idB (n : Int) : Bool := !badB n
def Cr.ok (c : Cr) : Bool := idB c.r && idB c.e && idB c.s && idB c.g && idB c.h

set_option maxHeartbeats 400000 in
theorem right_own (c : Cr) (w : World) (v : Value) (n : Nat) (hn : n ≤ 10) (xs : List Int) (base : Nat) (hown : w.ownsRow base 3 1 v n (xs.map (.int .i64))) (hbase : base ≤ w.heap.size) :
    Calls Try.prog 22 #[c.val, v] w fun e w' => e = .returned (.bool (!(xs ++ [c.r, c.e, c.s, c.g, c.h]).any badB)) ∧ w.grownBy w' v.ownBlock := by
  obtain ⟨r, e, s, g, h⟩ := c
  unfold Cr.val
  have Hown := hide hown
  clear hown
  go_enter Try.func22, Try.ntmps22
  have hcells : ∀ (w' : World) j u, ([r, e, s, g, h].map (Value.int .i64))[j]? = some u → (w'.alloc (.cells #[.int .i64 r, .int .i64 e, .int .i64 s, .int .i64 g, .int .i64 h] 3)).cell? ((⟨w'.heap.size, 0, none⟩ : Addr).add j) = some u := by
    intro w' j u hu
    rw [Addr.add_lit, World.cell?_alloc_new, Nat.zero_add]
    simpa using hu
  have Hcells := hide hcells
  clear hcells
  go_wp2_with ((with_reducible refine wpList_app base 3 (.int .i64 0) 1 8 Try.underlying69 info3 rfl (by omega) v n (xs.map (.int .i64)) ?hs ?hown ⟨w.heap.size + 1, 0, none⟩ 5 5 ([r, e, s, g, h].map (.int .i64)) ?hx rfl ?hnews (ints_oneCell _ _) ?h63 ?hbytes ?hbase ?_); (case hs => exact rfl); (case hown => exact (Hown.out.alloc _).alloc _); (case hx => exact rfl); (case hnews => (have h := Hcells.out (w.alloc (.cells #[.int .i64 r, .int .i64 e, .int .i64 s, .int .i64 g, .int .i64 h] 28)); simpa using h)); (case h63 => unfold maxLen; omega); (case hbytes => omega); (case hbase => simp; omega); intro v1 w1 hown1 hg1; (have Hown1 := hide hown1; have Hg1 := hide hg1; clear hown1 hg1))
  obtain ⟨a1, c1, rfl, hi1⟩ := Ints.of_own (xs := xs ++ [r, e, s, g, h]) (by rw [List.map_append]; exact Hown1.out)
  have Hi1 := hide hi1
  clear hi1
  go_wp2_with (go_at_call 23; (with_reducible refine (contains_any _ _ _ (by omega) _ _ Hi1.out).mono ?_); rintro e w' ⟨rfl, rfl⟩)
  go_ret
  exact ⟨by simp, only_trans (only_of_none (only_alloc (only_alloc (only_refl w none) _) _) _) Hg1.out⟩

theorem right_nil (c : Cr) (w : World) :
    Calls Try.prog 22 #[c.val, .slice none 0 0] w fun e w' => e = .returned (.bool c.ok) ∧ w.grownBy w' none := by
  have h := right_own c w (.slice none 0 0) 0 (by omega) [] w.heap.size ⟨rfl, .inl ⟨rfl, rfl⟩⟩ (Nat.le_refl _)
  have e : (!([] ++ [c.r, c.e, c.s, c.g, c.h]).any badB) = c.ok := by simp [Cr.ok, idB, Bool.and_assoc]
  rw [e] at h
  exact h
theorem right_one (c : Cr) (x : Int) (b : Nat) (w : World) (hb : Blk w b 3 #[.int .i64 x]) :
    Calls Try.prog 22 #[c.val, .slice (some ⟨b, 0, none⟩) 1 1] w fun e w' => e = .returned (.bool (c.ok && idB x)) ∧ w.grownBy w' (some b) := by
  have h := right_own c w (.slice (some ⟨b, 0, none⟩) 1 1) 1 (by omega) [x] 0 ⟨rfl, .inr ⟨b, 1, _, rfl, Nat.zero_le _, hb, by omega, by unfold maxLen; omega, rfl, rfl⟩⟩ (Nat.zero_le _)
  have e : (!([x] ++ [c.r, c.e, c.s, c.g, c.h]).any badB) = (c.ok && idB x) := by
    simp [Cr.ok, idB, Bool.and_assoc, Bool.and_comm]
  rw [e] at h
  exact h

set_option maxHeartbeats 400000 in
theorem of_any (u g : Int) (w : World) (ok : Bool) (hok : (⟨u, u, u, g, g⟩ : Cr).ok = ok) :
    Calls Try.prog 19 #[.int .i64 u, .int .i64 g] w fun e w' => e = .returned (.tuple #[if ok then (⟨u, u, u, g, g⟩ : Cr).val else (⟨0, 0, 0, 0, 0⟩ : Cr).val, .int .i64 (if ok then 0 else 1)]) ∧ w.grownBy w' none := by
  have Hok := hide hok
  clear hok
  cases ok
  all_goals
    go_enter Try.func19, Try.ntmps19
    go_wp2_with (go_at_call 22; refine (right_nil ⟨u, u, u, g, g⟩ _).mono ?_; rintro e w' ⟨rfl, hg⟩; rw [Hok.out]; (have Hg := hide hg; clear hg); (obtain ⟨⟨p0, p1, p2, p3, p4⟩, q0, q1, q2, q3, q4⟩ := (((Blk.new w 28 _).alloc _).grown Hg.out (by simp)).c5); (obtain ⟨⟨r0, r1, r2, r3, r4⟩, _⟩ := ((Blk.new1 w _ 28 _).grown Hg.out (by simp)).c5))
  · exact bodyPost_ret (v := .tuple #[(⟨0, 0, 0, 0, 0⟩ : Cr).val, .int .i64 1]) (by simp [results, Try.results19, go_sem, Cr.val, p0, p1, p2, p3, p4]) rfl ⟨rfl, (by repeat' (first | (with_reducible exact Hg.out) | (with_reducible refine none_setCell ?_ ?_ _) | (with_reducible refine none_trans ?_ Hg.out) | (with_reducible refine only_alloc ?_ _) | (with_reducible exact only_refl _ _) | (simp; done) | (simp; omega)))⟩
  · exact bodyPost_ret (v := .tuple #[(⟨u, u, u, g, g⟩ : Cr).val, .int .i64 0]) (by simp [results, Try.results19, go_sem, Cr.val, p0, p1, p2, p3, p4]) rfl ⟨rfl, (by repeat' (first | (with_reducible exact Hg.out) | (with_reducible refine none_setCell ?_ ?_ _) | (with_reducible refine none_trans ?_ Hg.out) | (with_reducible refine only_alloc ?_ _) | (with_reducible exact only_refl _ _) | (simp; done) | (simp; omega)))⟩
def zero : Cr := ⟨0, 0, 0, 0, 0⟩
def okTwo (c : Cr) (x : Int) : Bool := c.ok && idB x
def mb (m : Int) : Int := bits BinOp.and IntKind.i64 m 2048

set_option maxHeartbeats 400000 in
theorem exec_bad (r e s g k : Int) (m o : Int) (w : World) (hok : okTwo ⟨r, e, s, g, k⟩ o = false) :
    Calls Try.prog 18 #[(⟨r, e, s, g, k⟩ : Cr).val, .int .i64 m, .int .i64 o] w fun e' w' => e' = .returned (.tuple #[(zero : Cr).val, .int .i64 1]) ∧ w.grownBy w' none := by
  have Hok := hide hok
  clear hok
  unfold Cr.val
  go_enter Try.func18, Try.ntmps18
  go_wp2_with (go_at_call 22; refine (right_one ⟨r, e, s, g, k⟩ _ _ _ (Blk.new2 w _ _ 3 _)).mono ?_; rintro e' w' ⟨rfl, hg⟩; rw [show (Cr.ok ⟨r, e, s, g, k⟩ && idB o) = false from Hok.out]; (have Hg := hide hg; clear hg); (obtain ⟨⟨p0, p1, p2, p3, p4⟩, q0, q1, q2, q3, q4⟩ := (((Blk.new1 w _ 28 _).alloc _).grown Hg.out (by simp; try omega)).c5); (obtain ⟨⟨k0, k1, k2, k3, k4⟩, l0, l1, l2, l3, l4⟩ := ((((Blk.new w 28 _).alloc _).alloc _).grown Hg.out (by simp; try omega)).c5))
  exact bodyPost_ret (v := .tuple #[(zero : Cr).val, .int .i64 1]) (by simp [results, Try.results18, go_sem, Cr.val, zero, p0, p1, p2, p3, p4]) rfl ⟨rfl, (by repeat' (first | (with_reducible refine none_setCell ?_ ?_ _) | (with_reducible refine only_new ?_ ?_ Hg.out) | (with_reducible refine only_alloc ?_ _) | (with_reducible exact only_refl _ _) | omega | (simp; done) | (simp; omega)))⟩

set_option maxHeartbeats 400000 in
theorem exec_set (r e s g k : Int) (m o : Int) (w : World) (hok : okTwo ⟨r, e, s, g, k⟩ o = true) (hb : (mb m != 0) = true) :
    Calls Try.prog 18 #[(⟨r, e, s, g, k⟩ : Cr).val, .int .i64 m, .int .i64 o] w fun e' w' => e' = .returned (.tuple #[(⟨r, o, o, g, k⟩ : Cr).val, .int .i64 0]) ∧ w.grownBy w' none := by
  have Hok := hide hok
  clear hok
  unfold mb at hb
  unfold Cr.val
  go_enter Try.func18, Try.ntmps18
  go_wp2_with (go_at_call 22; refine (right_one ⟨r, e, s, g, k⟩ _ _ _ (Blk.new2 w _ _ 3 _)).mono ?_; rintro e' w' ⟨rfl, hg⟩; rw [show (Cr.ok ⟨r, e, s, g, k⟩ && idB o) = true from Hok.out]; (have Hg := hide hg; clear hg); (obtain ⟨⟨p0, p1, p2, p3, p4⟩, q0, q1, q2, q3, q4⟩ := (((Blk.new1 w _ 28 _).alloc _).grown Hg.out (by simp; try omega)).c5); (obtain ⟨⟨k0, k1, k2, k3, k4⟩, l0, l1, l2, l3, l4⟩ := ((((Blk.new w 28 _).alloc _).alloc _).grown Hg.out (by simp; try omega)).c5))
  exact bodyPost_ret (v := .tuple #[(⟨r, o, o, g, k⟩ : Cr).val, .int .i64 0]) (by simp [results, Try.results18, go_sem, Cr.val, p0, p1, p2, p3, p4]) rfl ⟨rfl, (by repeat' (first | (with_reducible refine none_setCell ?_ ?_ _) | (with_reducible refine only_new ?_ ?_ Hg.out) | (with_reducible refine only_alloc ?_ _) | (with_reducible exact only_refl _ _) | omega | (simp; done) | (simp; omega)))⟩

set_option maxHeartbeats 400000 in
theorem exec_plain (r e s g k : Int) (m o : Int) (w : World) (hok : okTwo ⟨r, e, s, g, k⟩ o = true) (hb : (mb m != 0) = false) :
    Calls Try.prog 18 #[(⟨r, e, s, g, k⟩ : Cr).val, .int .i64 m, .int .i64 o] w fun e' w' => e' = .returned (.tuple #[(⟨r, e, e, g, k⟩ : Cr).val, .int .i64 0]) ∧ w.grownBy w' none := by
  have Hok := hide hok
  clear hok
  unfold mb at hb
  unfold Cr.val
  go_enter Try.func18, Try.ntmps18
  go_wp2_with (go_at_call 22; refine (right_one ⟨r, e, s, g, k⟩ _ _ _ (Blk.new2 w _ _ 3 _)).mono ?_; rintro e' w' ⟨rfl, hg⟩; rw [show (Cr.ok ⟨r, e, s, g, k⟩ && idB o) = true from Hok.out]; (have Hg := hide hg; clear hg); (obtain ⟨⟨p0, p1, p2, p3, p4⟩, q0, q1, q2, q3, q4⟩ := (((Blk.new1 w _ 28 _).alloc _).grown Hg.out (by simp; try omega)).c5); (obtain ⟨⟨k0, k1, k2, k3, k4⟩, l0, l1, l2, l3, l4⟩ := ((((Blk.new w 28 _).alloc _).alloc _).grown Hg.out (by simp; try omega)).c5))
  exact bodyPost_ret (v := .tuple #[(⟨r, e, e, g, k⟩ : Cr).val, .int .i64 0]) (by simp [results, Try.results18, go_sem, Cr.val, p0, p1, p2, p3, p4]) rfl ⟨rfl, (by repeat' (first | (with_reducible refine none_setCell ?_ ?_ _) | (with_reducible refine only_new ?_ ?_ Hg.out) | (with_reducible refine only_alloc ?_ _) | (with_reducible exact only_refl _ _) | omega | (simp; done) | (simp; omega)))⟩

set_option maxHeartbeats 400000 in
theorem id_any (n : Int) (w : World) : Calls Try.prog 21 #[.int .i64 n] w fun e w' => e = .returned (.bool (idB n)) ∧ w' = w := by
  by_cases h : 0 ≤ n
  · go_enter Try.func21, Try.ntmps21
    go_wp2
    go_ret
    exact ⟨by by_cases h5 : n ≤ 65535 <;> simp [idB, badB, show ¬ n < 0 by omega, h5] <;> omega, rfl⟩
  · have h' : n < 0 := by omega
    clear h
    go_enter Try.func21, Try.ntmps21
    go_wp2
    go_ret
    exact ⟨by simp [idB, badB, h'], rfl⟩
theorem id_is (n : Int) (b : Bool) (h : idB n = b) (w : World) : Calls Try.prog 21 #[.int .i64 n] w fun e w' => e = .returned (.bool b) ∧ w' = w := by
  subst h; exact id_any n w

set_option maxHeartbeats 400000 in
theorem may_0 (r e s g k : Int) (w : World) (h0 : idB r = false) :
    Calls Try.prog 20 #[(⟨r, e, s, g, k⟩ : Cr).val] w fun e' w' => e' = .returned (.bool false) ∧ w.grownBy w' none := by
  have H0 := hide h0
  clear h0
  unfold Cr.val
  go_enter Try.func20, Try.ntmps20
  go_wp2_with (first
    | (go_at_call 21; (with_reducible refine (id_is r _ H0.out _).mono ?_); rintro e' w' ⟨rfl, rfl⟩))
  go_ret
  exact ⟨rfl, only_alloc (only_refl _ _) _⟩

set_option maxHeartbeats 400000 in
theorem may_1 (r e s g k : Int) (w : World) (h0 : idB r = true) (h1 : idB e = false) :
    Calls Try.prog 20 #[(⟨r, e, s, g, k⟩ : Cr).val] w fun e' w' => e' = .returned (.bool false) ∧ w.grownBy w' none := by
  have H0 := hide h0
  clear h0
  have H1 := hide h1
  clear h1
  unfold Cr.val
  go_enter Try.func20, Try.ntmps20
  go_wp2_with (first
    | (go_at_call 21; (with_reducible refine (id_is r _ H0.out _).mono ?_); rintro e' w' ⟨rfl, rfl⟩)
    | (go_at_call 21; (with_reducible refine (id_is e _ H1.out _).mono ?_); rintro e' w' ⟨rfl, rfl⟩))
  go_ret
  exact ⟨rfl, only_alloc (only_refl _ _) _⟩

set_option maxHeartbeats 400000 in
theorem may_2 (r e s g k : Int) (w : World) (h0 : idB r = true) (h1 : idB e = true) (h2 : idB s = false) :
    Calls Try.prog 20 #[(⟨r, e, s, g, k⟩ : Cr).val] w fun e' w' => e' = .returned (.bool false) ∧ w.grownBy w' none := by
  have H0 := hide h0
  clear h0
  have H1 := hide h1
  clear h1
  have H2 := hide h2
  clear h2
  unfold Cr.val
  go_enter Try.func20, Try.ntmps20
  go_wp2_with (first
    | (go_at_call 21; (with_reducible refine (id_is r _ H0.out _).mono ?_); rintro e' w' ⟨rfl, rfl⟩)
    | (go_at_call 21; (with_reducible refine (id_is e _ H1.out _).mono ?_); rintro e' w' ⟨rfl, rfl⟩)
    | (go_at_call 21; (with_reducible refine (id_is s _ H2.out _).mono ?_); rintro e' w' ⟨rfl, rfl⟩))
  go_ret
  exact ⟨rfl, only_alloc (only_refl _ _) _⟩

set_option maxHeartbeats 400000 in
theorem may_3 (r e s g k : Int) (w : World) (h0 : idB r = true) (h1 : idB e = true) (h2 : idB s = true) (h3 : idB g = false) :
    Calls Try.prog 20 #[(⟨r, e, s, g, k⟩ : Cr).val] w fun e' w' => e' = .returned (.bool false) ∧ w.grownBy w' none := by
  have H0 := hide h0
  clear h0
  have H1 := hide h1
  clear h1
  have H2 := hide h2
  clear h2
  have H3 := hide h3
  clear h3
  unfold Cr.val
  go_enter Try.func20, Try.ntmps20
  go_wp2_with (first
    | (go_at_call 21; (with_reducible refine (id_is r _ H0.out _).mono ?_); rintro e' w' ⟨rfl, rfl⟩)
    | (go_at_call 21; (with_reducible refine (id_is e _ H1.out _).mono ?_); rintro e' w' ⟨rfl, rfl⟩)
    | (go_at_call 21; (with_reducible refine (id_is s _ H2.out _).mono ?_); rintro e' w' ⟨rfl, rfl⟩)
    | (go_at_call 21; (with_reducible refine (id_is g _ H3.out _).mono ?_); rintro e' w' ⟨rfl, rfl⟩))
  go_ret
  exact ⟨rfl, only_alloc (only_refl _ _) _⟩

set_option maxHeartbeats 400000 in
theorem may_4 (r e s g k : Int) (w : World) (h0 : idB r = true) (h1 : idB e = true) (h2 : idB s = true) (h3 : idB g = true) (h4 : idB k = false) :
    Calls Try.prog 20 #[(⟨r, e, s, g, k⟩ : Cr).val] w fun e' w' => e' = .returned (.bool false) ∧ w.grownBy w' none := by
  have H0 := hide h0
  clear h0
  have H1 := hide h1
  clear h1
  have H2 := hide h2
  clear h2
  have H3 := hide h3
  clear h3
  have H4 := hide h4
  clear h4
  unfold Cr.val
  go_enter Try.func20, Try.ntmps20
  go_wp2_with (first
    | (go_at_call 21; (with_reducible refine (id_is r _ H0.out _).mono ?_); rintro e' w' ⟨rfl, rfl⟩)
    | (go_at_call 21; (with_reducible refine (id_is e _ H1.out _).mono ?_); rintro e' w' ⟨rfl, rfl⟩)
    | (go_at_call 21; (with_reducible refine (id_is s _ H2.out _).mono ?_); rintro e' w' ⟨rfl, rfl⟩)
    | (go_at_call 21; (with_reducible refine (id_is g _ H3.out _).mono ?_); rintro e' w' ⟨rfl, rfl⟩)
    | (go_at_call 21; (with_reducible refine (id_is k _ H4.out _).mono ?_); rintro e' w' ⟨rfl, rfl⟩))
  go_ret
  exact ⟨rfl, only_alloc (only_refl _ _) _⟩

set_option maxHeartbeats 400000 in
theorem may_5 (r e s g k : Int) (w : World) (h0 : idB r = true) (h1 : idB e = true) (h2 : idB s = true) (h3 : idB g = true) (h4 : idB k = true) :
    Calls Try.prog 20 #[(⟨r, e, s, g, k⟩ : Cr).val] w fun e' w' => e' = .returned (.bool true) ∧ w.grownBy w' none := by
  have H0 := hide h0
  clear h0
  have H1 := hide h1
  clear h1
  have H2 := hide h2
  clear h2
  have H3 := hide h3
  clear h3
  have H4 := hide h4
  clear h4
  unfold Cr.val
  go_enter Try.func20, Try.ntmps20
  go_wp2_with (first
    | (go_at_call 21; (with_reducible refine (id_is r _ H0.out _).mono ?_); rintro e' w' ⟨rfl, rfl⟩)
    | (go_at_call 21; (with_reducible refine (id_is e _ H1.out _).mono ?_); rintro e' w' ⟨rfl, rfl⟩)
    | (go_at_call 21; (with_reducible refine (id_is s _ H2.out _).mono ?_); rintro e' w' ⟨rfl, rfl⟩)
    | (go_at_call 21; (with_reducible refine (id_is g _ H3.out _).mono ?_); rintro e' w' ⟨rfl, rfl⟩)
    | (go_at_call 21; (with_reducible refine (id_is k _ H4.out _).mono ?_); rintro e' w' ⟨rfl, rfl⟩))
  go_ret
  exact ⟨rfl, only_alloc (only_refl _ _) _⟩

theorem may_is (r e s g k : Int) (w : World) (b : Bool) (h : (⟨r, e, s, g, k⟩ : Cr).ok = b) :
    Calls Try.prog 20 #[(⟨r, e, s, g, k⟩ : Cr).val] w fun e' w' => e' = .returned (.bool b) ∧ w.grownBy w' none := by
  subst h
  unfold Cr.ok
  cases h0 : idB r
  · exact may_0 r e s g k w h0
  cases h1 : idB e
  · exact may_1 r e s g k w h0 h1
  cases h2 : idB s
  · exact may_2 r e s g k w h0 h1 h2
  cases h3 : idB g
  · exact may_3 r e s g k w h0 h1 h2 h3
  cases h4 : idB k
  · exact may_4 r e s g k w h0 h1 h2 h3 h4
  exact may_5 r e s g k w h0 h1 h2 h3 h4

set_option maxHeartbeats 400000 in
theorem rexec_bad1 (r e s g k : Int) (m o : Int) (w : World) (hok : (⟨r, e, s, g, k⟩ : Cr).ok = false) :
    Calls Try.prog 16 #[(⟨r, e, s, g, k⟩ : Cr).val, .int .i64 m, .int .i64 o] w fun e' w' => e' = .returned (.tuple #[(zero : Cr).val, .int .i64 1]) ∧ w.grownBy w' none := by
  have Hok := hide hok
  clear hok
  unfold Cr.val
  go_enter Try.func16, Try.ntmps16
  go_wp2_with ((go_at_call 20; refine (may_is r e s g k _ _ Hok.out).mono ?_; rintro e' w' ⟨rfl, hg⟩; (have Hg := hide hg; clear hg); (obtain ⟨⟨p0, p1, p2, p3, p4⟩, q0, q1, q2, q3, q4⟩ := ((Blk.new1 w _ 28 _).grown Hg.out (by simp)).c5); (obtain ⟨⟨k0, k1, k2, k3, k4⟩, l0, l1, l2, l3, l4⟩ := (((Blk.new w 28 _).alloc _).grown Hg.out (by simp)).c5)))
  exact bodyPost_ret (v := .tuple #[(zero : Cr).val, .int .i64 1]) (by simp [results, Try.results16, go_sem, Cr.val, zero, p0, p1, p2, p3, p4]) rfl ⟨rfl, (by repeat' (first | (with_reducible refine none_setCell ?_ ?_ _) | (with_reducible refine none_trans ?_ Hg.out) | (with_reducible refine only_alloc ?_ _) | (with_reducible exact only_refl _ _) | omega | (simp; done) | (simp; omega)))⟩

set_option maxHeartbeats 400000 in
theorem rexec_bad2 (r e s g k : Int) (m o : Int) (w : World) (hok : (⟨r, e, s, g, k⟩ : Cr).ok = true) (hid : idB o = false) :
    Calls Try.prog 16 #[(⟨r, e, s, g, k⟩ : Cr).val, .int .i64 m, .int .i64 o] w fun e' w' => e' = .returned (.tuple #[(zero : Cr).val, .int .i64 1]) ∧ w.grownBy w' none := by
  have Hok := hide hok
  clear hok
  have Hid2 := hide hid
  clear hid
  unfold Cr.val
  go_enter Try.func16, Try.ntmps16
  go_wp2_with (first | (go_at_call 20; refine (may_is r e s g k _ _ Hok.out).mono ?_; rintro e' w' ⟨rfl, hg⟩; (have Hg := hide hg; clear hg); (obtain ⟨⟨p0, p1, p2, p3, p4⟩, q0, q1, q2, q3, q4⟩ := ((Blk.new1 w _ 28 _).grown Hg.out (by simp)).c5); (obtain ⟨⟨k0, k1, k2, k3, k4⟩, l0, l1, l2, l3, l4⟩ := (((Blk.new w 28 _).alloc _).grown Hg.out (by simp)).c5)) | (go_at_call 21; refine (id_is _ _ Hid2.out _).mono ?_; rintro e' w2 ⟨rfl, rfl⟩))
  exact bodyPost_ret (v := .tuple #[(zero : Cr).val, .int .i64 1]) (by simp [results, Try.results16, go_sem, Cr.val, zero, p0, p1, p2, p3, p4]) rfl ⟨rfl, (by repeat' (first | (with_reducible refine none_setCell ?_ ?_ _) | (with_reducible refine none_trans ?_ Hg.out) | (with_reducible refine only_alloc ?_ _) | (with_reducible exact only_refl _ _) | omega | (simp; done) | (simp; omega)))⟩

set_option maxHeartbeats 400000 in
theorem rexec_set (r e s g k : Int) (m o : Int) (w : World) (hok : (⟨r, e, s, g, k⟩ : Cr).ok = true) (hid : idB o = true) (hb : (mb m != 0) = true) :
    Calls Try.prog 16 #[(⟨r, e, s, g, k⟩ : Cr).val, .int .i64 m, .int .i64 o] w fun e' w' => e' = .returned (.tuple #[(⟨r, o, o, g, k⟩ : Cr).val, .int .i64 0]) ∧ w.grownBy w' none := by
  have Hok := hide hok
  clear hok
  have Hid2 := hide hid
  clear hid
  unfold mb at hb
  unfold Cr.val
  go_enter Try.func16, Try.ntmps16
  go_wp2_with (first | (go_at_call 20; refine (may_is r e s g k _ _ Hok.out).mono ?_; rintro e' w' ⟨rfl, hg⟩; (have Hg := hide hg; clear hg); (obtain ⟨⟨p0, p1, p2, p3, p4⟩, q0, q1, q2, q3, q4⟩ := ((Blk.new1 w _ 28 _).grown Hg.out (by simp)).c5); (obtain ⟨⟨k0, k1, k2, k3, k4⟩, l0, l1, l2, l3, l4⟩ := (((Blk.new w 28 _).alloc _).grown Hg.out (by simp)).c5)) | (go_at_call 21; refine (id_is _ _ Hid2.out _).mono ?_; rintro e' w2 ⟨rfl, rfl⟩))
  exact bodyPost_ret (v := .tuple #[(⟨r, o, o, g, k⟩ : Cr).val, .int .i64 0]) (by simp [results, Try.results16, go_sem, Cr.val, p0, p1, p2, p3, p4]) rfl ⟨rfl, (by repeat' (first | (with_reducible refine none_setCell ?_ ?_ _) | (with_reducible refine none_trans ?_ Hg.out) | (with_reducible refine only_alloc ?_ _) | (with_reducible exact only_refl _ _) | omega | (simp; done) | (simp; omega)))⟩

set_option maxHeartbeats 400000 in
theorem rexec_plain (r e s g k : Int) (m o : Int) (w : World) (hok : (⟨r, e, s, g, k⟩ : Cr).ok = true) (hid : idB o = true) (hb : (mb m != 0) = false) :
    Calls Try.prog 16 #[(⟨r, e, s, g, k⟩ : Cr).val, .int .i64 m, .int .i64 o] w fun e' w' => e' = .returned (.tuple #[(⟨r, e, e, g, k⟩ : Cr).val, .int .i64 0]) ∧ w.grownBy w' none := by
  have Hok := hide hok
  clear hok
  have Hid2 := hide hid
  clear hid
  unfold mb at hb
  unfold Cr.val
  go_enter Try.func16, Try.ntmps16
  go_wp2_with (first | (go_at_call 20; refine (may_is r e s g k _ _ Hok.out).mono ?_; rintro e' w' ⟨rfl, hg⟩; (have Hg := hide hg; clear hg); (obtain ⟨⟨p0, p1, p2, p3, p4⟩, q0, q1, q2, q3, q4⟩ := ((Blk.new1 w _ 28 _).grown Hg.out (by simp)).c5); (obtain ⟨⟨k0, k1, k2, k3, k4⟩, l0, l1, l2, l3, l4⟩ := (((Blk.new w 28 _).alloc _).grown Hg.out (by simp)).c5)) | (go_at_call 21; refine (id_is _ _ Hid2.out _).mono ?_; rintro e' w2 ⟨rfl, rfl⟩))
  exact bodyPost_ret (v := .tuple #[(⟨r, e, e, g, k⟩ : Cr).val, .int .i64 0]) (by simp [results, Try.results16, go_sem, Cr.val, p0, p1, p2, p3, p4]) rfl ⟨rfl, (by repeat' (first | (with_reducible refine none_setCell ?_ ?_ _) | (with_reducible refine none_trans ?_ Hg.out) | (with_reducible refine only_alloc ?_ _) | (with_reducible exact only_refl _ _) | omega | (simp; done) | (simp; omega)))⟩

def ofF (u g : Int) : Cr × Int := if (⟨u, u, u, g, g⟩ : Cr).ok then (⟨u, u, u, g, g⟩, 0) else (zero, 1)
def execF (c : Cr) (m o : Int) : Cr × Int := if okTwo c o then (if mb m != 0 then (⟨c.r, o, o, c.g, c.h⟩, 0) else (⟨c.r, c.e, c.e, c.g, c.h⟩, 0)) else (zero, 1)
def ends (x : Cr × Int) (w : World) (e : Ending) (w' : World) : Prop := e = .returned (.tuple #[.agg #[.int .i64 x.1.r, .int .i64 x.1.e, .int .i64 x.1.s, .int .i64 x.1.g, .int .i64 x.1.h], .int .i64 x.2]) ∧ w.grownBy w' none

theorem of_calls (u g : Int) (w : World) : Calls Try.prog 19 #[.int .i64 u, .int .i64 g] w (ends (ofF u g) w) := by
  unfold ofF
  cases h : (⟨u, u, u, g, g⟩ : Cr).ok
  · exact of_any u g w false h
  · exact of_any u g w true h
theorem exec_calls (r e s g k m o : Int) (w : World) : Calls Try.prog 18 #[.agg #[.int .i64 r, .int .i64 e, .int .i64 s, .int .i64 g, .int .i64 k], .int .i64 m, .int .i64 o] w (ends (execF ⟨r, e, s, g, k⟩ m o) w) := by
  unfold execF
  cases h : okTwo ⟨r, e, s, g, k⟩ o
  · exact exec_bad r e s g k m o w h
  cases hb : (mb m != 0)
  · exact exec_plain r e s g k m o w h hb
  · exact exec_set r e s g k m o w h hb
theorem okTwo_ways {c : Cr} {x : Int} : (okTwo c x = false → c.ok = false ∨ (c.ok = true ∧ idB x = false)) ∧ (okTwo c x = true → c.ok = true ∧ idB x = true) := by
  unfold okTwo
  cases c.ok <;> cases idB x <;> simp

theorem rexec_calls (r e s g k m o : Int) (w : World) : Calls Try.prog 16 #[.agg #[.int .i64 r, .int .i64 e, .int .i64 s, .int .i64 g, .int .i64 k], .int .i64 m, .int .i64 o] w (ends (execF ⟨r, e, s, g, k⟩ m o) w) := by
  unfold execF
  cases h : okTwo ⟨r, e, s, g, k⟩ o
  · rcases okTwo_ways.1 h with h1 | ⟨h1, h2⟩
    · exact rexec_bad1 r e s g k m o w h1
    · exact rexec_bad2 r e s g k m o w h1 h2
  obtain ⟨h1, h2⟩ := okTwo_ways.2 h
  cases hb : (mb m != 0)
  · exact rexec_plain r e s g k m o w h1 h2 hb
  · exact rexec_set r e s g k m o w h1 h2 hb
set_option maxHeartbeats 400000 in
theorem rof_calls (u g : Int) (w : World) : Calls Try.prog 17 #[.int .i64 u, .int .i64 g] w (ends (ofF u g) w) := by
  unfold ofF
  cases h : (⟨u, u, u, g, g⟩ : Cr).ok
  all_goals
    have Hok := hide h
    clear h
    unfold ends
    simp only [if_true, Bool.false_eq_true, if_false, zero]
    go_enter Try.func17, Try.ntmps17
    go_wp2_with (go_at_call 20; refine (may_is u u u g g _ _ Hok.out).mono ?_; rintro e w' ⟨rfl, hg⟩; (have Hg := hide hg; clear hg); (obtain ⟨⟨p0, p1, p2, p3, p4⟩, q0, q1, q2, q3, q4⟩ := (((Blk.new w 28 _).alloc _).grown Hg.out (by simp)).c5); (obtain ⟨⟨r0, r1, r2, r3, r4⟩, _⟩ := ((Blk.new1 w _ 28 _).grown Hg.out (by simp)).c5))
  · exact bodyPost_ret (v := .tuple #[.agg #[.int .i64 0, .int .i64 0, .int .i64 0, .int .i64 0, .int .i64 0], .int .i64 1]) (by simp [results, Try.results17, go_sem, p0, p1, p2, p3, p4]) rfl ⟨rfl, (by repeat' (first | (with_reducible refine none_setCell ?_ ?_ _) | (with_reducible refine none_trans ?_ Hg.out) | (with_reducible refine only_alloc ?_ _) | (with_reducible exact only_refl _ _) | omega | (simp; done) | (simp; omega)))⟩
  · exact bodyPost_ret (v := .tuple #[.agg #[.int .i64 u, .int .i64 u, .int .i64 u, .int .i64 g, .int .i64 g], .int .i64 0]) (by simp [results, Try.results17, go_sem, p0, p1, p2, p3, p4]) rfl ⟨rfl, (by repeat' (first | (with_reducible refine none_setCell ?_ ?_ _) | (with_reducible refine none_trans ?_ Hg.out) | (with_reducible refine only_alloc ?_ _) | (with_reducible exact only_refl _ _) | omega | (simp; done) | (simp; omega)))⟩

end Go.Proofs.Ytolmpejaakpikaa
