/- Walks: whether numbers may be ids. -/
import Derived.Test.YtbmfghcechkncaaKit
namespace Go.Proofs.Ytbmfghcechkncaa
open Go.RowKit

theorem info3 : (Try.prog.info? 3).map (fun i => (i.zero, i.size, i.bytes)) = some (some (.int .i64 0), 1, 8) := by kernel_rfl

def badB (n : Int) : Bool := decide (n < 0) || decide (n > 65535)

set_option maxHeartbeats 400000 in
theorem bad_any (n : Int) (w : World) : Calls Try.prog 22 #[.int .i64 n] w fun e w' => e = .returned (.bool (badB n)) ∧ w' = w := by
  by_cases h : n < 0
  · go_enter Try.func22, Try.ntmps22
    go_wp2
    go_ret
    exact ⟨by simp [badB, h], rfl⟩
  · go_enter Try.func22, Try.ntmps22
    go_wp2
    go_ret
    exact ⟨by simp [badB]; omega, rfl⟩

/-- a slice of ints that reads as a list -/
def Ints (w : World) (a : Option Addr) (n : Nat) (xs : List Int) : Prop :=
  xs.length = n ∧ ∀ i (h : i < xs.length), ∃ b off, a = some ⟨b, off, none⟩ ∧ w.cell? ⟨b, off + i, none⟩ = some (.int .i64 xs[i])

theorem Ints.of_own {w : World} {base : Nat} {v : Value} {n : Nat} {xs : List Int} (h : w.ownsRow base 3 1 v n (xs.map (.int .i64))) : ∃ a c, v = .slice a n c ∧ Ints w a n xs := by
  obtain ⟨hl, h⟩ := h
  simp only [List.length_map, Nat.mul_one] at hl
  rcases h with ⟨rfl, rfl⟩ | ⟨g, cap, cur, rfl, hb, hg, hn, hm, hs, ht⟩
  · exact ⟨none, 0, rfl, hl, fun i hi => absurd hi (by omega)⟩
  · refine ⟨some ⟨g, 0, none⟩, cap, rfl, hl, fun i hi => ⟨g, 0, rfl, ?_⟩⟩
    have h1 : (cur.toList.take (n * 1))[i]? = some (.int .i64 xs[i]) := by
      rw [ht, List.getElem?_map, List.getElem?_eq_getElem hi]; rfl
    rw [List.getElem?_take] at h1
    split at h1
    · simp [World.cell?, hg]
      simpa using h1
    · cases h1

set_option maxHeartbeats 400000 in
theorem index_any (a : Option Addr) (n cap : Nat) (hn : n ≤ 100) (xs : List Int) (w : World) (hi : Ints w a n xs) :
    Calls Try.prog 23 #[.slice a n cap, .func (.func 22) #[] #[]] w fun e w' => ∃ r : Int, e = .returned (.int .i64 r) ∧ decide (0 ≤ r) = xs.any badB ∧ w' = w := by
  have hlen := hi.1
  have Hi := hide hi.2
  have Hlen := hide hlen
  have hl1 : xs.length ≤ n := by omega
  have hl2 : n ≤ xs.length := by omega
  clear hi hlen
  go_enter Try.func23, Try.ntmps23
  go_wp2
  go_loop [8] (fun v => ∃ k : Nat, k ≤ n ∧ v = .int .i64 k ∧ Hid (∀ i (h : i < xs.length), i < k → badB xs[i] = false)) (fun v => n - (intOf v).toNat)
  case atStart => exact ⟨0, by omega, rfl, hide (fun i h hk => absurd hk (by omega))⟩
  case round =>
    obtain ⟨k, hk, rfl, hb⟩ := hrel
    by_cases hlt : k < n
    · obtain ⟨b, off, rfl, hc⟩ := Hi.out k (by omega)
      cases hbad : badB (xs[k]'(by omega))
      · have Hbad := hide hbad
        clear hbad
        go_wp2_with (go_at_call 22; refine (bad_any _ _).mono ?_; rintro e w' ⟨rfl, rfl⟩; rw [Hbad.out])
        go_round
        case rel =>
          refine ⟨k + 1, by omega, by go_num, hide (fun i h hik => ?_)⟩
          by_cases e : i = k
          · subst e; exact Hbad.out
          · exact hb.out i h (by omega)
        case measure => simp [intOf]; omega
      · have Hbad := hide hbad
        clear hbad
        go_wp2_with (go_at_call 22; refine (bad_any _ _).mono ?_; rintro e w' ⟨rfl, rfl⟩; rw [Hbad.out])
        go_ret
        refine ⟨_, rfl, ?_, rfl⟩
        rw [decide_eq_true (by omega)]
        exact (List.any_eq_true.2 ⟨_, List.getElem_mem _, Hbad.out⟩).symm
    · go_wp2
      go_ret
      refine ⟨_, rfl, ?_, rfl⟩
      rw [decide_eq_false (by omega)]
      symm
      rw [List.any_eq_false]
      intro x hx
      obtain ⟨i, hi, rfl⟩ := List.getElem_of_mem hx
      rw [hb.out i hi (by omega)]
      simp

set_option maxHeartbeats 400000 in
theorem contains_any (a : Option Addr) (n cap : Nat) (hn : n ≤ 100) (xs : List Int) (w : World) (hi : Ints w a n xs) :
    Calls Try.prog 21 #[.slice a n cap, .func (.func 22) #[] #[]] w fun e w' => e = .returned (.bool (xs.any badB)) ∧ w' = w := by
  have Hi := hide hi
  clear hi
  go_enter Try.func21, Try.ntmps21
  go_wp2_with (go_at_call 23; refine (index_any _ _ _ hn _ _ Hi.out).mono ?_; rintro e w' ⟨r, rfl, hr, rfl⟩; (have Hr := hide hr; clear hr))
  go_ret
  exact ⟨by rw [← Hr.out]; rfl, rfl⟩


structure Cr where
  r : Int
  e : Int
  s : Int
  g : Int
  h : Int
def Cr.val (c : Cr) : Value := .agg #[.int .i64 c.r, .int .i64 c.e, .int .i64 c.s, .int .i64 c.g, .int .i64 c.h]
def idB (n : Int) : Bool := !badB n
def Cr.ok (c : Cr) : Bool := idB c.r && idB c.e && idB c.s && idB c.g && idB c.h

set_option maxHeartbeats 400000 in
theorem right_own (c : Cr) (w : World) (v : Value) (n : Nat) (hn : n ≤ 10) (xs : List Int) (base : Nat) (hown : w.ownsRow base 3 1 v n (xs.map (.int .i64))) (hbase : base ≤ w.heap.size) :
    Calls Try.prog 18 #[c.val, v] w fun e w' => e = .returned (.bool (!(xs ++ [c.r, c.e, c.s, c.g, c.h]).any badB)) ∧ w.grownBy w' v.ownBlock := by
  obtain ⟨r, e, s, g, h⟩ := c
  unfold Cr.val
  have Hown := hide hown
  clear hown
  go_enter Try.func18, Try.ntmps18
  have hcells : ∀ (w' : World) j u, ([r, e, s, g, h].map (Value.int .i64))[j]? = some u → (w'.alloc (.cells #[.int .i64 r, .int .i64 e, .int .i64 s, .int .i64 g, .int .i64 h] 3)).cell? ((⟨w'.heap.size, 0, none⟩ : Addr).add j) = some u := by
    intro w' j u hu
    rw [Addr.add_lit, World.cell?_alloc_new, Nat.zero_add]
    simpa using hu
  have Hcells := hide hcells
  clear hcells
  go_wp2_with ((with_reducible refine wpList_app base 3 (.int .i64 0) 1 8 Try.underlying41 info3 rfl (by omega) v n (xs.map (.int .i64)) ?hs ?hown ⟨w.heap.size + 1, 0, none⟩ 5 5 ([r, e, s, g, h].map (.int .i64)) ?hx rfl ?hnews (ints_oneCell _ _) ?h63 ?hbytes ?hbase ?_); (case hs => exact rfl); (case hown => exact (Hown.out.alloc _).alloc _); (case hx => exact rfl); (case hnews => (have h := Hcells.out (w.alloc (.cells #[.int .i64 r, .int .i64 e, .int .i64 s, .int .i64 g, .int .i64 h] 24)); simpa using h)); (case h63 => unfold maxLen; omega); (case hbytes => omega); (case hbase => simp; omega); intro v1 w1 hown1 hg1; (have Hown1 := hide hown1; have Hg1 := hide hg1; clear hown1 hg1))
  obtain ⟨a1, c1, rfl, hi1⟩ := Ints.of_own (xs := xs ++ [r, e, s, g, h]) (by rw [List.map_append]; exact Hown1.out)
  have Hi1 := hide hi1
  clear hi1
  go_wp2_with (go_at_call 21; (with_reducible refine (contains_any _ _ _ (by omega) _ _ Hi1.out).mono ?_); rintro e w' ⟨rfl, rfl⟩)
  go_ret
  exact ⟨by simp, only_trans (only_of_none (only_alloc (only_alloc (only_refl w none) _) _) _) Hg1.out⟩

theorem right_nil (c : Cr) (w : World) :
    Calls Try.prog 18 #[c.val, .slice none 0 0] w fun e w' => e = .returned (.bool c.ok) ∧ w.grownBy w' none := by
  have h := right_own c w (.slice none 0 0) 0 (by omega) [] w.heap.size ⟨rfl, .inl ⟨rfl, rfl⟩⟩ (Nat.le_refl _)
  have e : (!([] ++ [c.r, c.e, c.s, c.g, c.h]).any badB) = c.ok := by simp [Cr.ok, idB, Bool.and_assoc]
  rw [e] at h
  exact h
theorem right_one (c : Cr) (x : Int) (b : Nat) (w : World) (hb : Blk w b 3 #[.int .i64 x]) :
    Calls Try.prog 18 #[c.val, .slice (some ⟨b, 0, none⟩) 1 1] w fun e w' => e = .returned (.bool (c.ok && idB x)) ∧ w.grownBy w' (some b) := by
  have h := right_own c w (.slice (some ⟨b, 0, none⟩) 1 1) 1 (by omega) [x] 0 ⟨rfl, .inr ⟨b, 1, _, rfl, Nat.zero_le _, hb, by omega, by unfold maxLen; omega, rfl, rfl⟩⟩ (Nat.zero_le _)
  have e : (!([x] ++ [c.r, c.e, c.s, c.g, c.h]).any badB) = (c.ok && idB x) := by
    simp [Cr.ok, idB, Bool.and_assoc, Bool.and_comm]
  rw [e] at h
  exact h

set_option maxHeartbeats 400000 in
theorem of_any (u g : Int) (w : World) (ok : Bool) (hok : (⟨u, u, u, g, g⟩ : Cr).ok = ok) :
    Calls Try.prog 10 #[.int .i64 u, .int .i64 g] w fun e w' => e = .returned (.tuple #[if ok then (⟨u, u, u, g, g⟩ : Cr).val else (⟨0, 0, 0, 0, 0⟩ : Cr).val, .int .i64 (if ok then 0 else 1)]) ∧ w.grownBy w' none := by
  have Hok := hide hok
  clear hok
  cases ok
  all_goals
    go_enter Try.func10, Try.ntmps10
    go_wp2_with (go_at_call 18; refine (right_nil ⟨u, u, u, g, g⟩ _).mono ?_; rintro e w' ⟨rfl, hg⟩; rw [Hok.out]; (have Hg := hide hg; clear hg); (obtain ⟨⟨p0, p1, p2, p3, p4⟩, q0, q1, q2, q3, q4⟩ := (((Blk.new w 24 _).alloc _).grown Hg.out (by simp)).c5); (obtain ⟨⟨r0, r1, r2, r3, r4⟩, _⟩ := ((Blk.new1 w _ 24 _).grown Hg.out (by simp)).c5))
  · exact bodyPost_ret (v := .tuple #[(⟨0, 0, 0, 0, 0⟩ : Cr).val, .int .i64 1]) (by simp [results, Try.results10, go_sem, Cr.val, p0, p1, p2, p3, p4]) rfl ⟨rfl, (by repeat' (first | (with_reducible exact Hg.out) | (with_reducible refine none_setCell ?_ ?_ _) | (with_reducible refine none_trans ?_ Hg.out) | (with_reducible refine only_alloc ?_ _) | (with_reducible exact only_refl _ _) | (simp; done) | (simp; omega)))⟩
  · exact bodyPost_ret (v := .tuple #[(⟨u, u, u, g, g⟩ : Cr).val, .int .i64 0]) (by simp [results, Try.results10, go_sem, Cr.val, p0, p1, p2, p3, p4]) rfl ⟨rfl, (by repeat' (first | (with_reducible exact Hg.out) | (with_reducible refine none_setCell ?_ ?_ _) | (with_reducible refine none_trans ?_ Hg.out) | (with_reducible refine only_alloc ?_ _) | (with_reducible exact only_refl _ _) | (simp; done) | (simp; omega)))⟩

end Go.Proofs.Ytbmfghcechkncaa
