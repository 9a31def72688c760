/- The document's part. -/
import Derived.Test.YtgpfjcogaheopaaXM
set_option linter.all false
namespace Go.Proofs.Ytgpfjcogaheopaa.Lx
open Go.RowKit
set_option maxRecDepth 100000
theorem parts_nil (lv : Nat) (q : Bool) : partR lv q [] = .ok 0 := by
 have h : ¬ begs q [] = true := by
  rw [begs_iff]
  rintro (h | h | h | h | ⟨_, h | h⟩) <;> cases h
 cases lv with
 | zero => unfold partR; rw [if_neg h]
 | succ lv => unfold partR; rw [if_neg h]
theorem take1' {t : List UInt8} {c : UInt8} (h : 0 < t.length) (hc : t[0] = c) (d : UInt8) : (t.take 1 = [d]) ↔ c = d := by
 have := take1 (i := 0) h hc d
 rwa [List.drop_zero] at this
theorem take2c' {t : List UInt8} {c a b : UInt8} (h : 0 < t.length) (hc : t[0] = c) (h2 : t.take 2 = [a, b]) : c = a := by
 have := take2c (i := 0) (a := a) (b := b) h hc
 rw [List.drop_zero] at this
 exact this h2
/-- The value stands in the result's cell. -/
theorem resD {w : World} {b : Nat} {x y z u : Value} {tmps : Array Value} (h : Blk w b 61 #[x, y, z, u]) (t8 : tmps.getD 8 undef = .pointer (some ⟨b, 0, none⟩)) : (results Try.f47 tmps).run Try.prog w = .ok (.agg #[x, y, z, u]) w := by
 have f0 := Blk.cell h 0
 have f1 := Blk.cell h 1
 have f2 := Blk.cell h 2
 have f3 := Blk.cell h 3
 have t8' : tmps[8]?.getD undef = .pointer (some ⟨b, 0, none⟩) := by simpa using t8
 simp [results, Try.results47, go_sem, t8', f0, f1, f2, f3]
theorem isIn39 (c : UInt8) : isIn [39] c = (c == 39) := by
 unfold isIn
 by_cases h : c = 39
 ·subst h; decide
 ·have e1 : ((39 : UInt8) == c) = false := by rw [beq_eq_false_iff_ne]; exact fun e => h e.symm
  have e2 : (c == 39) = false := by rw [beq_eq_false_iff_ne]; exact h
  simp [Lib.indexByte, e1, e2]
theorem skip39a (c : UInt8) (h : c ≠ 34) : isIn [39] c = skipB false false c := by
 have : (c == 34) = false := by rw [beq_eq_false_iff_ne]; exact h
 rw [isIn39]; simp [skipB, this]
theorem skip39b (c : UInt8) : isIn [39] c = skipB false true c := by rw [isIn39]; simp [skipB]
theorem isIn0 (c : UInt8) : isIn [] c = false := by unfold isIn; simp [Lib.indexByte]
theorem skip0 (c : UInt8) : isIn [] c = skipB true true c := by rw [isIn0]; simp [skipB]
set_option maxHeartbeats 2000000 in
theorem pd_zbs (t : List UInt8) (q : Bool) (deep at_ : Nat) (w : World) (hd : 0 + deep = 25) (hs : t.length ≤ 1000000) (ha : at_ + t.length ≤ 2000000) (h0 : 0 < t.length) (hc0 : t[0] = 92) :
  Calls Try.prog 47 #[sv t, .bool q, .int .i64 deep, .int .i64 at_] w fun e w' => e = .returned (endsV at_ (partR 0 q t)) ∧ w.grownBy w' none := by
 have h1 := sz t
 have hB0 := Blk.new w 61 #[.int .i64 0, .bool false, .bool false, .int .i64 0]
 have hG0 : w.grownBy (w.alloc (.cells #[.int .i64 0, .bool false, .bool false, .int .i64 0] 61)) none := only_alloc (only_refl w none) _
 have hat := str_at' t 0 h0
 have hib : (0 : Int) < (t.length : Int) := by omega
 have he : t.isEmpty = false := by cases t with | nil => exact absurd h0 (Nat.lt_irrefl _) | cons => rfl
 obtain ⟨c, hc⟩ : ∃ c, t[0] = c := ⟨_, rfl⟩
 rw [hc] at hat
 have t1 := fun e => take1' h0 hc e
 have t2 := fun a b (hh : t.take 2 = [a, b]) => take2c' h0 hc hh
 have hB := begs_iff q t
 have Hb1 := hide (fun w' => begins_any t [36, 40] w' (by decide) (by omega))
 have Hb2 := hide (fun w' => begins_any t [36, 123] w' (by decide) (by omega))
 have Hb3 := hide (fun w' => begins_any t [36, 40, 40] w' (by decide) (by omega))
 unfold sv at Hb1 Hb2 Hb3
 simp only [List.length_cons, List.length_nil, Nat.zero_add, Nat.reduceAdd] at Hb1 Hb2 Hb3
 obtain rfl : c = 92 := hc.symm.trans hc0
 clear hc0
 have hbt : begs q t = true := hB.2 (.inl ((t1 92).2 rfl))
 have hpr : partR 0 q t = .deep 0 := by unfold partR; rw [if_pos hbt]
 rw [hpr]
 have qd : decide ((24 : Int) < (deep : Int)) = true := decide_eq_true (by omega)
 have tpos := h0
 clear hpr hbt t1 t2 hB hc
 unfold sv
 go_enter Try.func47, Try.ntmps47
 go_wp2_with fail
 exact bodyPost_ret (resD (Blk.new w 61 _) rfl) rfl ⟨by simp [endsV, endsL], only_alloc (only_refl w none) _⟩
set_option maxHeartbeats 2000000 in
theorem pd_zbq (t : List UInt8) (q : Bool) (deep at_ : Nat) (w : World) (hd : 0 + deep = 25) (hs : t.length ≤ 1000000) (ha : at_ + t.length ≤ 2000000) (h0 : 0 < t.length) (hc0 : t[0] = 96) :
  Calls Try.prog 47 #[sv t, .bool q, .int .i64 deep, .int .i64 at_] w fun e w' => e = .returned (endsV at_ (partR 0 q t)) ∧ w.grownBy w' none := by
 have h1 := sz t
 have hB0 := Blk.new w 61 #[.int .i64 0, .bool false, .bool false, .int .i64 0]
 have hG0 : w.grownBy (w.alloc (.cells #[.int .i64 0, .bool false, .bool false, .int .i64 0] 61)) none := only_alloc (only_refl w none) _
 have hat := str_at' t 0 h0
 have hib : (0 : Int) < (t.length : Int) := by omega
 have he : t.isEmpty = false := by cases t with | nil => exact absurd h0 (Nat.lt_irrefl _) | cons => rfl
 obtain ⟨c, hc⟩ : ∃ c, t[0] = c := ⟨_, rfl⟩
 rw [hc] at hat
 have t1 := fun e => take1' h0 hc e
 have t2 := fun a b (hh : t.take 2 = [a, b]) => take2c' h0 hc hh
 have hB := begs_iff q t
 have Hb1 := hide (fun w' => begins_any t [36, 40] w' (by decide) (by omega))
 have Hb2 := hide (fun w' => begins_any t [36, 123] w' (by decide) (by omega))
 have Hb3 := hide (fun w' => begins_any t [36, 40, 40] w' (by decide) (by omega))
 unfold sv at Hb1 Hb2 Hb3
 simp only [List.length_cons, List.length_nil, Nat.zero_add, Nat.reduceAdd] at Hb1 Hb2 Hb3
 obtain rfl : c = 96 := hc.symm.trans hc0
 clear hc0
 have hbt : begs q t = true := hB.2 (.inr (.inl ((t1 96).2 rfl)))
 have hpr : partR 0 q t = .deep 0 := by unfold partR; rw [if_pos hbt]
 rw [hpr]
 have qd : decide ((24 : Int) < (deep : Int)) = true := decide_eq_true (by omega)
 have tpos := h0
 clear hpr hbt t1 t2 hB hc
 unfold sv
 go_enter Try.func47, Try.ntmps47
 go_wp2_with fail
 exact bodyPost_ret (resD (Blk.new w 61 _) rfl) rfl ⟨by simp [endsV, endsL], only_alloc (only_refl w none) _⟩
set_option maxHeartbeats 2000000 in
theorem pd_zsq (t : List UInt8) (deep at_ : Nat) (w : World) (hd : 0 + deep = 25) (hs : t.length ≤ 1000000) (ha : at_ + t.length ≤ 2000000) (h0 : 0 < t.length) (hc0 : t[0] = 39) :
  Calls Try.prog 47 #[sv t, .bool false, .int .i64 deep, .int .i64 at_] w fun e w' => e = .returned (endsV at_ (partR 0 false t)) ∧ w.grownBy w' none := by
 have h1 := sz t
 have hB0 := Blk.new w 61 #[.int .i64 0, .bool false, .bool false, .int .i64 0]
 have hG0 : w.grownBy (w.alloc (.cells #[.int .i64 0, .bool false, .bool false, .int .i64 0] 61)) none := only_alloc (only_refl w none) _
 have hat := str_at' t 0 h0
 have hib : (0 : Int) < (t.length : Int) := by omega
 have he : t.isEmpty = false := by cases t with | nil => exact absurd h0 (Nat.lt_irrefl _) | cons => rfl
 obtain ⟨c, hc⟩ : ∃ c, t[0] = c := ⟨_, rfl⟩
 rw [hc] at hat
 have t1 := fun e => take1' h0 hc e
 have t2 := fun a b (hh : t.take 2 = [a, b]) => take2c' h0 hc hh
 have hB := begs_iff false t
 have Hb1 := hide (fun w' => begins_any t [36, 40] w' (by decide) (by omega))
 have Hb2 := hide (fun w' => begins_any t [36, 123] w' (by decide) (by omega))
 have Hb3 := hide (fun w' => begins_any t [36, 40, 40] w' (by decide) (by omega))
 unfold sv at Hb1 Hb2 Hb3
 simp only [List.length_cons, List.length_nil, Nat.zero_add, Nat.reduceAdd] at Hb1 Hb2 Hb3
 obtain rfl : c = 39 := hc.symm.trans hc0
 clear hc0
 have hbt : begs false t = true := hB.2 (.inr (.inr (.inr (.inr ⟨rfl, .inl ((t1 39).2 rfl)⟩))))
 have hpr : partR 0 false t = .deep 0 := by unfold partR; rw [if_pos hbt]
 rw [hpr]
 have qd : decide ((24 : Int) < (deep : Int)) = true := decide_eq_true (by omega)
 have tpos := h0
 clear hpr hbt t1 t2 hB hc
 unfold sv
 go_enter Try.func47, Try.ntmps47
 go_wp2_with fail
 exact bodyPost_ret (resD (Blk.new w 61 _) rfl) rfl ⟨by simp [endsV, endsL], only_alloc (only_refl w none) _⟩
set_option maxHeartbeats 2000000 in
theorem pd_zdq (t : List UInt8) (deep at_ : Nat) (w : World) (hd : 0 + deep = 25) (hs : t.length ≤ 1000000) (ha : at_ + t.length ≤ 2000000) (h0 : 0 < t.length) (hc0 : t[0] = 34) :
  Calls Try.prog 47 #[sv t, .bool false, .int .i64 deep, .int .i64 at_] w fun e w' => e = .returned (endsV at_ (partR 0 false t)) ∧ w.grownBy w' none := by
 have h1 := sz t
 have hB0 := Blk.new w 61 #[.int .i64 0, .bool false, .bool false, .int .i64 0]
 have hG0 : w.grownBy (w.alloc (.cells #[.int .i64 0, .bool false, .bool false, .int .i64 0] 61)) none := only_alloc (only_refl w none) _
 have hat := str_at' t 0 h0
 have hib : (0 : Int) < (t.length : Int) := by omega
 have he : t.isEmpty = false := by cases t with | nil => exact absurd h0 (Nat.lt_irrefl _) | cons => rfl
 obtain ⟨c, hc⟩ : ∃ c, t[0] = c := ⟨_, rfl⟩
 rw [hc] at hat
 have t1 := fun e => take1' h0 hc e
 have t2 := fun a b (hh : t.take 2 = [a, b]) => take2c' h0 hc hh
 have hB := begs_iff false t
 have Hb1 := hide (fun w' => begins_any t [36, 40] w' (by decide) (by omega))
 have Hb2 := hide (fun w' => begins_any t [36, 123] w' (by decide) (by omega))
 have Hb3 := hide (fun w' => begins_any t [36, 40, 40] w' (by decide) (by omega))
 unfold sv at Hb1 Hb2 Hb3
 simp only [List.length_cons, List.length_nil, Nat.zero_add, Nat.reduceAdd] at Hb1 Hb2 Hb3
 obtain rfl : c = 34 := hc.symm.trans hc0
 clear hc0
 have hbt : begs false t = true := hB.2 (.inr (.inr (.inr (.inr ⟨rfl, .inr ((t1 34).2 rfl)⟩))))
 have hpr : partR 0 false t = .deep 0 := by unfold partR; rw [if_pos hbt]
 rw [hpr]
 have qd : decide ((24 : Int) < (deep : Int)) = true := decide_eq_true (by omega)
 have tpos := h0
 clear hpr hbt t1 t2 hB hc
 unfold sv
 go_enter Try.func47, Try.ntmps47
 go_wp2_with fail
 exact bodyPost_ret (resD (Blk.new w 61 _) rfl) rfl ⟨by simp [endsV, endsL], only_alloc (only_refl w none) _⟩
set_option maxHeartbeats 2000000 in
theorem pd_zpa (t : List UInt8) (q : Bool) (deep at_ : Nat) (w : World) (hd : 0 + deep = 25) (hs : t.length ≤ 1000000) (ha : at_ + t.length ≤ 2000000) (h0 : 0 < t.length) (b1 : t.take 2 = [36, 40]) :
  Calls Try.prog 47 #[sv t, .bool q, .int .i64 deep, .int .i64 at_] w fun e w' => e = .returned (endsV at_ (partR 0 q t)) ∧ w.grownBy w' none := by
 have h1 := sz t
 have hB0 := Blk.new w 61 #[.int .i64 0, .bool false, .bool false, .int .i64 0]
 have hG0 : w.grownBy (w.alloc (.cells #[.int .i64 0, .bool false, .bool false, .int .i64 0] 61)) none := only_alloc (only_refl w none) _
 have hat := str_at' t 0 h0
 have hib : (0 : Int) < (t.length : Int) := by omega
 have he : t.isEmpty = false := by cases t with | nil => exact absurd h0 (Nat.lt_irrefl _) | cons => rfl
 obtain ⟨c, hc⟩ : ∃ c, t[0] = c := ⟨_, rfl⟩
 rw [hc] at hat
 have t1 := fun e => take1' h0 hc e
 have t2 := fun a b (hh : t.take 2 = [a, b]) => take2c' h0 hc hh
 have hB := begs_iff q t
 have Hb1 := hide (fun w' => begins_any t [36, 40] w' (by decide) (by omega))
 have Hb2 := hide (fun w' => begins_any t [36, 123] w' (by decide) (by omega))
 have Hb3 := hide (fun w' => begins_any t [36, 40, 40] w' (by decide) (by omega))
 unfold sv at Hb1 Hb2 Hb3
 simp only [List.length_cons, List.length_nil, Nat.zero_add, Nat.reduceAdd] at Hb1 Hb2 Hb3
 obtain rfl : c = 36 := t2 _ _ b1
 have hbt : begs q t = true := hB.2 (.inr (.inr (.inl b1)))
 have HB1 := hide (show ∀ w2, Calls Try.prog 26 #[.string ⟨t.toArray⟩, .string ⟨#[36, 40]⟩] w2 fun e w3 => e = .returned (.bool true) ∧ w3 = w2 from fun w2 => by have := Hb1.out w2; rw [decide_eq_true b1] at this; exact this)
 have hpr : partR 0 q t = .deep 0 := by unfold partR; rw [if_pos hbt]
 rw [hpr]
 have qd : decide ((24 : Int) < (deep : Int)) = true := decide_eq_true (by omega)
 have tpos := h0
 clear hpr hbt t1 t2 hB hc b1
 cases q
 all_goals
  unfold sv
  go_enter Try.func47, Try.ntmps47
  go_wp2_with fail
  refine (HB1.out _).mono ?_
  rintro e w2 ⟨rfl, rfl⟩
  go_wp2_with fail
  exact bodyPost_ret (resD (Blk.new w 61 _) rfl) rfl ⟨by simp [endsV, endsL], only_alloc (only_refl w none) _⟩
set_option maxHeartbeats 2000000 in
theorem pd_zbr (t : List UInt8) (q : Bool) (deep at_ : Nat) (w : World) (hd : 0 + deep = 25) (hs : t.length ≤ 1000000) (ha : at_ + t.length ≤ 2000000) (h0 : 0 < t.length) (b2 : t.take 2 = [36, 123]) :
  Calls Try.prog 47 #[sv t, .bool q, .int .i64 deep, .int .i64 at_] w fun e w' => e = .returned (endsV at_ (partR 0 q t)) ∧ w.grownBy w' none := by
 have h1 := sz t
 have hB0 := Blk.new w 61 #[.int .i64 0, .bool false, .bool false, .int .i64 0]
 have hG0 : w.grownBy (w.alloc (.cells #[.int .i64 0, .bool false, .bool false, .int .i64 0] 61)) none := only_alloc (only_refl w none) _
 have hat := str_at' t 0 h0
 have hib : (0 : Int) < (t.length : Int) := by omega
 have he : t.isEmpty = false := by cases t with | nil => exact absurd h0 (Nat.lt_irrefl _) | cons => rfl
 obtain ⟨c, hc⟩ : ∃ c, t[0] = c := ⟨_, rfl⟩
 rw [hc] at hat
 have t1 := fun e => take1' h0 hc e
 have t2 := fun a b (hh : t.take 2 = [a, b]) => take2c' h0 hc hh
 have hB := begs_iff q t
 have Hb1 := hide (fun w' => begins_any t [36, 40] w' (by decide) (by omega))
 have Hb2 := hide (fun w' => begins_any t [36, 123] w' (by decide) (by omega))
 have Hb3 := hide (fun w' => begins_any t [36, 40, 40] w' (by decide) (by omega))
 unfold sv at Hb1 Hb2 Hb3
 simp only [List.length_cons, List.length_nil, Nat.zero_add, Nat.reduceAdd] at Hb1 Hb2 Hb3
 obtain rfl : c = 36 := t2 _ _ b2
 have b1 : ¬ t.take 2 = [36, 40] := fun hh => by rw [b2] at hh; exact absurd hh (by decide)
 have b3 : ¬ t.take 3 = [36, 40, 40] := fun hh => b1 (take3_2 hh)
 have hbt : begs q t = true := hB.2 (.inr (.inr (.inr (.inl b2))))
 have HB1 := hide (show ∀ w2, Calls Try.prog 26 #[.string ⟨t.toArray⟩, .string ⟨#[36, 40]⟩] w2 fun e w3 => e = .returned (.bool false) ∧ w3 = w2 from fun w2 => by have := Hb1.out w2; rw [decide_eq_false b1] at this; exact this)
 have HB2 := hide (show ∀ w2, Calls Try.prog 26 #[.string ⟨t.toArray⟩, .string ⟨#[36, 123]⟩] w2 fun e w3 => e = .returned (.bool true) ∧ w3 = w2 from fun w2 => by have := Hb2.out w2; rw [decide_eq_true b2] at this; exact this)
 have HB3 := hide (show ∀ w2, Calls Try.prog 26 #[.string ⟨t.toArray⟩, .string ⟨#[36, 40, 40]⟩] w2 fun e w3 => e = .returned (.bool false) ∧ w3 = w2 from fun w2 => by have := Hb3.out w2; rw [decide_eq_false b3] at this; exact this)
 have hpr : partR 0 q t = .deep 0 := by unfold partR; rw [if_pos hbt]
 rw [hpr]
 have qd : decide ((24 : Int) < (deep : Int)) = true := decide_eq_true (by omega)
 have tpos := h0
 clear hpr hbt t1 t2 hB hc b1 b2 b3
 cases q
 all_goals
  unfold sv
  go_enter Try.func47, Try.ntmps47
  go_wp2_with fail
  refine (HB1.out _).mono ?_
  rintro e w2 ⟨rfl, rfl⟩
  go_wp2_with fail
  refine (HB2.out _).mono ?_
  rintro e w2 ⟨rfl, rfl⟩
  go_wp2_with fail
  exact bodyPost_ret (resD (Blk.new w 61 _) rfl) rfl ⟨by simp [endsV, endsL], only_alloc (only_refl w none) _⟩
set_option maxHeartbeats 4000000 in
theorem pd_sbs (lv : Nat) (_ih : PartD lv) (t : List UInt8) (q : Bool) (deep at_ : Nat) (w : World) (hd : lv + 1 + deep = 25) (hs : t.length ≤ 1000000) (ha : at_ + t.length ≤ 2000000) (h0 : 0 < t.length) (hc0 : t[0] = 92) :
  Calls Try.prog 47 #[sv t, .bool q, .int .i64 deep, .int .i64 at_] w fun e w' => e = .returned (endsV at_ (partR (lv + 1) q t)) ∧ w.grownBy w' none := by
 have h1 := sz t
 have hB0 := Blk.new w 61 #[.int .i64 0, .bool false, .bool false, .int .i64 0]
 have hG0 : w.grownBy (w.alloc (.cells #[.int .i64 0, .bool false, .bool false, .int .i64 0] 61)) none := only_alloc (only_refl w none) _
 have hat := str_at' t 0 h0
 have hib : (0 : Int) < (t.length : Int) := by omega
 have he : t.isEmpty = false := by cases t with | nil => exact absurd h0 (Nat.lt_irrefl _) | cons => rfl
 obtain ⟨c, hc⟩ : ∃ c, t[0] = c := ⟨_, rfl⟩
 rw [hc] at hat
 have t1 := fun e => take1' h0 hc e
 have t2 := fun a b (hh : t.take 2 = [a, b]) => take2c' h0 hc hh
 have hB := begs_iff q t
 have Hb1 := hide (fun w' => begins_any t [36, 40] w' (by decide) (by omega))
 have Hb2 := hide (fun w' => begins_any t [36, 123] w' (by decide) (by omega))
 have Hb3 := hide (fun w' => begins_any t [36, 40, 40] w' (by decide) (by omega))
 unfold sv at Hb1 Hb2 Hb3
 simp only [List.length_cons, List.length_nil, Nat.zero_add, Nat.reduceAdd] at Hb1 Hb2 Hb3
 obtain rfl : c = 92 := hc.symm.trans hc0
 clear hc0
 have hbt : begs q t = true := hB.2 (.inl ((t1 92).2 rfl))
 have qd : decide ((24 : Int) < (deep : Int)) = false := decide_eq_false (by omega)
 obtain ⟨R, hR⟩ : ∃ R, partR (lv + 1) q t = R := ⟨_, rfl⟩
 have Hpr := hide (show partR (lv + 1) q t = if t.length < 2 then .more else .ok 2 by unfold partR; rw [if_pos hbt, if_pos ((t1 92).2 rfl)])
 rw [hR]
 have hR2 := hR
 rw [Hpr.out] at hR2
 clear Hpr hR hbt t1 t2 hB hc
 by_cases hl2 : t.length < 2
 ·have q2 : decide ((t.length : Int) < 2) = true := decide_eq_true (by omega)
  rw [if_pos hl2] at hR2
  subst hR2
  unfold sv
  go_enter Try.func47, Try.ntmps47
  go_wp2_with fail
  exact bodyPost_ret (resD (Blk.new w 61 _) rfl) rfl ⟨by simp [endsV, endsL], only_alloc (only_refl w none) _⟩
 ·have q2 : decide ((t.length : Int) < 2) = false := decide_eq_false (by omega)
  rw [if_neg hl2] at hR2
  subst hR2
  unfold sv
  go_enter Try.func47, Try.ntmps47
  go_wp2_with fail
  exact bodyPost_ret (resD (Blk.new w 61 _) rfl) rfl ⟨by simp [endsV, endsL], only_alloc (only_refl w none) _⟩
set_option maxHeartbeats 4000000 in
theorem pd_sbq (lv : Nat) (_ih : PartD lv) (t : List UInt8) (q : Bool) (deep at_ : Nat) (w : World) (hd : lv + 1 + deep = 25) (hs : t.length ≤ 1000000) (ha : at_ + t.length ≤ 2000000) (h0 : 0 < t.length) (hc0 : t[0] = 96) :
  Calls Try.prog 47 #[sv t, .bool q, .int .i64 deep, .int .i64 at_] w fun e w' => e = .returned (endsV at_ (partR (lv + 1) q t)) ∧ w.grownBy w' none := by
 have h1 := sz t
 have hB0 := Blk.new w 61 #[.int .i64 0, .bool false, .bool false, .int .i64 0]
 have hG0 : w.grownBy (w.alloc (.cells #[.int .i64 0, .bool false, .bool false, .int .i64 0] 61)) none := only_alloc (only_refl w none) _
 have hat := str_at' t 0 h0
 have hib : (0 : Int) < (t.length : Int) := by omega
 have he : t.isEmpty = false := by cases t with | nil => exact absurd h0 (Nat.lt_irrefl _) | cons => rfl
 obtain ⟨c, hc⟩ : ∃ c, t[0] = c := ⟨_, rfl⟩
 rw [hc] at hat
 have t1 := fun e => take1' h0 hc e
 have t2 := fun a b (hh : t.take 2 = [a, b]) => take2c' h0 hc hh
 have hB := begs_iff q t
 have Hb1 := hide (fun w' => begins_any t [36, 40] w' (by decide) (by omega))
 have Hb2 := hide (fun w' => begins_any t [36, 123] w' (by decide) (by omega))
 have Hb3 := hide (fun w' => begins_any t [36, 40, 40] w' (by decide) (by omega))
 unfold sv at Hb1 Hb2 Hb3
 simp only [List.length_cons, List.length_nil, Nat.zero_add, Nat.reduceAdd] at Hb1 Hb2 Hb3
 obtain rfl : c = 96 := hc.symm.trans hc0
 clear hc0
 have hbt : begs q t = true := hB.2 (.inr (.inl ((t1 96).2 rfl)))
 have qd : decide ((24 : Int) < (deep : Int)) = false := decide_eq_false (by omega)
 obtain ⟨R, hR⟩ : ∃ R, partR (lv + 1) q t = R := ⟨_, rfl⟩
 have Hpr := hide (show partR (lv + 1) q t = (untilR 96 true (t.drop 1)).add 1 by unfold partR; rw [if_pos hbt, if_neg (fun hh => absurd ((t1 92).1 hh) (by decide)), if_pos ((t1 96).2 rfl)])
 rw [hR]
 have hR := hide hR
 clear hbt t1 t2 hB hc
 unfold sv
 go_enter Try.func47, Try.ntmps47
 go_wp2_with fail
 go_loopw [12] (fun vi wr => ∃ k : Nat, vi = .int .i64 k ∧ k ≤ t.length + 1 ∧ Blk wr w.heap.size 61 #[.int .i64 0, .bool false, .bool false, .int .i64 0] ∧ w.grownBy wr none ∧ (untilR 96 true (t.drop k)).add k = R) (fun vi _ => t.length + 2 - (intOf vi).toNat)
 case atStart => exact ⟨1, rfl, by omega, hB0, hG0, by rw [← Hpr.out, hR.out]⟩
 case round =>
  obtain ⟨k, rfl, hk, hB, hG, hres⟩ := hrel
  have HB := hide hB
  have HG := hide hG
  have HR := hide hres
  have d0 := Blk.cell hB 0
  have d1 := Blk.cell hB 1
  have d2 := Blk.cell hB 2
  have d3 := Blk.cell hB 3
  have z0 := Blk.frozen hB 0
  have z1 := Blk.frozen hB 1
  have z2 := Blk.frozen hB 2
  have z3 := Blk.frozen hB 3
  have lb := Blk.lt hB
  clear hB hG hres hR hat hib
  by_cases hlt2 : k < t.length
  ·have q0 : decide ((k : Int) < (t.length : Int)) = true := decide_eq_true (by omega)
   have hat := str_at' t k hlt2
   have hib : (0 : Int) ≤ k ∧ (k : Int) < (t.length : Int) := by omega
   have hdr := drop_at hlt2
   obtain ⟨b, hb⟩ : ∃ b, t[k] = b := ⟨_, rfl⟩
   rw [hb] at hat hdr
   by_cases h92 : b = 92
   ·subst h92
    have Hst := hide (show untilR 96 true (t.drop k) = (untilR 96 true (t.drop (k + 2))).add 2 by rw [hdr, until_esc ⟨rfl, rfl⟩, List.drop_drop])
    clear hdr hb
    go_wp2_with fail
    go_roundw
    case rel => exact ⟨k + 2, by go_num, by omega, HB.out, HG.out, by rw [← HR.out, Hst.out, Rs.add_add]⟩
    case measure => simp [intOf]; omega
   have q92 : ((b.toNat : Int) == 92) = false := byte_ne (d := 92) h92
   by_cases hbc : b = 96
   ·subst hbc
    have Hst := hide (show untilR 96 true (t.drop k) = .ok 1 by rw [hdr]; exact until_hit (fun h => absurd h.2 h92) rfl)
    clear hdr hb
    go_wp2_with fail
    exact bodyPost_ret (resD (fin4 HB.out _ _ _ _) rfl) rfl ⟨by rw [← HR.out, Hst.out]; simp [endsV, endsL, Rs.add], gr4 HG.out (Nat.le_refl _) _ _ _ _⟩
   ·have qb : ((b.toNat : Int) == 96) = false := byte_ne (d := 96) hbc
    have Hst := hide (show untilR 96 true (t.drop k) = (untilR 96 true (t.drop (k + 1))).add 1 by rw [hdr]; exact until_no (fun h => absurd h.2 h92) hbc)
    clear hdr hb hbc h92
    go_wp2_with fail
    go_roundw
    case rel => exact ⟨k + 1, by go_num, by omega, HB.out, HG.out, by rw [← HR.out, Hst.out, Rs.add_add]⟩
    case measure => simp [intOf]; omega
  ·have q0 : decide ((k : Int) < (t.length : Int)) = false := decide_eq_false (by omega)
   have hRm : R = .more := by
    have := HR.out
    rw [List.drop_eq_nil_of_le (by omega)] at this
    exact this.symm
   subst hRm
   go_wp2_with fail
   exact bodyPost_ret (resD (fin4 HB.out _ _ _ _) rfl) rfl ⟨by simp [endsV, endsL], gr4 HG.out (Nat.le_refl _) _ _ _ _⟩
set_option maxHeartbeats 4000000 in
theorem pd_ssq (lv : Nat) (_ih : PartD lv) (t : List UInt8) (deep at_ : Nat) (w : World) (hd : lv + 1 + deep = 25) (hs : t.length ≤ 1000000) (ha : at_ + t.length ≤ 2000000) (h0 : 0 < t.length) (hc0 : t[0] = 39) :
  Calls Try.prog 47 #[sv t, .bool false, .int .i64 deep, .int .i64 at_] w fun e w' => e = .returned (endsV at_ (partR (lv + 1) false t)) ∧ w.grownBy w' none := by
 have h1 := sz t
 have hB0 := Blk.new w 61 #[.int .i64 0, .bool false, .bool false, .int .i64 0]
 have hG0 : w.grownBy (w.alloc (.cells #[.int .i64 0, .bool false, .bool false, .int .i64 0] 61)) none := only_alloc (only_refl w none) _
 have hat := str_at' t 0 h0
 have hib : (0 : Int) < (t.length : Int) := by omega
 have he : t.isEmpty = false := by cases t with | nil => exact absurd h0 (Nat.lt_irrefl _) | cons => rfl
 obtain ⟨c, hc⟩ : ∃ c, t[0] = c := ⟨_, rfl⟩
 rw [hc] at hat
 have t1 := fun e => take1' h0 hc e
 have t2 := fun a b (hh : t.take 2 = [a, b]) => take2c' h0 hc hh
 have hB := begs_iff false t
 have Hb1 := hide (fun w' => begins_any t [36, 40] w' (by decide) (by omega))
 have Hb2 := hide (fun w' => begins_any t [36, 123] w' (by decide) (by omega))
 have Hb3 := hide (fun w' => begins_any t [36, 40, 40] w' (by decide) (by omega))
 unfold sv at Hb1 Hb2 Hb3
 simp only [List.length_cons, List.length_nil, Nat.zero_add, Nat.reduceAdd] at Hb1 Hb2 Hb3
 obtain rfl : c = 39 := hc.symm.trans hc0
 clear hc0
 have hbt : begs false t = true := hB.2 (.inr (.inr (.inr (.inr ⟨rfl, .inl ((t1 39).2 rfl)⟩))))
 have qd : decide ((24 : Int) < (deep : Int)) = false := decide_eq_false (by omega)
 obtain ⟨R, hR⟩ : ∃ R, partR (lv + 1) false t = R := ⟨_, rfl⟩
 have Hpr := hide (show partR (lv + 1) false t = (untilR 39 false (t.drop 1)).add 1 by unfold partR; rw [if_pos hbt, if_neg (fun hh => absurd ((t1 92).1 hh) (by decide)), if_neg (fun hh => absurd ((t1 96).1 hh) (by decide)), if_pos ((t1 39).2 rfl)])
 rw [hR]
 have hR := hide hR
 clear hbt t1 t2 hB hc
 unfold sv
 go_enter Try.func47, Try.ntmps47
 go_wp2_with fail
 go_loopw [11] (fun vi wr => ∃ k : Nat, vi = .int .i64 k ∧ k ≤ t.length + 1 ∧ Blk wr w.heap.size 61 #[.int .i64 0, .bool false, .bool false, .int .i64 0] ∧ w.grownBy wr none ∧ (untilR 39 false (t.drop k)).add k = R) (fun vi _ => t.length + 2 - (intOf vi).toNat)
 case atStart => exact ⟨1, rfl, by omega, hB0, hG0, by rw [← Hpr.out, hR.out]⟩
 case round =>
  obtain ⟨k, rfl, hk, hB, hG, hres⟩ := hrel
  have HB := hide hB
  have HG := hide hG
  have HR := hide hres
  have d0 := Blk.cell hB 0
  have d1 := Blk.cell hB 1
  have d2 := Blk.cell hB 2
  have d3 := Blk.cell hB 3
  have z0 := Blk.frozen hB 0
  have z1 := Blk.frozen hB 1
  have z2 := Blk.frozen hB 2
  have z3 := Blk.frozen hB 3
  have lb := Blk.lt hB
  clear hB hG hres hR hat hib
  by_cases hlt2 : k < t.length
  ·have q0 : decide ((k : Int) < (t.length : Int)) = true := decide_eq_true (by omega)
   have hat := str_at' t k hlt2
   have hib : (0 : Int) ≤ k ∧ (k : Int) < (t.length : Int) := by omega
   have hdr := drop_at hlt2
   obtain ⟨b, hb⟩ : ∃ b, t[k] = b := ⟨_, rfl⟩
   rw [hb] at hat hdr
   by_cases hbc : b = 39
   ·subst hbc
    have Hst := hide (show untilR 39 false (t.drop k) = .ok 1 by rw [hdr]; exact until_hit (fun h => Bool.false_ne_true h.1) rfl)
    clear hdr hb
    go_wp2_with fail
    exact bodyPost_ret (resD (fin4 HB.out _ _ _ _) rfl) rfl ⟨by rw [← HR.out, Hst.out]; simp [endsV, endsL, Rs.add], gr4 HG.out (Nat.le_refl _) _ _ _ _⟩
   ·have qb : ((b.toNat : Int) == 39) = false := byte_ne (d := 39) hbc
    have Hst := hide (show untilR 39 false (t.drop k) = (untilR 39 false (t.drop (k + 1))).add 1 by rw [hdr]; exact until_no (fun h => Bool.false_ne_true h.1) hbc)
    clear hdr hb hbc
    go_wp2_with fail
    go_roundw
    case rel => exact ⟨k + 1, by go_num, by omega, HB.out, HG.out, by rw [← HR.out, Hst.out, Rs.add_add]⟩
    case measure => simp [intOf]; omega
  ·have q0 : decide ((k : Int) < (t.length : Int)) = false := decide_eq_false (by omega)
   have hRm : R = .more := by
    have := HR.out
    rw [List.drop_eq_nil_of_le (by omega)] at this
    exact this.symm
   subst hRm
   go_wp2_with fail
   exact bodyPost_ret (resD (fin4 HB.out _ _ _ _) rfl) rfl ⟨by simp [endsV, endsL], gr4 HG.out (Nat.le_refl _) _ _ _ _⟩
set_option maxHeartbeats 4000000 in
theorem pd_sdq (lv : Nat) (ih : PartD lv) (t : List UInt8) (deep at_ : Nat) (w : World) (hd : lv + 1 + deep = 25) (hs : t.length ≤ 1000000) (ha : at_ + t.length ≤ 2000000) (h0 : 0 < t.length) (hc0 : t[0] = 34) :
  Calls Try.prog 47 #[sv t, .bool false, .int .i64 deep, .int .i64 at_] w fun e w' => e = .returned (endsV at_ (partR (lv + 1) false t)) ∧ w.grownBy w' none := by
 have h1 := sz t
 have hB0 := Blk.new w 61 #[.int .i64 0, .bool false, .bool false, .int .i64 0]
 have hG0 : w.grownBy (w.alloc (.cells #[.int .i64 0, .bool false, .bool false, .int .i64 0] 61)) none := only_alloc (only_refl w none) _
 have hat := str_at' t 0 h0
 have hib : (0 : Int) < (t.length : Int) := by omega
 have he : t.isEmpty = false := by cases t with | nil => exact absurd h0 (Nat.lt_irrefl _) | cons => rfl
 obtain ⟨c, hc⟩ : ∃ c, t[0] = c := ⟨_, rfl⟩
 rw [hc] at hat
 have t1 := fun e => take1' h0 hc e
 have t2 := fun a b (hh : t.take 2 = [a, b]) => take2c' h0 hc hh
 have hB := begs_iff false t
 have Hb1 := hide (fun w' => begins_any t [36, 40] w' (by decide) (by omega))
 have Hb2 := hide (fun w' => begins_any t [36, 123] w' (by decide) (by omega))
 have Hb3 := hide (fun w' => begins_any t [36, 40, 40] w' (by decide) (by omega))
 unfold sv at Hb1 Hb2 Hb3
 simp only [List.length_cons, List.length_nil, Nat.zero_add, Nat.reduceAdd] at Hb1 Hb2 Hb3
 obtain rfl : c = 34 := hc.symm.trans hc0
 clear hc0
 have hbt : begs false t = true := hB.2 (.inr (.inr (.inr (.inr ⟨rfl, .inr ((t1 34).2 rfl)⟩))))
 have qd : decide ((24 : Int) < (deep : Int)) = false := decide_eq_false (by omega)
 obtain ⟨R, hR⟩ : ∃ R, partR (lv + 1) false t = R := ⟨_, rfl⟩
 have Hpr := hide (show partR (lv + 1) false t = (withinR (partR lv true) 34 [39] 0 (t.drop 1)).add 1 by unfold partR; rw [if_pos hbt, if_neg (fun hh => absurd ((t1 92).1 hh) (by decide)), if_neg (fun hh => absurd ((t1 96).1 hh) (by decide)), if_neg (fun hh => absurd ((t1 39).1 hh) (by decide)), if_pos ((t1 34).2 rfl)])
 have Hin := hide (show ∀ w2, Calls Try.prog 59 #[.string ⟨t.toArray⟩, .int .i64 1, .int .u8 34, .int .u8 0, .bool false, .bool false, .bool true, .int .i64 deep, .int .i64 at_] w2 fun e w3 => e = .returned (endsV at_ R) ∧ w2.grownBy w3 none from fun w2 => by
  have := inner_any lv ih t 1 34 0 false false true [39] deep at_ w2 (by omega) hs ha (by omega) (skip39a) (by decide)
  rw [← Hpr.out, hR] at this
  exact this)
 rw [hR]
 clear hR Hpr hbt t1 t2 hB hc
 unfold sv
 go_enter Try.func47, Try.ntmps47
 go_wp2_with fail
 refine (Hin.out _).mono ?_
 rintro e w9 ⟨rfl, hg9⟩
 have HB9 := hide (Blk.grown hB0 hg9 (by simp))
 have HG9 := hide (none_trans hG0 hg9)
 have d0 := Blk.cell HB9.out 0
 have d1 := Blk.cell HB9.out 1
 have d2 := Blk.cell HB9.out 2
 have d3 := Blk.cell HB9.out 3
 have z0 := Blk.frozen HB9.out 0
 have z1 := Blk.frozen HB9.out 1
 have z2 := Blk.frozen HB9.out 2
 have z3 := Blk.frozen HB9.out 3
 have lb := Blk.lt HB9.out
 clear hg9
 unfold endsV
 cases R
 all_goals
  unfold endsL
  go_wp2_with fail
  exact bodyPost_ret (resD (fin4 HB9.out _ _ _ _) rfl) rfl ⟨rfl, gr4 HG9.out (Nat.le_refl _) _ _ _ _⟩
set_option maxHeartbeats 4000000 in
theorem pd_spa (lv : Nat) (ih : PartD lv) (t : List UInt8) (q : Bool) (deep at_ : Nat) (w : World) (hd : lv + 1 + deep = 25) (hs : t.length ≤ 1000000) (ha : at_ + t.length ≤ 2000000) (h0 : 0 < t.length) (b1 : t.take 2 = [36, 40]) (b3 : ¬ t.take 3 = [36, 40, 40]) :
  Calls Try.prog 47 #[sv t, .bool q, .int .i64 deep, .int .i64 at_] w fun e w' => e = .returned (endsV at_ (partR (lv + 1) q t)) ∧ w.grownBy w' none := by
 have h1 := sz t
 have hB0 := Blk.new w 61 #[.int .i64 0, .bool false, .bool false, .int .i64 0]
 have hG0 : w.grownBy (w.alloc (.cells #[.int .i64 0, .bool false, .bool false, .int .i64 0] 61)) none := only_alloc (only_refl w none) _
 have hat := str_at' t 0 h0
 have hib : (0 : Int) < (t.length : Int) := by omega
 have he : t.isEmpty = false := by cases t with | nil => exact absurd h0 (Nat.lt_irrefl _) | cons => rfl
 obtain ⟨c, hc⟩ : ∃ c, t[0] = c := ⟨_, rfl⟩
 rw [hc] at hat
 have t1 := fun e => take1' h0 hc e
 have t2 := fun a b (hh : t.take 2 = [a, b]) => take2c' h0 hc hh
 have hB := begs_iff q t
 have Hb1 := hide (fun w' => begins_any t [36, 40] w' (by decide) (by omega))
 have Hb2 := hide (fun w' => begins_any t [36, 123] w' (by decide) (by omega))
 have Hb3 := hide (fun w' => begins_any t [36, 40, 40] w' (by decide) (by omega))
 unfold sv at Hb1 Hb2 Hb3
 simp only [List.length_cons, List.length_nil, Nat.zero_add, Nat.reduceAdd] at Hb1 Hb2 Hb3
 obtain rfl : c = 36 := t2 _ _ b1
 have hbt : begs q t = true := hB.2 (.inr (.inr (.inl b1)))
 have HB1 := hide (show ∀ w2, Calls Try.prog 26 #[.string ⟨t.toArray⟩, .string ⟨#[36, 40]⟩] w2 fun e w3 => e = .returned (.bool true) ∧ w3 = w2 from fun w2 => by have := Hb1.out w2; rw [decide_eq_true b1] at this; exact this)
 have HB3 := hide (show ∀ w2, Calls Try.prog 26 #[.string ⟨t.toArray⟩, .string ⟨#[36, 40, 40]⟩] w2 fun e w3 => e = .returned (.bool false) ∧ w3 = w2 from fun w2 => by have := Hb3.out w2; rw [decide_eq_false b3] at this; exact this)
 have qd : decide ((24 : Int) < (deep : Int)) = false := decide_eq_false (by omega)
 obtain ⟨R, hR⟩ : ∃ R, partR (lv + 1) q t = R := ⟨_, rfl⟩
 have tl2 : 2 ≤ t.length := by have := take_len b1; simpa using this
 have Hpr := hide (show partR (lv + 1) q t = (withinR (partR lv false) 41 [] 0 (t.drop 2)).add 2 by unfold partR; rw [if_pos hbt, if_neg (fun hh => absurd ((t1 92).1 hh) (by decide)), if_neg (fun hh => absurd ((t1 96).1 hh) (by decide)), if_neg (fun hh => absurd ((t1 39).1 hh) (by decide)), if_neg (fun hh => absurd ((t1 34).1 hh) (by decide)), if_neg b3, if_pos b1])
 have Hin := hide (show ∀ w2, Calls Try.prog 59 #[.string ⟨t.toArray⟩, .int .i64 2, .int .u8 41, .int .u8 40, .bool true, .bool true, .bool false, .int .i64 deep, .int .i64 at_] w2 fun e w3 => e = .returned (endsV at_ R) ∧ w2.grownBy w3 none from fun w2 => by
  have := inner_any lv ih t 2 41 40 true true false [] deep at_ w2 (by omega) hs ha (by omega) (fun c _ => skip0 c) (by decide)
  rw [← Hpr.out, hR] at this
  exact this)
 rw [hR]
 clear hR Hpr hbt t1 t2 hB hc b1 b3
 cases q
 all_goals
  unfold sv
  go_enter Try.func47, Try.ntmps47
  go_wp2_with fail
  refine (HB1.out _).mono ?_
  rintro e w2 ⟨rfl, rfl⟩
  go_wp2_with fail
  refine (HB3.out _).mono ?_
  rintro e w2 ⟨rfl, rfl⟩
  go_wp2_with fail
  refine (HB1.out _).mono ?_
  rintro e w2 ⟨rfl, rfl⟩
  go_wp2_with fail
  refine (Hin.out _).mono ?_
  rintro e w9 ⟨rfl, hg9⟩
  have HB9 := hide (Blk.grown hB0 hg9 (by simp))
  have HG9 := hide (none_trans hG0 hg9)
  have d0 := Blk.cell HB9.out 0
  have d1 := Blk.cell HB9.out 1
  have d2 := Blk.cell HB9.out 2
  have d3 := Blk.cell HB9.out 3
  have z0 := Blk.frozen HB9.out 0
  have z1 := Blk.frozen HB9.out 1
  have z2 := Blk.frozen HB9.out 2
  have z3 := Blk.frozen HB9.out 3
  have lb := Blk.lt HB9.out
  clear hg9
  unfold endsV
  cases R
  all_goals
   unfold endsL
   go_wp2_with fail
   exact bodyPost_ret (resD (fin4 HB9.out _ _ _ _) rfl) rfl ⟨rfl, gr4 HG9.out (Nat.le_refl _) _ _ _ _⟩
set_option maxHeartbeats 4000000 in
theorem pd_sbrt (lv : Nat) (ih : PartD lv) (t : List UInt8) (deep at_ : Nat) (w : World) (hd : lv + 1 + deep = 25) (hs : t.length ≤ 1000000) (ha : at_ + t.length ≤ 2000000) (h0 : 0 < t.length) (b2 : t.take 2 = [36, 123]) :
  Calls Try.prog 47 #[sv t, .bool true, .int .i64 deep, .int .i64 at_] w fun e w' => e = .returned (endsV at_ (partR (lv + 1) true t)) ∧ w.grownBy w' none := by
 have h1 := sz t
 have hB0 := Blk.new w 61 #[.int .i64 0, .bool false, .bool false, .int .i64 0]
 have hG0 : w.grownBy (w.alloc (.cells #[.int .i64 0, .bool false, .bool false, .int .i64 0] 61)) none := only_alloc (only_refl w none) _
 have hat := str_at' t 0 h0
 have hib : (0 : Int) < (t.length : Int) := by omega
 have he : t.isEmpty = false := by cases t with | nil => exact absurd h0 (Nat.lt_irrefl _) | cons => rfl
 obtain ⟨c, hc⟩ : ∃ c, t[0] = c := ⟨_, rfl⟩
 rw [hc] at hat
 have t1 := fun e => take1' h0 hc e
 have t2 := fun a b (hh : t.take 2 = [a, b]) => take2c' h0 hc hh
 have hB := begs_iff true t
 have Hb1 := hide (fun w' => begins_any t [36, 40] w' (by decide) (by omega))
 have Hb2 := hide (fun w' => begins_any t [36, 123] w' (by decide) (by omega))
 have Hb3 := hide (fun w' => begins_any t [36, 40, 40] w' (by decide) (by omega))
 unfold sv at Hb1 Hb2 Hb3
 simp only [List.length_cons, List.length_nil, Nat.zero_add, Nat.reduceAdd] at Hb1 Hb2 Hb3
 obtain rfl : c = 36 := t2 _ _ b2
 have b1 : ¬ t.take 2 = [36, 40] := fun hh => by rw [b2] at hh; exact absurd hh (by decide)
 have b3 : ¬ t.take 3 = [36, 40, 40] := fun hh => b1 (take3_2 hh)
 have hbt : begs true t = true := hB.2 (.inr (.inr (.inr (.inl b2))))
 have HB1 := hide (show ∀ w2, Calls Try.prog 26 #[.string ⟨t.toArray⟩, .string ⟨#[36, 40]⟩] w2 fun e w3 => e = .returned (.bool false) ∧ w3 = w2 from fun w2 => by have := Hb1.out w2; rw [decide_eq_false b1] at this; exact this)
 have HB2 := hide (show ∀ w2, Calls Try.prog 26 #[.string ⟨t.toArray⟩, .string ⟨#[36, 123]⟩] w2 fun e w3 => e = .returned (.bool true) ∧ w3 = w2 from fun w2 => by have := Hb2.out w2; rw [decide_eq_true b2] at this; exact this)
 have HB3 := hide (show ∀ w2, Calls Try.prog 26 #[.string ⟨t.toArray⟩, .string ⟨#[36, 40, 40]⟩] w2 fun e w3 => e = .returned (.bool false) ∧ w3 = w2 from fun w2 => by have := Hb3.out w2; rw [decide_eq_false b3] at this; exact this)
 have qd : decide ((24 : Int) < (deep : Int)) = false := decide_eq_false (by omega)
 obtain ⟨R, hR⟩ : ∃ R, partR (lv + 1) true t = R := ⟨_, rfl⟩
 have tl2 : 2 ≤ t.length := by have := take_len b2; simpa using this
 have Hpr := hide (show partR (lv + 1) true t = (withinR (partR lv true) 125 [39] 0 (t.drop 2)).add 2 by unfold partR; rw [if_pos hbt, if_neg (fun hh => absurd ((t1 92).1 hh) (by decide)), if_neg (fun hh => absurd ((t1 96).1 hh) (by decide)), if_neg (fun hh => absurd ((t1 39).1 hh) (by decide)), if_neg (fun hh => absurd ((t1 34).1 hh) (by decide)), if_neg b3, if_neg b1, if_pos rfl])
 have Hin := hide (show ∀ w2, Calls Try.prog 59 #[.string ⟨t.toArray⟩, .int .i64 2, .int .u8 125, .int .u8 0, .bool false, .bool true, .bool true, .int .i64 deep, .int .i64 at_] w2 fun e w3 => e = .returned (endsV at_ R) ∧ w2.grownBy w3 none from fun w2 => by
  have := inner_any lv ih t 2 125 0 false true true [39] deep at_ w2 (by omega) hs ha (by omega) (fun c _ => skip39b c) (by decide)
  rw [← Hpr.out, hR] at this
  exact this)
 rw [hR]
 clear hR Hpr hbt t1 t2 hB hc b1 b2 b3
 unfold sv
 go_enter Try.func47, Try.ntmps47
 go_wp2_with fail
 refine (HB1.out _).mono ?_
 rintro e w2 ⟨rfl, rfl⟩
 go_wp2_with fail
 refine (HB2.out _).mono ?_
 rintro e w2 ⟨rfl, rfl⟩
 go_wp2_with fail
 refine (HB3.out _).mono ?_
 rintro e w2 ⟨rfl, rfl⟩
 go_wp2_with fail
 refine (HB1.out _).mono ?_
 rintro e w2 ⟨rfl, rfl⟩
 go_wp2_with fail
 refine (Hin.out _).mono ?_
 rintro e w9 ⟨rfl, hg9⟩
 have HB9 := hide (Blk.grown hB0 hg9 (by simp))
 have HG9 := hide (none_trans hG0 hg9)
 have d0 := Blk.cell HB9.out 0
 have d1 := Blk.cell HB9.out 1
 have d2 := Blk.cell HB9.out 2
 have d3 := Blk.cell HB9.out 3
 have z0 := Blk.frozen HB9.out 0
 have z1 := Blk.frozen HB9.out 1
 have z2 := Blk.frozen HB9.out 2
 have z3 := Blk.frozen HB9.out 3
 have lb := Blk.lt HB9.out
 clear hg9
 unfold endsV
 cases R
 all_goals
  unfold endsL
  go_wp2_with fail
  exact bodyPost_ret (resD (fin4 HB9.out _ _ _ _) rfl) rfl ⟨rfl, gr4 HG9.out (Nat.le_refl _) _ _ _ _⟩
set_option maxHeartbeats 4000000 in
theorem pd_sbrf (lv : Nat) (ih : PartD lv) (t : List UInt8) (deep at_ : Nat) (w : World) (hd : lv + 1 + deep = 25) (hs : t.length ≤ 1000000) (ha : at_ + t.length ≤ 2000000) (h0 : 0 < t.length) (b2 : t.take 2 = [36, 123]) :
  Calls Try.prog 47 #[sv t, .bool false, .int .i64 deep, .int .i64 at_] w fun e w' => e = .returned (endsV at_ (partR (lv + 1) false t)) ∧ w.grownBy w' none := by
 have h1 := sz t
 have hB0 := Blk.new w 61 #[.int .i64 0, .bool false, .bool false, .int .i64 0]
 have hG0 : w.grownBy (w.alloc (.cells #[.int .i64 0, .bool false, .bool false, .int .i64 0] 61)) none := only_alloc (only_refl w none) _
 have hat := str_at' t 0 h0
 have hib : (0 : Int) < (t.length : Int) := by omega
 have he : t.isEmpty = false := by cases t with | nil => exact absurd h0 (Nat.lt_irrefl _) | cons => rfl
 obtain ⟨c, hc⟩ : ∃ c, t[0] = c := ⟨_, rfl⟩
 rw [hc] at hat
 have t1 := fun e => take1' h0 hc e
 have t2 := fun a b (hh : t.take 2 = [a, b]) => take2c' h0 hc hh
 have hB := begs_iff false t
 have Hb1 := hide (fun w' => begins_any t [36, 40] w' (by decide) (by omega))
 have Hb2 := hide (fun w' => begins_any t [36, 123] w' (by decide) (by omega))
 have Hb3 := hide (fun w' => begins_any t [36, 40, 40] w' (by decide) (by omega))
 unfold sv at Hb1 Hb2 Hb3
 simp only [List.length_cons, List.length_nil, Nat.zero_add, Nat.reduceAdd] at Hb1 Hb2 Hb3
 obtain rfl : c = 36 := t2 _ _ b2
 have b1 : ¬ t.take 2 = [36, 40] := fun hh => by rw [b2] at hh; exact absurd hh (by decide)
 have b3 : ¬ t.take 3 = [36, 40, 40] := fun hh => b1 (take3_2 hh)
 have hbt : begs false t = true := hB.2 (.inr (.inr (.inr (.inl b2))))
 have HB1 := hide (show ∀ w2, Calls Try.prog 26 #[.string ⟨t.toArray⟩, .string ⟨#[36, 40]⟩] w2 fun e w3 => e = .returned (.bool false) ∧ w3 = w2 from fun w2 => by have := Hb1.out w2; rw [decide_eq_false b1] at this; exact this)
 have HB2 := hide (show ∀ w2, Calls Try.prog 26 #[.string ⟨t.toArray⟩, .string ⟨#[36, 123]⟩] w2 fun e w3 => e = .returned (.bool true) ∧ w3 = w2 from fun w2 => by have := Hb2.out w2; rw [decide_eq_true b2] at this; exact this)
 have HB3 := hide (show ∀ w2, Calls Try.prog 26 #[.string ⟨t.toArray⟩, .string ⟨#[36, 40, 40]⟩] w2 fun e w3 => e = .returned (.bool false) ∧ w3 = w2 from fun w2 => by have := Hb3.out w2; rw [decide_eq_false b3] at this; exact this)
 have qd : decide ((24 : Int) < (deep : Int)) = false := decide_eq_false (by omega)
 obtain ⟨R, hR⟩ : ∃ R, partR (lv + 1) false t = R := ⟨_, rfl⟩
 have tl2 : 2 ≤ t.length := by have := take_len b2; simpa using this
 have Hpr := hide (show partR (lv + 1) false t = (withinR (partR lv false) 125 [] 0 (t.drop 2)).add 2 by unfold partR; rw [if_pos hbt, if_neg (fun hh => absurd ((t1 92).1 hh) (by decide)), if_neg (fun hh => absurd ((t1 96).1 hh) (by decide)), if_neg (fun hh => absurd ((t1 39).1 hh) (by decide)), if_neg (fun hh => absurd ((t1 34).1 hh) (by decide)), if_neg b3, if_neg b1, if_neg Bool.false_ne_true])
 have Hin := hide (show ∀ w2, Calls Try.prog 59 #[.string ⟨t.toArray⟩, .int .i64 2, .int .u8 125, .int .u8 0, .bool true, .bool true, .bool false, .int .i64 deep, .int .i64 at_] w2 fun e w3 => e = .returned (endsV at_ R) ∧ w2.grownBy w3 none from fun w2 => by
  have := inner_any lv ih t 2 125 0 true true false [] deep at_ w2 (by omega) hs ha (by omega) (fun c _ => skip0 c) (by decide)
  rw [← Hpr.out, hR] at this
  exact this)
 rw [hR]
 clear hR Hpr hbt t1 t2 hB hc b1 b2 b3
 unfold sv
 go_enter Try.func47, Try.ntmps47
 go_wp2_with fail
 refine (HB1.out _).mono ?_
 rintro e w2 ⟨rfl, rfl⟩
 go_wp2_with fail
 refine (HB2.out _).mono ?_
 rintro e w2 ⟨rfl, rfl⟩
 go_wp2_with fail
 refine (HB3.out _).mono ?_
 rintro e w2 ⟨rfl, rfl⟩
 go_wp2_with fail
 refine (HB1.out _).mono ?_
 rintro e w2 ⟨rfl, rfl⟩
 go_wp2_with fail
 refine (Hin.out _).mono ?_
 rintro e w9 ⟨rfl, hg9⟩
 have HB9 := hide (Blk.grown hB0 hg9 (by simp))
 have HG9 := hide (none_trans hG0 hg9)
 have d0 := Blk.cell HB9.out 0
 have d1 := Blk.cell HB9.out 1
 have d2 := Blk.cell HB9.out 2
 have d3 := Blk.cell HB9.out 3
 have z0 := Blk.frozen HB9.out 0
 have z1 := Blk.frozen HB9.out 1
 have z2 := Blk.frozen HB9.out 2
 have z3 := Blk.frozen HB9.out 3
 have lb := Blk.lt HB9.out
 clear hg9
 unfold endsV
 cases R
 all_goals
  unfold endsL
  go_wp2_with fail
  exact bodyPost_ret (resD (fin4 HB9.out _ _ _ _) rfl) rfl ⟨rfl, gr4 HG9.out (Nat.le_refl _) _ _ _ _⟩
set_option maxHeartbeats 4000000 in
theorem pd_spp (lv : Nat) (_ih : PartD lv) (t : List UInt8) (q : Bool) (deep at_ : Nat) (w : World) (hd : lv + 1 + deep = 25) (hs : t.length ≤ 1000000) (ha : at_ + t.length ≤ 2000000) (h0 : 0 < t.length) (b3 : t.take 3 = [36, 40, 40]) :
  Calls Try.prog 47 #[sv t, .bool q, .int .i64 deep, .int .i64 at_] w fun e w' => e = .returned (endsV at_ (partR (lv + 1) q t)) ∧ w.grownBy w' none := by
 have h1 := sz t
 have hB0 := Blk.new w 61 #[.int .i64 0, .bool false, .bool false, .int .i64 0]
 have hG0 : w.grownBy (w.alloc (.cells #[.int .i64 0, .bool false, .bool false, .int .i64 0] 61)) none := only_alloc (only_refl w none) _
 have hat := str_at' t 0 h0
 have hib : (0 : Int) < (t.length : Int) := by omega
 have he : t.isEmpty = false := by cases t with | nil => exact absurd h0 (Nat.lt_irrefl _) | cons => rfl
 obtain ⟨c, hc⟩ : ∃ c, t[0] = c := ⟨_, rfl⟩
 rw [hc] at hat
 have t1 := fun e => take1' h0 hc e
 have t2 := fun a b (hh : t.take 2 = [a, b]) => take2c' h0 hc hh
 have hB := begs_iff q t
 have Hb1 := hide (fun w' => begins_any t [36, 40] w' (by decide) (by omega))
 have Hb2 := hide (fun w' => begins_any t [36, 123] w' (by decide) (by omega))
 have Hb3 := hide (fun w' => begins_any t [36, 40, 40] w' (by decide) (by omega))
 unfold sv at Hb1 Hb2 Hb3
 simp only [List.length_cons, List.length_nil, Nat.zero_add, Nat.reduceAdd] at Hb1 Hb2 Hb3
 have b1 := take3_2 b3
 obtain rfl : c = 36 := t2 _ _ b1
 have hbt : begs q t = true := hB.2 (.inr (.inr (.inl (take3_2 b3))))
 have HB1 := hide (show ∀ w2, Calls Try.prog 26 #[.string ⟨t.toArray⟩, .string ⟨#[36, 40]⟩] w2 fun e w3 => e = .returned (.bool true) ∧ w3 = w2 from fun w2 => by have := Hb1.out w2; rw [decide_eq_true b1] at this; exact this)
 have HB3 := hide (show ∀ w2, Calls Try.prog 26 #[.string ⟨t.toArray⟩, .string ⟨#[36, 40, 40]⟩] w2 fun e w3 => e = .returned (.bool true) ∧ w3 = w2 from fun w2 => by have := Hb3.out w2; rw [decide_eq_true b3] at this; exact this)
 have qd : decide ((24 : Int) < (deep : Int)) = false := decide_eq_false (by omega)
 obtain ⟨R, hR⟩ : ∃ R, partR (lv + 1) q t = R := ⟨_, rfl⟩
 have tl3 : 3 ≤ t.length := by have := take_len b3; simpa using this
 have Hpr := hide (show partR (lv + 1) q t = (sumsR 0 (t.drop 3)).add 3 by unfold partR; rw [if_pos hbt, if_neg (fun hh => absurd ((t1 92).1 hh) (by decide)), if_neg (fun hh => absurd ((t1 96).1 hh) (by decide)), if_neg (fun hh => absurd ((t1 39).1 hh) (by decide)), if_neg (fun hh => absurd ((t1 34).1 hh) (by decide)), if_pos b3])
 rw [hR]
 have hR := hide hR
 clear hbt t1 t2 hB hc b1 b3
 cases q
 all_goals
  unfold sv
  go_enter Try.func47, Try.ntmps47
  go_wp2_with fail
  refine (HB1.out _).mono ?_
  rintro e w2 ⟨rfl, rfl⟩
  go_wp2_with fail
  refine (HB3.out _).mono ?_
  rintro e w2 ⟨rfl, rfl⟩
  go_wp2_with fail
  go_loopw [13, 14] (fun vo vi wr => ∃ o k : Nat, vo = .int .i64 o ∧ vi = .int .i64 k ∧ k ≤ t.length ∧ o ≤ k ∧ Blk wr w.heap.size 61 #[.int .i64 0, .bool false, .bool false, .int .i64 0] ∧ w.grownBy wr none ∧ (sumsR o (t.drop k)).add k = R) (fun _ vi _ => t.length + 1 - (intOf vi).toNat)
  case atStart => exact ⟨0, 3, rfl, rfl, tl3, by omega, hB0, hG0, by rw [← Hpr.out, hR.out]⟩
  case round =>
   obtain ⟨o, k, rfl, rfl, hk, hok, hB, hG, hres⟩ := hrel
   have HB := hide hB
   have HG := hide hG
   have HR := hide hres
   have d0 := Blk.cell hB 0
   have d1 := Blk.cell hB 1
   have d2 := Blk.cell hB 2
   have d3 := Blk.cell hB 3
   have z0 := Blk.frozen hB 0
   have z1 := Blk.frozen hB 1
   have z2 := Blk.frozen hB 2
   have z3 := Blk.frozen hB 3
   have lb := Blk.lt hB
   clear hB hG hres hR hat hib
   by_cases hlt2 : k < t.length
   ·have q0 : decide ((k : Int) < (t.length : Int)) = true := decide_eq_true (by omega)
    have hat := str_at' t k hlt2
    have hib : (0 : Int) ≤ k ∧ (k : Int) < (t.length : Int) := by omega
    have hib2 : (0 : Int) ≤ k ∧ (k : Int) ≤ (t.length : Int) := by omega
    have hext := ext_drop t k t.length rfl
    have hdr := drop_at hlt2
    obtain ⟨b, hb⟩ : ∃ b, t[k] = b := ⟨_, rfl⟩
    rw [hb] at hat hdr
    by_cases h40 : b = 40
    ·subst h40
     have Hst := hide (show sumsR o (t.drop k) = (sumsR (o + 1) (t.drop (k + 1))).add 1 by rw [hdr]; cases o <;> rfl)
     clear hdr hb
     go_wp2_with fail
     go_roundw
     case rel => exact ⟨o + 1, k + 1, by go_num, by go_num, by omega, by omega, HB.out, HG.out, by rw [← HR.out, Hst.out, Rs.add_add]⟩
     case measure => simp [intOf]; omega
    have q40 : ((b.toNat : Int) == 40) = false := byte_ne (d := 40) h40
    by_cases h41 : b = 41
    ·subst h41
     by_cases ho : 0 < o
     ·obtain ⟨o2, rfl⟩ : ∃ o2, o = o2 + 1 := ⟨o - 1, by omega⟩
      have Hst := hide (show sumsR (o2 + 1) (t.drop k) = (sumsR o2 (t.drop (k + 1))).add 1 by rw [hdr]; rfl)
      have qo : decide ((0 : Int) < ((o2 + 1 : Nat) : Int)) = true := decide_eq_true (by omega)
      have qo2 : decide ((0 : Int) < (o2 : Int) + 1) = true := decide_eq_true (by omega)
      clear hdr hb
      go_wp2_with fail
      go_roundw
      case rel => exact ⟨o2, k + 1, by go_num, by go_num, by omega, by omega, HB.out, HG.out, by rw [← HR.out, Hst.out, Rs.add_add]⟩
      case measure => simp [intOf]; omega
     ·obtain rfl : o = 0 := by omega
      have htk : (t.drop k).take 2 = 41 :: (t.drop (k + 1)).take 1 := by rw [hdr]; rfl
      have hdec : decide ((t.drop k).take 2 = [41, 41]) = decide ((t.drop (k + 1)).take 1 = [41]) := by rw [htk]; simp
      have hbb := fun w2 => begins_any (t.drop k) [41, 41] w2 (by decide) (by rw [List.length_drop]; omega)
      unfold sv at hbb
      have hbb2 : ∀ w2, Calls Try.prog 26 #[.string ⟨(t.drop k).toArray⟩, .string ⟨#[41, 41]⟩] w2 fun e w3 => e = .returned (.bool (decide ((t.drop (k + 1)).take 1 = [41]))) ∧ w3 = w2 := fun w2 => by rw [← hdec]; exact hbb w2
      have h2c : sumsR 0 (t.drop k) = if (t.drop (k + 1)).take 1 = [41] then .ok 2 else (sumsR 0 (t.drop (k + 1))).add 1 := by rw [hdr]; rfl
      by_cases h2 : (t.drop (k + 1)).take 1 = [41]
      ·rw [if_pos h2] at h2c
       rw [decide_eq_true h2] at hbb2
       have Hst := hide h2c
       have Hbb := hide hbb2
       clear hdr hb htk hdec h2 hbb hbb2 h2c
       go_wp2_with fail
       refine (Hbb.out _).mono ?_
       rintro e w2 ⟨rfl, rfl⟩
       go_wp2_with fail
       exact bodyPost_ret (resD (fin4 HB.out _ _ _ _) rfl) rfl ⟨by rw [← HR.out, Hst.out]; simp [endsV, endsL, Rs.add], gr4 HG.out (Nat.le_refl _) _ _ _ _⟩
      ·rw [if_neg h2] at h2c
       rw [decide_eq_false h2] at hbb2
       have Hst := hide h2c
       have Hbb := hide hbb2
       clear hdr hb htk hdec h2 hbb hbb2 h2c
       go_wp2_with fail
       refine (Hbb.out _).mono ?_
       rintro e w2 ⟨rfl, rfl⟩
       go_wp2_with fail
       go_roundw
       case rel => exact ⟨0, k + 1, rfl, by go_num, by omega, by omega, HB.out, HG.out, by rw [← HR.out, Hst.out, Rs.add_add]⟩
       case measure => simp [intOf]; omega
    ·have q41 : ((b.toNat : Int) == 41) = false := byte_ne (d := 41) h41
     have Hst := hide (show sumsR o (t.drop k) = (sumsR o (t.drop (k + 1))).add 1 by rw [hdr]; show (if b = 40 then _ else if b ≠ 41 then _ else _) = _; rw [if_neg h40, if_pos h41])
     clear hdr hb h40 h41
     go_wp2_with fail
     go_roundw
     case rel => exact ⟨o, k + 1, rfl, by go_num, by omega, by omega, HB.out, HG.out, by rw [← HR.out, Hst.out, Rs.add_add]⟩
     case measure => simp [intOf]; omega
   ·have q0 : decide ((k : Int) < (t.length : Int)) = false := decide_eq_false (by omega)
    have hRm : R = .more := by
     have := HR.out
     rw [List.drop_eq_nil_of_le (by omega)] at this
     cases o <;> exact this.symm
    subst hRm
    go_wp2_with fail
    exact bodyPost_ret (resD (fin4 HB.out _ _ _ _) rfl) rfl ⟨by simp [endsV, endsL], gr4 HG.out (Nat.le_refl _) _ _ _ _⟩
set_option maxHeartbeats 4000000 in
theorem pd_no (lv : Nat) (t : List UInt8) (q : Bool) (deep at_ : Nat) (w : World) (hs : t.length ≤ 1000000) (h0 : 0 < t.length) (hbf : ¬ begs q t = true) :
  Calls Try.prog 47 #[sv t, .bool q, .int .i64 deep, .int .i64 at_] w fun e w' => e = .returned (endsV at_ (partR lv q t)) ∧ w.grownBy w' none := by
 have h1 := sz t
 have hB0 := Blk.new w 61 #[.int .i64 0, .bool false, .bool false, .int .i64 0]
 have hG0 : w.grownBy (w.alloc (.cells #[.int .i64 0, .bool false, .bool false, .int .i64 0] 61)) none := only_alloc (only_refl w none) _
 have hat := str_at' t 0 h0
 have hib : (0 : Int) < (t.length : Int) := by omega
 have he : t.isEmpty = false := by cases t with | nil => exact absurd h0 (Nat.lt_irrefl _) | cons => rfl
 obtain ⟨c, hc⟩ : ∃ c, t[0] = c := ⟨_, rfl⟩
 rw [hc] at hat
 have t1 := fun e => take1' h0 hc e
 have t2 := fun a b (hh : t.take 2 = [a, b]) => take2c' h0 hc hh
 have hB := begs_iff q t
 have Hb1 := hide (fun w' => begins_any t [36, 40] w' (by decide) (by omega))
 have Hb2 := hide (fun w' => begins_any t [36, 123] w' (by decide) (by omega))
 have Hb3 := hide (fun w' => begins_any t [36, 40, 40] w' (by decide) (by omega))
 unfold sv at Hb1 Hb2 Hb3
 simp only [List.length_cons, List.length_nil, Nat.zero_add, Nat.reduceAdd] at Hb1 Hb2 Hb3
 have hpr : partR lv q t = .ok 0 := by cases lv <;> (unfold partR; rw [if_neg hbf])
 rw [hpr]
 rw [hB] at hbf
 simp only [not_or, not_and] at hbf
 obtain ⟨n1, n2, b1, b2, n5⟩ := hbf
 have q92 : ((c.toNat : Int) == 92) = false := byte_ne (d := 92) (fun e => n1 ((t1 92).2 e))
 have q96 : ((c.toNat : Int) == 96) = false := byte_ne (d := 96) (fun e => n2 ((t1 96).2 e))
 have ways : q = true ∨ (q = false ∧ ((c.toNat : Int) == 39) = false ∧ ((c.toNat : Int) == 34) = false) := by
  cases q with
  | true => exact .inl rfl
  | false => exact .inr ⟨rfl, byte_ne (d := 39) (fun e => (n5 rfl).1 ((t1 39).2 e)), byte_ne (d := 34) (fun e => (n5 rfl).2 ((t1 34).2 e))⟩
 have HB1 := hide (show ∀ w2, Calls Try.prog 26 #[.string ⟨t.toArray⟩, .string ⟨#[36, 40]⟩] w2 fun e w3 => e = .returned (.bool false) ∧ w3 = w2 from fun w2 => by have := Hb1.out w2; rw [decide_eq_false b1] at this; exact this)
 have HB2 := hide (show ∀ w2, Calls Try.prog 26 #[.string ⟨t.toArray⟩, .string ⟨#[36, 123]⟩] w2 fun e w3 => e = .returned (.bool false) ∧ w3 = w2 from fun w2 => by have := Hb2.out w2; rw [decide_eq_false b2] at this; exact this)
 clear hpr t1 t2 hB hc n1 n2 b1 b2 n5
 rcases ways with rfl | ⟨rfl, q39, q34⟩
 all_goals
  unfold sv
  go_enter Try.func47, Try.ntmps47
  go_wp2_with fail
  refine (HB1.out _).mono ?_
  rintro e w2 ⟨rfl, rfl⟩
  go_wp2_with fail
  refine (HB2.out _).mono ?_
  rintro e w2 ⟨rfl, rfl⟩
  go_wp2_with fail
  exact bodyPost_ret (resD (Blk.new w 61 _) rfl) rfl ⟨by simp [endsV, endsL], only_alloc (only_refl w none) _⟩
set_option maxHeartbeats 1000000 in
theorem pd_nil (q : Bool) (deep at_ : Nat) (w : World) : Calls Try.prog 47 #[sv [], .bool q, .int .i64 deep, .int .i64 at_] w fun e w' => e = .returned (endsV at_ (.ok 0)) ∧ w.grownBy w' none := by
 have hB0 := Blk.new w 61 #[.int .i64 0, .bool false, .bool false, .int .i64 0]
 have hG0 : w.grownBy (w.alloc (.cells #[.int .i64 0, .bool false, .bool false, .int .i64 0] 61)) none := only_alloc (only_refl w none) _
 unfold sv
 go_enter Try.func47, Try.ntmps47
 go_wp2_with fail
 exact bodyPost_ret (resD (Blk.new w 61 _) rfl) rfl ⟨by simp [endsV, endsL], only_alloc (only_refl w none) _⟩
theorem part_d : ∀ lv, PartD lv := by
 intro lv
 induction lv with
 | zero =>
  intro t q deep at_ w hd hs ha
  by_cases h0 : 0 < t.length
  ·by_cases hb : begs q t = true
   ·have t1 := fun e => take1' h0 rfl e
    rcases (begs_iff q t).1 hb with h | h | h | h | ⟨rfl, h | h⟩
    ·exact pd_zbs t q deep at_ w hd hs ha h0 ((t1 92).1 h)
    ·exact pd_zbq t q deep at_ w hd hs ha h0 ((t1 96).1 h)
    ·exact pd_zpa t q deep at_ w hd hs ha h0 h
    ·exact pd_zbr t q deep at_ w hd hs ha h0 h
    ·exact pd_zsq t deep at_ w hd hs ha h0 ((t1 39).1 h)
    ·exact pd_zdq t deep at_ w hd hs ha h0 ((t1 34).1 h)
   ·exact pd_no 0 t q deep at_ w hs h0 hb
  ·obtain rfl : t = [] := List.eq_nil_of_length_eq_zero (by omega)
   rw [parts_nil]
   exact pd_nil q deep at_ w
 | succ lv ih =>
  intro t q deep at_ w hd hs ha
  by_cases h0 : 0 < t.length
  ·by_cases hb : begs q t = true
   ·have t1 := fun e => take1' h0 rfl e
    rcases (begs_iff q t).1 hb with h | h | h | h | ⟨rfl, h | h⟩
    ·exact pd_sbs lv ih t q deep at_ w hd hs ha h0 ((t1 92).1 h)
    ·exact pd_sbq lv ih t q deep at_ w hd hs ha h0 ((t1 96).1 h)
    ·by_cases b3 : t.take 3 = [36, 40, 40]
     ·exact pd_spp lv ih t q deep at_ w hd hs ha h0 b3
     ·exact pd_spa lv ih t q deep at_ w hd hs ha h0 h b3
    ·cases q with
     | true => exact pd_sbrt lv ih t deep at_ w hd hs ha h0 h
     | false => exact pd_sbrf lv ih t deep at_ w hd hs ha h0 h
    ·exact pd_ssq lv ih t deep at_ w hd hs ha h0 ((t1 39).1 h)
    ·exact pd_sdq lv ih t deep at_ w hd hs ha h0 ((t1 34).1 h)
   ·exact pd_no (lv + 1) t q deep at_ w hs h0 hb
  ·obtain rfl : t = [] := List.eq_nil_of_length_eq_zero (by omega)
   rw [parts_nil]
   exact pd_nil q deep at_ w
end Go.Proofs.Ytgpfjcogaheopaa.Lx
