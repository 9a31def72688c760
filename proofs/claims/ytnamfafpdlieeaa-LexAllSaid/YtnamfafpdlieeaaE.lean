/- The reader: part. -/
import Derived.Test.YtnamfafpdlieeaaD
set_option linter.all false
namespace Go.Proofs.Ytnamfafpdlieeaa
open Go.RowKit
set_option maxRecDepth 100000

theorem out_add (r : Rs) (i k L : Nat) : (r.add k).out i L = r.out (i + k) L := by
  cases r with
  | ok n => simp [Rs.add, Rs.out]; omega
  | more => rfl
  | deep a => simp [Rs.add, Rs.out, faultV]; omega
theorem take1 {l : List UInt8} {i : Nat} {c : UInt8} (h : i < l.length) (hc : l[i] = c) (d : UInt8) : ((l.drop i).take 1 = [d]) ↔ c = d := by
  rw [drop_at h, hc]
  show [c] = [d] ↔ _
  simp
theorem take2c {l : List UInt8} {i : Nat} {c a b : UInt8} (h : i < l.length) (hc : l[i] = c) (h2 : (l.drop i).take 2 = [a, b]) : c = a := by
  rw [drop_at h, hc] at h2
  have : c :: (l.drop (i + 1)).take 1 = [a, b] := h2
  injection this
theorem take3_2 {t : List UInt8} {a b c : UInt8} (h : t.take 3 = [a, b, c]) : t.take 2 = [a, b] := by
  match t, h with
  | [], h => cases h
  | [x], h => cases h
  | [x, y], h => cases h
  | x :: y :: z :: r, h =>
    have : [x, y, z] = [a, b, c] := h
    injection this with e1 e2
    injection e2 with e2 e3
    subst e1 e2
    rfl
/-- How part's walk ends, where it calls another reader. -/
theorem part_end {lv rb d i k : Nat} {q : Bool} {l : List UInt8} {w w' : World} {r : Rs} {e : Ending} (hr : partR lv q (l.drop i) = r.add k) (he : e = r.out (i + k) l.length) (hg : w.grownBy w' (some rb)) (hok : ∀ n, r = .ok n → RAt w' rb l d) :
    e = (partR lv q (l.drop i)).out i l.length ∧ w.grownBy w' (some rb) ∧ ∀ n, partR lv q (l.drop i) = .ok n → RAt w' rb l d := by
  refine ⟨by rw [hr, out_add, he], hg, fun n hn => ?_⟩
  rw [hr] at hn
  obtain ⟨m, hm, _⟩ := Rs.add_ok hn
  exact hok m hm
theorem out_cases (r : Rs) (i L : Nat) : (∃ n, r = .ok n ∧ r.out i L = .returned (.int .i64 ((i : Int) + n))) ∨ (∃ f, r.out i L = .panicked [f] ∧ ∀ n, r ≠ .ok n) := by
  cases r with
  | ok n => exact .inl ⟨n, rfl, rfl⟩
  | more => exact .inr ⟨_, rfl, fun n h => by cases h⟩
  | deep a => exact .inr ⟨_, rfl, fun n h => by cases h⟩
theorem begs_iff (q : Bool) (t : List UInt8) : begs q t = true ↔ t.take 1 = [92] ∨ t.take 1 = [96] ∨ t.take 2 = [36, 40] ∨ t.take 2 = [36, 123] ∨ (q = false ∧ (t.take 1 = [39] ∨ t.take 1 = [34])) := by
  unfold begs
  simp only [Bool.or_eq_true, Bool.and_eq_true, decide_eq_true_eq, Bool.not_eq_true', or_assoc]

set_option maxHeartbeats 8000000 in
theorem part_zero : PartOk 0 := by
  intro rb d i q l w h hd hi hl
  have Hat1 := hide (at_any rb d i l [36, 40] w h (by omega) hl (by decide))
  have Hat2 := hide (at_any rb d i l [36, 123] w h (by omega) hl (by decide))
  have Hat3 := hide (at_any rb d i l [36, 40, 40] w h (by omega) hl (by decide))
  unfold sv at Hat1 Hat2 Hat3
  have H0 := hide h
  have c0 := h.c0
  have c1 := h.c1
  have hlt := Blk.lt h
  have h1 := sz l
  have hat := str_at' l i hi
  have hib : (0 : Int) ≤ i ∧ (i : Int) < (l.length : Int) := by omega
  obtain ⟨c, hc⟩ : ∃ c, l[i] = c := ⟨_, rfl⟩
  rw [hc] at hat
  have t1 := fun e => take1 hi hc e
  have t2 := fun a b (hh : (l.drop i).take 2 = [a, b]) => take2c hi hc hh
  have tl : 1 ≤ (l.drop i).length := by rw [List.length_drop]; omega
  have tl2 : (l.drop i).length < 2 ↔ l.length < i + 2 := by rw [List.length_drop]; omega
  have hB := begs_iff q (l.drop i)
  obtain ⟨t, ht⟩ : ∃ t, l.drop i = t := ⟨_, rfl⟩
  have hdrop : ∀ k, l.drop (i + k) = t.drop k := fun k => by rw [← ht, List.drop_drop]
  rw [ht] at Hat1 Hat2 Hat3 t1 t2 tl tl2 hB
  simp only [List.length_cons, List.length_nil, Nat.zero_add, Nat.reduceAdd] at Hat1 Hat2 Hat3
  suffices HH : Calls Try.prog 22 #[.pointer (some ⟨rb, 0, none⟩), .int .i64 i, .bool q] w fun e w' => e = (partR 0 q t).out i l.length ∧ w.grownBy w' (some rb) ∧ ∀ n, partR 0 q t = .ok n → RAt w' rb l d by
    rw [ht]; exact HH
  have qd : decide ((24 : Int) < (d : Int)) = true := by simp; omega
  have hyes : begs q t = true → partR 0 q t = .deep 0 := fun hh => by unfold partR; rw [if_pos hh]
  have hno : ¬ begs q t = true → partR 0 q t = .ok 0 := fun hh => by unfold partR; rw [if_neg hh]
  by_cases h92 : c = 92
  · subst h92
    rw [hyes (hB.2 (.inl ((t1 92).2 rfl)))]
    clear hyes hno t1 t2 hB hdrop h
    go_enter Try.func22, Try.ntmps22
    go_wp2_with fail
    exact post_panic rfl ⟨by simp [Rs.out, faultV], only_refl _ _, fun n hn => by cases hn⟩
  have q92 : ((c.toNat : Int) == 92) = false := byte_ne h92
  by_cases h96 : c = 96
  · subst h96
    rw [hyes (hB.2 (.inr (.inl ((t1 96).2 rfl))))]
    clear hyes hno t1 t2 hB hdrop h
    go_enter Try.func22, Try.ntmps22
    go_wp2_with fail
    exact post_panic rfl ⟨by simp [Rs.out, faultV], only_refl _ _, fun n hn => by cases hn⟩
  have q96 : ((c.toNat : Int) == 96) = false := byte_ne h96
  by_cases b1 : t.take 2 = [36, 40]
  · obtain rfl := t2 _ _ b1
    have Hat1 := hide (show Calls Try.prog 25 #[.pointer (some ⟨rb, 0, none⟩), .int .i64 i, .string ⟨#[36, 40]⟩] w fun e w' => e = .returned (.bool true) ∧ w' = w from by have := Hat1.out; rw [decide_eq_true b1] at this; exact this)
    rw [hyes (hB.2 (.inr (.inr (.inl b1))))]
    clear hyes hno t1 t2 hB hdrop h b1
    go_enter Try.func22, Try.ntmps22
    go_wp2_with fail
    refine Hat1.out.mono ?_
    rintro e w2 ⟨rfl, rfl⟩
    go_wp2_with fail
    exact post_panic rfl ⟨by simp [Rs.out, faultV], only_refl _ _, fun n hn => by cases hn⟩
  have Hat1 := hide (show Calls Try.prog 25 #[.pointer (some ⟨rb, 0, none⟩), .int .i64 i, .string ⟨#[36, 40]⟩] w fun e w' => e = .returned (.bool false) ∧ w' = w from by have := Hat1.out; rw [decide_eq_false b1] at this; exact this)
  by_cases b2 : t.take 2 = [36, 123]
  · obtain rfl := t2 _ _ b2
    have Hat2 := hide (show Calls Try.prog 25 #[.pointer (some ⟨rb, 0, none⟩), .int .i64 i, .string ⟨#[36, 123]⟩] w fun e w' => e = .returned (.bool true) ∧ w' = w from by have := Hat2.out; rw [decide_eq_true b2] at this; exact this)
    rw [hyes (hB.2 (.inr (.inr (.inr (.inl b2)))))]
    clear hyes hno t1 t2 hB hdrop h b1 b2
    go_enter Try.func22, Try.ntmps22
    go_wp2_with fail
    refine Hat1.out.mono ?_
    rintro e w2 ⟨rfl, rfl⟩
    go_wp2_with fail
    refine Hat2.out.mono ?_
    rintro e w2 ⟨rfl, rfl⟩
    go_wp2_with fail
    exact post_panic rfl ⟨by simp [Rs.out, faultV], only_refl _ _, fun n hn => by cases hn⟩
  have Hat2 := hide (show Calls Try.prog 25 #[.pointer (some ⟨rb, 0, none⟩), .int .i64 i, .string ⟨#[36, 123]⟩] w fun e w' => e = .returned (.bool false) ∧ w' = w from by have := Hat2.out; rw [decide_eq_false b2] at this; exact this)
  by_cases hq : q = false ∧ c = 39
  · obtain ⟨rfl, rfl⟩ := hq
    rw [hyes (hB.2 (.inr (.inr (.inr (.inr ⟨rfl, .inl ((t1 39).2 rfl)⟩)))))]
    clear hyes hno t1 t2 hB hdrop h b1 b2
    go_enter Try.func22, Try.ntmps22
    go_wp2_with fail
    refine Hat1.out.mono ?_
    rintro e w2 ⟨rfl, rfl⟩
    go_wp2_with fail
    refine Hat2.out.mono ?_
    rintro e w2 ⟨rfl, rfl⟩
    go_wp2_with fail
    exact post_panic rfl ⟨by simp [Rs.out, faultV], only_refl _ _, fun n hn => by cases hn⟩
  by_cases hq2 : q = false ∧ c = 34
  · obtain ⟨rfl, rfl⟩ := hq2
    rw [hyes (hB.2 (.inr (.inr (.inr (.inr ⟨rfl, .inr ((t1 34).2 rfl)⟩)))))]
    clear hyes hno t1 t2 hB hdrop h b1 b2
    go_enter Try.func22, Try.ntmps22
    go_wp2_with fail
    refine Hat1.out.mono ?_
    rintro e w2 ⟨rfl, rfl⟩
    go_wp2_with fail
    refine Hat2.out.mono ?_
    rintro e w2 ⟨rfl, rfl⟩
    go_wp2_with fail
    exact post_panic rfl ⟨by simp [Rs.out, faultV], only_refl _ _, fun n hn => by cases hn⟩
  have hbf : ¬ begs q t = true := by
    rw [hB]
    rintro (hh | hh | hh | hh | ⟨h1, hh | hh⟩)
    · exact h92 ((t1 92).1 hh)
    · exact h96 ((t1 96).1 hh)
    · exact b1 hh
    · exact b2 hh
    · exact hq ⟨h1, (t1 39).1 hh⟩
    · exact hq2 ⟨h1, (t1 34).1 hh⟩
  rw [hno hbf]
  have ways : q = true ∨ (q = false ∧ ((c.toNat : Int) == 39) = false ∧ ((c.toNat : Int) == 34) = false) := by
    cases q with
    | true => exact .inl rfl
    | false => exact .inr ⟨rfl, byte_ne (d := 39) (fun e => hq ⟨rfl, e⟩), byte_ne (d := 34) (fun e => hq2 ⟨rfl, e⟩)⟩
  clear hyes hno hbf t1 t2 hB hdrop h b1 b2 hq hq2 h92 h96
  rcases ways with rfl | ⟨rfl, q39, q34⟩
  all_goals
    go_enter Try.func22, Try.ntmps22
    go_wp2_with fail
    refine Hat1.out.mono ?_
    rintro e w2 ⟨rfl, rfl⟩
    go_wp2_with fail
    refine Hat2.out.mono ?_
    rintro e w2 ⟨rfl, rfl⟩
    go_wp2_with fail
    exact bodyPost_ret (results_tmp (t := 6) rfl _ _ _) rfl ⟨by simp [Rs.out], only_refl _ _, fun n hn => H0.out⟩

set_option maxHeartbeats 8000000 in
theorem part_succ (lv : Nat) (hp : PartOk lv) : PartOk (lv + 1) := by
  intro rb d i q l w h hd hi hl
  have Hat1 := hide (at_any rb d i l [36, 40] w h (by omega) hl (by decide))
  have Hat2 := hide (at_any rb d i l [36, 123] w h (by omega) hl (by decide))
  have Hat3 := hide (at_any rb d i l [36, 40, 40] w h (by omega) hl (by decide))
  unfold sv at Hat1 Hat2 Hat3
  have H0 := hide h
  have c0 := h.c0
  have c1 := h.c1
  have hlt := Blk.lt h
  have h1 := sz l
  have hat := str_at' l i hi
  have hib : (0 : Int) ≤ i ∧ (i : Int) < (l.length : Int) := by omega
  obtain ⟨c, hc⟩ : ∃ c, l[i] = c := ⟨_, rfl⟩
  rw [hc] at hat
  have t1 := fun e => take1 hi hc e
  have t2 := fun a b (hh : (l.drop i).take 2 = [a, b]) => take2c hi hc hh
  have tl : 1 ≤ (l.drop i).length := by rw [List.length_drop]; omega
  have tl2 : (l.drop i).length < 2 ↔ l.length < i + 2 := by rw [List.length_drop]; omega
  have hB := begs_iff q (l.drop i)
  obtain ⟨t, ht⟩ : ∃ t, l.drop i = t := ⟨_, rfl⟩
  have hdrop : ∀ k, l.drop (i + k) = t.drop k := fun k => by rw [← ht, List.drop_drop]
  rw [ht] at Hat1 Hat2 Hat3 t1 t2 tl tl2 hB
  simp only [List.length_cons, List.length_nil, Nat.zero_add, Nat.reduceAdd] at Hat1 Hat2 Hat3
  suffices HH : Calls Try.prog 22 #[.pointer (some ⟨rb, 0, none⟩), .int .i64 i, .bool q] w fun e w' => e = (partR (lv + 1) q t).out i l.length ∧ w.grownBy w' (some rb) ∧ ∀ n, partR (lv + 1) q t = .ok n → RAt w' rb l d by
    rw [ht]; exact HH
  have part_end' : ∀ (k : Nat) (w' : World) (r : Rs) (e : Ending), partR (lv + 1) q t = r.add k → e = r.out (i + k) l.length → w.grownBy w' (some rb) → (∀ n, r = .ok n → RAt w' rb l d) → e = (partR (lv + 1) q t).out i l.length ∧ w.grownBy w' (some rb) ∧ ∀ n, partR (lv + 1) q t = .ok n → RAt w' rb l d := by
    intro k w' r e h1 h2 h3 h4
    have := part_end (lv := lv + 1) (q := q) (l := l) (i := i) (by rw [ht]; exact h1) h2 h3 h4
    rwa [ht] at this
  have Hend := hide part_end'
  have qd : decide ((24 : Int) < (d : Int)) = false := by simp; omega
  have hwi := fun (k : Nat) (e : UInt8) (plain : List UInt8) (qq : Bool) (hk : i + k ≤ l.length) => within_any lv hp rb d (i + k) e plain qq l w H0.out (by omega) hk hl
  unfold sv at hwi
  by_cases h92 : c = 92
  · subst h92
    have hbt : begs q t = true := hB.2 (.inl ((t1 92).2 rfl))
    have hpr : partR (lv + 1) q t = if t.length < 2 then .more else .ok 2 := by unfold partR; rw [if_pos hbt, if_pos ((t1 92).2 rfl)]
    by_cases h2 : l.length < i + 2
    · have q2 : decide ((l.length : Int) < (i : Int) + 2) = true := by simp; omega
      rw [if_pos (tl2.2 h2)] at hpr
      have Hm := hide (more_any rb d l w h)
      rw [hpr]
      clear hpr t1 t2 hB hdrop hwi part_end' h
      go_enter Try.func22, Try.ntmps22
      go_wp2_with fail
      refine Hm.out.mono ?_
      rintro e w9 ⟨rfl, rfl⟩
      exact post_panic rfl ⟨rfl, only_refl _ _, fun n hn => by cases hn⟩
    · have q2 : decide ((l.length : Int) < (i : Int) + 2) = false := by simp; omega
      rw [if_neg (fun hh => h2 (tl2.1 hh))] at hpr
      rw [hpr]
      clear hpr t1 t2 hB hdrop hwi part_end' h
      go_enter Try.func22, Try.ntmps22
      go_wp2_with fail
      refine bodyPost_ret (results_tmp (t := 6) rfl _ _ _) rfl ⟨rfl, only_refl _ _, fun n hn => H0.out⟩
  have q92 : ((c.toNat : Int) == 92) = false := byte_ne h92
  by_cases h96 : c = 96
  · subst h96
    have hbt : begs q t = true := hB.2 (.inr (.inl ((t1 96).2 rfl)))
    obtain ⟨r, hr⟩ : ∃ r, untilR 96 true (t.drop 1) = r := ⟨_, rfl⟩
    have Hpr := hide (show partR (lv + 1) q t = r.add 1 by rw [← hr]; unfold partR; rw [if_pos hbt, if_neg (fun hh => absurd ((t1 92).1 hh) (by decide)), if_pos ((t1 96).2 rfl)])
    have hcall := until_any rb d (i + 1) 96 true l w h (by omega) hl
    rw [hdrop, hr, show (((i + 1 : Nat)) : Int) = (i : Int) + 1 by omega] at hcall
    have Hcall := hide (hcall.mono (R' := fun e w' => e = r.out (i + 1) l.length ∧ w.grownBy w' (some rb) ∧ ∀ n, r = .ok n → RAt w' rb l d) (by rintro e w' ⟨rfl, rfl⟩; exact ⟨rfl, only_refl _ _, fun _ _ => H0.out⟩))
    clear hcall hwi h t1 t2 hB hdrop
    rcases out_cases r (i + 1) l.length with ⟨n, hn, ho⟩ | ⟨f, ho, hno⟩
    · rw [show (((i + 1 : Nat)) : Int) = (i : Int) + 1 by omega] at ho
      rw [ho] at Hcall
      go_enter Try.func22, Try.ntmps22
      go_wp2_with fail
      refine Hcall.out.mono ?_
      rintro e w9 ⟨rfl, hg9, hok9⟩
      go_wp2_with fail
      exact bodyPost_ret (results_tmp (t := 6) rfl _ _ _) rfl (by rw [ht] at *; exact Hend.out _ _ _ _ Hpr.out ho.symm hg9 hok9)
    · rw [ho] at Hcall
      go_enter Try.func22, Try.ntmps22
      go_wp2_with fail
      refine Hcall.out.mono ?_
      rintro e w9 ⟨rfl, hg9, hok9⟩
      exact post_panic rfl (Hend.out _ _ _ _ Hpr.out ho.symm hg9 hok9)
  have q96 : ((c.toNat : Int) == 96) = false := byte_ne h96
  by_cases b1 : t.take 2 = [36, 40]
  · obtain rfl := t2 _ _ b1
    have hbt : begs q t = true := hB.2 (.inr (.inr (.inl b1)))
    have tl3 : 2 ≤ t.length := by have := take_len b1; simpa using this
    have tll : t.length = l.length - i := by rw [← ht, List.length_drop]
    by_cases b3 : t.take 3 = [36, 40, 40]
    · have tl4 : 3 ≤ t.length := by have := take_len b3; simpa using this
      have Hat1 := hide (show Calls Try.prog 25 #[.pointer (some ⟨rb, 0, none⟩), .int .i64 i, .string ⟨#[36, 40]⟩] w fun e w' => e = .returned (.bool true) ∧ w' = w from by have := Hat1.out; rw [decide_eq_true b1] at this; exact this)
      have Hat3 := hide (show Calls Try.prog 25 #[.pointer (some ⟨rb, 0, none⟩), .int .i64 i, .string ⟨#[36, 40, 40]⟩] w fun e w' => e = .returned (.bool true) ∧ w' = w from by have := Hat3.out; rw [decide_eq_true b3] at this; exact this)
      obtain ⟨r, hr⟩ : ∃ r, sumsR 0 (t.drop 3) = r := ⟨_, rfl⟩
      have Hpr := hide (show partR (lv + 1) q t = r.add 3 by rw [← hr]; unfold partR; rw [if_pos hbt, if_neg (fun hh => absurd ((t1 92).1 hh) (by decide)), if_neg (fun hh => absurd ((t1 96).1 hh) (by decide)), if_neg (fun hh => absurd ((t1 39).1 hh) (by decide)), if_neg (fun hh => absurd ((t1 34).1 hh) (by decide)), if_pos b3])
      have hcall := sums_any rb d (i + 3) l w h (by omega) hl
      rw [hdrop, hr, show (((i + 3 : Nat)) : Int) = (i : Int) + 3 by omega] at hcall
      have Hcall := hide (hcall.mono (R' := fun e w' => e = r.out (i + 3) l.length ∧ w.grownBy w' (some rb) ∧ ∀ n, r = .ok n → RAt w' rb l d) (by rintro e w' ⟨rfl, rfl⟩; exact ⟨rfl, only_refl _ _, fun _ _ => H0.out⟩))
      clear hcall hwi h b1 b3 t1 t2 hB hdrop
      rcases out_cases r (i + 3) l.length with ⟨n, hn, ho⟩ | ⟨f, ho, hno⟩
      · rw [show (((i + 3 : Nat)) : Int) = (i : Int) + 3 by omega] at ho
        rw [ho] at Hcall
        go_enter Try.func22, Try.ntmps22
        go_wp2_with fail
        refine Hat1.out.mono ?_
        rintro e w2 ⟨rfl, rfl⟩
        go_wp2_with fail
        refine Hat3.out.mono ?_
        rintro e w2 ⟨rfl, rfl⟩
        go_wp2_with fail
        refine Hcall.out.mono ?_
        rintro e w9 ⟨rfl, hg9, hok9⟩
        go_wp2_with fail
        exact bodyPost_ret (results_tmp (t := 6) rfl _ _ _) rfl (Hend.out _ _ _ _ Hpr.out ho.symm hg9 hok9)
      · rw [ho] at Hcall
        go_enter Try.func22, Try.ntmps22
        go_wp2_with fail
        refine Hat1.out.mono ?_
        rintro e w2 ⟨rfl, rfl⟩
        go_wp2_with fail
        refine Hat3.out.mono ?_
        rintro e w2 ⟨rfl, rfl⟩
        go_wp2_with fail
        refine Hcall.out.mono ?_
        rintro e w9 ⟨rfl, hg9, hok9⟩
        exact post_panic rfl (Hend.out _ _ _ _ Hpr.out ho.symm hg9 hok9)
    · skip
      have Hat1 := hide (show Calls Try.prog 25 #[.pointer (some ⟨rb, 0, none⟩), .int .i64 i, .string ⟨#[36, 40]⟩] w fun e w' => e = .returned (.bool true) ∧ w' = w from by have := Hat1.out; rw [decide_eq_true b1] at this; exact this)
      have Hat3 := hide (show Calls Try.prog 25 #[.pointer (some ⟨rb, 0, none⟩), .int .i64 i, .string ⟨#[36, 40, 40]⟩] w fun e w' => e = .returned (.bool false) ∧ w' = w from by have := Hat3.out; rw [decide_eq_false b3] at this; exact this)
      obtain ⟨r, hr⟩ : ∃ r, withinR (partR lv false) 41 [] 0 (t.drop 2) = r := ⟨_, rfl⟩
      have Hpr := hide (show partR (lv + 1) q t = r.add 2 by rw [← hr]; unfold partR; rw [if_pos hbt, if_neg (fun hh => absurd ((t1 92).1 hh) (by decide)), if_neg (fun hh => absurd ((t1 96).1 hh) (by decide)), if_neg (fun hh => absurd ((t1 39).1 hh) (by decide)), if_neg (fun hh => absurd ((t1 34).1 hh) (by decide)), if_neg b3, if_pos b1])
      have hcall := hwi 2 41 [] false (by omega)
      rw [hdrop, hr, show (((i + 2 : Nat)) : Int) = (i : Int) + 2 by omega] at hcall
      have Hcall := hide hcall
      clear hcall hwi h b1 b3 t1 t2 hB hdrop
      rcases out_cases r (i + 2) l.length with ⟨n, hn, ho⟩ | ⟨f, ho, hno⟩
      · rw [show (((i + 2 : Nat)) : Int) = (i : Int) + 2 by omega] at ho
        rw [ho] at Hcall
        go_enter Try.func22, Try.ntmps22
        go_wp2_with fail
        refine Hat1.out.mono ?_
        rintro e w2 ⟨rfl, rfl⟩
        go_wp2_with fail
        refine Hat3.out.mono ?_
        rintro e w2 ⟨rfl, rfl⟩
        go_wp2_with fail
        refine Hat1.out.mono ?_
        rintro e w2 ⟨rfl, rfl⟩
        go_wp2_with fail
        refine Hcall.out.mono ?_
        rintro e w9 ⟨rfl, hg9, hok9⟩
        go_wp2_with fail
        exact bodyPost_ret (results_tmp (t := 6) rfl _ _ _) rfl (Hend.out _ _ _ _ Hpr.out ho.symm hg9 hok9)
      · rw [ho] at Hcall
        go_enter Try.func22, Try.ntmps22
        go_wp2_with fail
        refine Hat1.out.mono ?_
        rintro e w2 ⟨rfl, rfl⟩
        go_wp2_with fail
        refine Hat3.out.mono ?_
        rintro e w2 ⟨rfl, rfl⟩
        go_wp2_with fail
        refine Hat1.out.mono ?_
        rintro e w2 ⟨rfl, rfl⟩
        go_wp2_with fail
        refine Hcall.out.mono ?_
        rintro e w9 ⟨rfl, hg9, hok9⟩
        exact post_panic rfl (Hend.out _ _ _ _ Hpr.out ho.symm hg9 hok9)
  have b3 : ¬ t.take 3 = [36, 40, 40] := fun hh => b1 (take3_2 hh)
  by_cases b2 : t.take 2 = [36, 123]
  · obtain rfl := t2 _ _ b2
    have hbt : begs q t = true := hB.2 (.inr (.inr (.inr (.inl b2))))
    have tl3 : 2 ≤ t.length := by have := take_len b2; simpa using this
    have tll : t.length = l.length - i := by rw [← ht, List.length_drop]
    cases q with
    | true =>
      have Hat1 := hide (show Calls Try.prog 25 #[.pointer (some ⟨rb, 0, none⟩), .int .i64 i, .string ⟨#[36, 40]⟩] w fun e w' => e = .returned (.bool false) ∧ w' = w from by have := Hat1.out; rw [decide_eq_false b1] at this; exact this)
      have Hat2 := hide (show Calls Try.prog 25 #[.pointer (some ⟨rb, 0, none⟩), .int .i64 i, .string ⟨#[36, 123]⟩] w fun e w' => e = .returned (.bool true) ∧ w' = w from by have := Hat2.out; rw [decide_eq_true b2] at this; exact this)
      have Hat3 := hide (show Calls Try.prog 25 #[.pointer (some ⟨rb, 0, none⟩), .int .i64 i, .string ⟨#[36, 40, 40]⟩] w fun e w' => e = .returned (.bool false) ∧ w' = w from by have := Hat3.out; rw [decide_eq_false b3] at this; exact this)
      obtain ⟨r, hr⟩ : ∃ r, withinR (partR lv true) 125 [39] 0 (t.drop 2) = r := ⟨_, rfl⟩
      have Hpr := hide (show partR (lv + 1) true t = r.add 2 by rw [← hr]; unfold partR; rw [if_pos hbt, if_neg (fun hh => absurd ((t1 92).1 hh) (by decide)), if_neg (fun hh => absurd ((t1 96).1 hh) (by decide)), if_neg (fun hh => absurd ((t1 39).1 hh) (by decide)), if_neg (fun hh => absurd ((t1 34).1 hh) (by decide)), if_neg b3, if_neg b1, if_pos rfl])
      have hcall := hwi 2 125 [39] true (by omega)
      rw [hdrop, hr, show (((i + 2 : Nat)) : Int) = (i : Int) + 2 by omega] at hcall
      have Hcall := hide hcall
      clear hcall hwi h b1 b2 b3 t1 t2 hB hdrop
      rcases out_cases r (i + 2) l.length with ⟨n, hn, ho⟩ | ⟨f, ho, hno⟩
      · rw [show (((i + 2 : Nat)) : Int) = (i : Int) + 2 by omega] at ho
        rw [ho] at Hcall
        go_enter Try.func22, Try.ntmps22
        go_wp2_with fail
        refine Hat1.out.mono ?_
        rintro e w2 ⟨rfl, rfl⟩
        go_wp2_with fail
        refine Hat2.out.mono ?_
        rintro e w2 ⟨rfl, rfl⟩
        go_wp2_with fail
        refine Hat3.out.mono ?_
        rintro e w2 ⟨rfl, rfl⟩
        go_wp2_with fail
        refine Hat1.out.mono ?_
        rintro e w2 ⟨rfl, rfl⟩
        go_wp2_with fail
        refine Hcall.out.mono ?_
        rintro e w9 ⟨rfl, hg9, hok9⟩
        go_wp2_with fail
        exact bodyPost_ret (results_tmp (t := 6) rfl _ _ _) rfl (Hend.out _ _ _ _ Hpr.out ho.symm hg9 hok9)
      · rw [ho] at Hcall
        go_enter Try.func22, Try.ntmps22
        go_wp2_with fail
        refine Hat1.out.mono ?_
        rintro e w2 ⟨rfl, rfl⟩
        go_wp2_with fail
        refine Hat2.out.mono ?_
        rintro e w2 ⟨rfl, rfl⟩
        go_wp2_with fail
        refine Hat3.out.mono ?_
        rintro e w2 ⟨rfl, rfl⟩
        go_wp2_with fail
        refine Hat1.out.mono ?_
        rintro e w2 ⟨rfl, rfl⟩
        go_wp2_with fail
        refine Hcall.out.mono ?_
        rintro e w9 ⟨rfl, hg9, hok9⟩
        exact post_panic rfl (Hend.out _ _ _ _ Hpr.out ho.symm hg9 hok9)
    | false =>
      have Hat1 := hide (show Calls Try.prog 25 #[.pointer (some ⟨rb, 0, none⟩), .int .i64 i, .string ⟨#[36, 40]⟩] w fun e w' => e = .returned (.bool false) ∧ w' = w from by have := Hat1.out; rw [decide_eq_false b1] at this; exact this)
      have Hat2 := hide (show Calls Try.prog 25 #[.pointer (some ⟨rb, 0, none⟩), .int .i64 i, .string ⟨#[36, 123]⟩] w fun e w' => e = .returned (.bool true) ∧ w' = w from by have := Hat2.out; rw [decide_eq_true b2] at this; exact this)
      have Hat3 := hide (show Calls Try.prog 25 #[.pointer (some ⟨rb, 0, none⟩), .int .i64 i, .string ⟨#[36, 40, 40]⟩] w fun e w' => e = .returned (.bool false) ∧ w' = w from by have := Hat3.out; rw [decide_eq_false b3] at this; exact this)
      obtain ⟨r, hr⟩ : ∃ r, withinR (partR lv false) 125 [] 0 (t.drop 2) = r := ⟨_, rfl⟩
      have Hpr := hide (show partR (lv + 1) false t = r.add 2 by rw [← hr]; unfold partR; rw [if_pos hbt, if_neg (fun hh => absurd ((t1 92).1 hh) (by decide)), if_neg (fun hh => absurd ((t1 96).1 hh) (by decide)), if_neg (fun hh => absurd ((t1 39).1 hh) (by decide)), if_neg (fun hh => absurd ((t1 34).1 hh) (by decide)), if_neg b3, if_neg b1, if_neg Bool.false_ne_true])
      have hcall := hwi 2 125 [] false (by omega)
      rw [hdrop, hr, show (((i + 2 : Nat)) : Int) = (i : Int) + 2 by omega] at hcall
      have Hcall := hide hcall
      clear hcall hwi h b1 b2 b3 t1 t2 hB hdrop
      rcases out_cases r (i + 2) l.length with ⟨n, hn, ho⟩ | ⟨f, ho, hno⟩
      · rw [show (((i + 2 : Nat)) : Int) = (i : Int) + 2 by omega] at ho
        rw [ho] at Hcall
        go_enter Try.func22, Try.ntmps22
        go_wp2_with fail
        refine Hat1.out.mono ?_
        rintro e w2 ⟨rfl, rfl⟩
        go_wp2_with fail
        refine Hat2.out.mono ?_
        rintro e w2 ⟨rfl, rfl⟩
        go_wp2_with fail
        refine Hat3.out.mono ?_
        rintro e w2 ⟨rfl, rfl⟩
        go_wp2_with fail
        refine Hat1.out.mono ?_
        rintro e w2 ⟨rfl, rfl⟩
        go_wp2_with fail
        refine Hcall.out.mono ?_
        rintro e w9 ⟨rfl, hg9, hok9⟩
        go_wp2_with fail
        exact bodyPost_ret (results_tmp (t := 6) rfl _ _ _) rfl (Hend.out _ _ _ _ Hpr.out ho.symm hg9 hok9)
      · rw [ho] at Hcall
        go_enter Try.func22, Try.ntmps22
        go_wp2_with fail
        refine Hat1.out.mono ?_
        rintro e w2 ⟨rfl, rfl⟩
        go_wp2_with fail
        refine Hat2.out.mono ?_
        rintro e w2 ⟨rfl, rfl⟩
        go_wp2_with fail
        refine Hat3.out.mono ?_
        rintro e w2 ⟨rfl, rfl⟩
        go_wp2_with fail
        refine Hat1.out.mono ?_
        rintro e w2 ⟨rfl, rfl⟩
        go_wp2_with fail
        refine Hcall.out.mono ?_
        rintro e w9 ⟨rfl, hg9, hok9⟩
        exact post_panic rfl (Hend.out _ _ _ _ Hpr.out ho.symm hg9 hok9)
  have Hat1 := hide (show Calls Try.prog 25 #[.pointer (some ⟨rb, 0, none⟩), .int .i64 i, .string ⟨#[36, 40]⟩] w fun e w' => e = .returned (.bool false) ∧ w' = w from by have := Hat1.out; rw [decide_eq_false b1] at this; exact this)
  have Hat2 := hide (show Calls Try.prog 25 #[.pointer (some ⟨rb, 0, none⟩), .int .i64 i, .string ⟨#[36, 123]⟩] w fun e w' => e = .returned (.bool false) ∧ w' = w from by have := Hat2.out; rw [decide_eq_false b2] at this; exact this)
  have Hat3 := hide (show Calls Try.prog 25 #[.pointer (some ⟨rb, 0, none⟩), .int .i64 i, .string ⟨#[36, 40, 40]⟩] w fun e w' => e = .returned (.bool false) ∧ w' = w from by have := Hat3.out; rw [decide_eq_false b3] at this; exact this)
  by_cases hq : q = false ∧ c = 39
  · obtain ⟨rfl, rfl⟩ := hq
    have hbt : begs false t = true := hB.2 (.inr (.inr (.inr (.inr ⟨rfl, .inl ((t1 39).2 rfl)⟩))))
    obtain ⟨r, hr⟩ : ∃ r, untilR 39 false (t.drop 1) = r := ⟨_, rfl⟩
    have Hpr := hide (show partR (lv + 1) false t = r.add 1 by rw [← hr]; unfold partR; rw [if_pos hbt, if_neg (fun hh => absurd ((t1 92).1 hh) (by decide)), if_neg (fun hh => absurd ((t1 96).1 hh) (by decide)), if_pos ((t1 39).2 rfl)])
    have hcall := until_any rb d (i + 1) 39 false l w h (by omega) hl
    rw [hdrop, hr, show (((i + 1 : Nat)) : Int) = (i : Int) + 1 by omega] at hcall
    have Hcall := hide (hcall.mono (R' := fun e w' => e = r.out (i + 1) l.length ∧ w.grownBy w' (some rb) ∧ ∀ n, r = .ok n → RAt w' rb l d) (by rintro e w' ⟨rfl, rfl⟩; exact ⟨rfl, only_refl _ _, fun _ _ => H0.out⟩))
    clear hcall hwi h b1 b2 b3 t1 t2 hB hdrop
    rcases out_cases r (i + 1) l.length with ⟨n, hn, ho⟩ | ⟨f, ho, hno⟩
    · rw [show (((i + 1 : Nat)) : Int) = (i : Int) + 1 by omega] at ho
      rw [ho] at Hcall
      go_enter Try.func22, Try.ntmps22
      go_wp2_with fail
      refine Hat1.out.mono ?_
      rintro e w2 ⟨rfl, rfl⟩
      go_wp2_with fail
      refine Hat2.out.mono ?_
      rintro e w2 ⟨rfl, rfl⟩
      go_wp2_with fail
      refine Hcall.out.mono ?_
      rintro e w9 ⟨rfl, hg9, hok9⟩
      go_wp2_with fail
      exact bodyPost_ret (results_tmp (t := 6) rfl _ _ _) rfl (Hend.out _ _ _ _ Hpr.out ho.symm hg9 hok9)
    · rw [ho] at Hcall
      go_enter Try.func22, Try.ntmps22
      go_wp2_with fail
      refine Hat1.out.mono ?_
      rintro e w2 ⟨rfl, rfl⟩
      go_wp2_with fail
      refine Hat2.out.mono ?_
      rintro e w2 ⟨rfl, rfl⟩
      go_wp2_with fail
      refine Hcall.out.mono ?_
      rintro e w9 ⟨rfl, hg9, hok9⟩
      exact post_panic rfl (Hend.out _ _ _ _ Hpr.out ho.symm hg9 hok9)
  by_cases hq2 : q = false ∧ c = 34
  · obtain ⟨rfl, rfl⟩ := hq2
    have hbt : begs false t = true := hB.2 (.inr (.inr (.inr (.inr ⟨rfl, .inr ((t1 34).2 rfl)⟩))))
    obtain ⟨r, hr⟩ : ∃ r, withinR (partR lv true) 34 [39] 0 (t.drop 1) = r := ⟨_, rfl⟩
    have Hpr := hide (show partR (lv + 1) false t = r.add 1 by rw [← hr]; unfold partR; rw [if_pos hbt, if_neg (fun hh => absurd ((t1 92).1 hh) (by decide)), if_neg (fun hh => absurd ((t1 96).1 hh) (by decide)), if_neg (fun hh => absurd ((t1 39).1 hh) (by decide)), if_pos ((t1 34).2 rfl)])
    have hcall := hwi 1 34 [39] true (by omega)
    rw [hdrop, hr, show (((i + 1 : Nat)) : Int) = (i : Int) + 1 by omega] at hcall
    have Hcall := hide hcall
    clear hcall hwi h b1 b2 b3 t1 t2 hB hdrop
    rcases out_cases r (i + 1) l.length with ⟨n, hn, ho⟩ | ⟨f, ho, hno⟩
    · rw [show (((i + 1 : Nat)) : Int) = (i : Int) + 1 by omega] at ho
      rw [ho] at Hcall
      go_enter Try.func22, Try.ntmps22
      go_wp2_with fail
      refine Hat1.out.mono ?_
      rintro e w2 ⟨rfl, rfl⟩
      go_wp2_with fail
      refine Hat2.out.mono ?_
      rintro e w2 ⟨rfl, rfl⟩
      go_wp2_with fail
      refine Hcall.out.mono ?_
      rintro e w9 ⟨rfl, hg9, hok9⟩
      go_wp2_with fail
      exact bodyPost_ret (results_tmp (t := 6) rfl _ _ _) rfl (Hend.out _ _ _ _ Hpr.out ho.symm hg9 hok9)
    · rw [ho] at Hcall
      go_enter Try.func22, Try.ntmps22
      go_wp2_with fail
      refine Hat1.out.mono ?_
      rintro e w2 ⟨rfl, rfl⟩
      go_wp2_with fail
      refine Hat2.out.mono ?_
      rintro e w2 ⟨rfl, rfl⟩
      go_wp2_with fail
      refine Hcall.out.mono ?_
      rintro e w9 ⟨rfl, hg9, hok9⟩
      exact post_panic rfl (Hend.out _ _ _ _ Hpr.out ho.symm hg9 hok9)
  have hbf : ¬ begs q t = true := by
    rw [hB]
    rintro (hh | hh | hh | hh | ⟨h1, hh | hh⟩)
    · exact h92 ((t1 92).1 hh)
    · exact h96 ((t1 96).1 hh)
    · exact b1 hh
    · exact b2 hh
    · exact hq ⟨h1, (t1 39).1 hh⟩
    · exact hq2 ⟨h1, (t1 34).1 hh⟩
  have hpr : partR (lv + 1) q t = .ok 0 := by unfold partR; rw [if_neg hbf]
  rw [hpr]
  have ways : q = true ∨ (q = false ∧ ((c.toNat : Int) == 39) = false ∧ ((c.toNat : Int) == 34) = false) := by
    cases q with
    | true => exact .inl rfl
    | false => exact .inr ⟨rfl, byte_ne (d := 39) (fun e => hq ⟨rfl, e⟩), byte_ne (d := 34) (fun e => hq2 ⟨rfl, e⟩)⟩
  clear hpr hbf t1 t2 hB hdrop hwi h b1 b2 b3 hq hq2 h92 h96 part_end'
  rcases ways with rfl | ⟨rfl, q39, q34⟩
  all_goals
    go_enter Try.func22, Try.ntmps22
    go_wp2_with fail
    refine Hat1.out.mono ?_
    rintro e w2 ⟨rfl, rfl⟩
    go_wp2_with fail
    refine Hat2.out.mono ?_
    rintro e w2 ⟨rfl, rfl⟩
    go_wp2_with fail
    exact bodyPost_ret (results_tmp (t := 6) rfl _ _ _) rfl ⟨by simp [Rs.out], only_refl _ _, fun n hn => H0.out⟩

theorem part_ok : ∀ lv, PartOk lv
  | 0 => part_zero
  | lv + 1 => part_succ lv (part_ok lv)

end Go.Proofs.Ytnamfafpdlieeaa
