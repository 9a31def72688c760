/- The law on places: each token stands where it says. -/
import Derived.Test.YtnamfafpdlieeaaR
set_option linter.all false
namespace Go.Proofs.Ytnamfafpdlieeaa
open Go.RowKit
set_option maxRecDepth 100000

set_option maxHeartbeats 1000000 in
theorem stands_err (l : List UInt8) (a k : Int) (ha : allF l = .err a k) (w : World) (hl : l.length ≤ 9223372036854775807) :
    Calls Try.prog 5 #[sv l] w fun e w' => e = .returned (.bool true) ∧ w.grownBy w' none := by
  have Hsh := hide (fun w' => shown_any w')
  have hA := fun w' => all_any l w' hl
  rw [ha] at hA
  unfold AllPost sv at hA
  have HA := hide hA
  obtain ⟨hk, h0, h1⟩ := all_err ha
  have qk : (k == 0) = false := by rw [beq_eq_false_iff_ne]; exact hk
  have qk2 : (k != 0) = true := by simp only [bne, qk]; rfl
  have hz := sz l
  clear hA ha hk
  unfold sv
  go_enter Try.func5, Try.ntmps5
  go_wp2_with fail
  refine (Hsh.out _).mono ?_
  rintro e w1 ⟨rfl, g1⟩
  go_wp2_with fail
  refine (HA.out _).mono ?_
  rintro e w2 ⟨rfl, g2⟩
  go_wp2_with fail
  go_ret
  exact ⟨rfl, none_trans g1 g2⟩
theorem go_len (l : List UInt8) : ∀ (f i : Nat) (acc out : List Tok), acc.length ≤ 400 → allGo l f i acc = .ok out → out.length ≤ 400 := by
  intro f
  induction f with
  | zero =>
    intro i acc out h e
    injection e with e
    rw [← e]; exact h
  | succ f ih =>
    intro i acc out h e
    rw [allGo_step] at e
    split at e
    · split at e
      · cases e
      · cases hn : nextF (l.drop i) with
        | more => rw [hn] at e; cases e
        | deep a => rw [hn] at e; cases e
        | tok k s =>
          rw [hn] at e
          exact ih _ _ _ (by rw [List.length_append]; simp; omega) e
    · injection e with e
      rw [← e]; exact h
theorem all_len {l : List UInt8} {T : List Tok} (h : allF l = .ok T) : T.length ≤ 401 := by
  by_cases hl : 4096 < l.length
  · unfold allF at h
    rw [if_pos hl] at h
    cases h
  · rw [allF_fin l hl] at h
    cases hg : allGo l (l.length + 1) (blankF l) [] with
    | err a' k' => rw [hg] at h; cases h
    | ok acc =>
      rw [hg] at h
      injection h with h
      have := go_len l _ _ _ _ (by simp) hg
      rw [← h, List.length_append]; simp; omega
theorem stands_cons {l : List UInt8} {e : Nat} {x : Tok} {r : List Tok} (h : standsL l e (x :: r)) : x.a = e + blankF (l.drop e) ∧ x.a + x.t.length ≤ l.length ∧ (l.drop x.a).take x.t.length = x.t ∧ (x.k = 4 ↔ r = []) ∧ (x.k = 4 → x.t = [] ∧ x.a = l.length) ∧ standsL l (x.a + x.t.length) r := h

set_option maxHeartbeats 4000000 in
theorem stands_ok (l : List UInt8) (T : List Tok) (ha : allF l = .ok T) (w : World) (hl : l.length ≤ 9223372036854775807) :
    Calls Try.prog 5 #[sv l] w fun e w' => e = .returned (.bool true) ∧ w.grownBy w' none := by
  have Hsh := hide (fun w' => shown_any w')
  have hA := fun w' => all_any l w' hl
  rw [ha] at hA
  unfold AllPost sv at hA
  have HA := hide hA
  obtain ⟨hst, hpos, hl4⟩ := all_stands ha
  have hT4 := all_len ha
  have Hst0 := hide hst
  have hz := sz l
  clear hA ha hst
  unfold sv
  go_enter Try.func5, Try.ntmps5
  go_wp2_with fail
  refine (Hsh.out _).mono ?_
  rintro e w1 ⟨rfl, g1⟩
  go_wp2_with fail
  refine (HA.out _).mono ?_
  rintro e w3 ⟨⟨v, rfl, HO, hfr⟩, g2⟩
  obtain ⟨g, off, cap, rfl, hg, hT3⟩ := toks_at HO hpos
  have HT := hide hT3
  have G3 := hide (none_trans g1 g2)
  clear hfr HO g1 g2 hT3
  have qT : decide ((0 : Int) < (T.length : Int)) = true := decide_eq_true (by omega)
  go_wp2_with fail
  go_loopw [7, 8] (fun v7 v8 wr => ∃ e i : Nat, v7 = .int .i64 e ∧ v8 = .int .i64 i ∧ i ≤ T.length ∧ e ≤ l.length ∧ standsL l e (T.drop i) ∧ w3.grownBy wr none) (fun _ v8 _ => T.length - (intOf v8).toNat)
  case atStart => exact ⟨0, 0, rfl, rfl, Nat.zero_le _, Nat.zero_le _, Hst0.out, only_refl _ _⟩
  case round =>
    obtain ⟨e, i, rfl, rfl, hi, he, hst, hgr⟩ := hrel
    by_cases hlt : i < T.length
    · have q0 : decide ((i : Int) < (T.length : Int)) = true := decide_eq_true (by omega)
      have hib : (0 : Int) ≤ i ∧ (i : Int) < (T.length : Int) := by omega
      rw [List.drop_eq_getElem_cons hlt] at hst
      obtain ⟨s1, s2, s3, s4, s5, s6⟩ := stands_cons hst
      obtain ⟨c0, c1, c2⟩ := HT.out i hlt
      have hr : T.drop (i + 1) = [] ↔ i + 1 = T.length := by
        rw [List.drop_eq_nil_iff]; omega
      rw [hr] at s4
      obtain ⟨x, hx⟩ : ∃ x, T[i] = x := ⟨_, rfl⟩
      rw [hx] at s1 s2 s3 s4 s5 s6 c0 c1 c2
      obtain ⟨kk, tt, A⟩ := x
      simp only at s1 s2 s3 s4 s5 s6 c0 c1 c2
      have c0 := old_cell hgr hg c0
      have c1 := old_cell hgr hg c1
      have c2 := old_cell hgr hg c2
      have hgs : g < wr.heap.size := Nat.lt_of_lt_of_le hg hgr.size
      have S1 := hide s1
      have S4 := hide s4
      have S5 := hide s5
      have S6 := hide s6
      have HG := hide hgr
      have Hhr := hide hr
      have hAe : e ≤ A := by omega
      have hmid := ext_mid l A tt.length s2
      rw [s3] at hmid
      have hmid2 : (!((ByteArray.mk l.toArray).extract A ((A : Int) + (tt.length : Int)).toNat).toList == tt) = false := by
        rw [show ((A : Int) + (tt.length : Int)).toNat = A + tt.length from by omega, hmid]; simp
      have hzt := sz tt
      have p1 : decide ((A : Int) < (e : Int)) = false := decide_eq_false (by omega)
      have p2 : decide ((l.length : Int) < (A : Int)) = false := decide_eq_false (by omega)
      have p3 : decide (IntKind.i64.wrap ((l.length : Int) - (A : Int)) < (tt.length : Int)) = false := by
        rw [IntWalk.i64_in _ (by omega)]; exact decide_eq_false (by omega)
      have p1' : decide (A < e) = false := decide_eq_false (by omega)
      have p2' : decide (l.length < A) = false := decide_eq_false (by omega)
      have p4 : IntKind.i64.wrap ((A : Int) + (tt.length : Int)) = (A : Int) + (tt.length : Int) := IntWalk.i64_in _ (by omega)
      have p5 : (0 : Int) ≤ A ∧ (A : Int) ≤ (A : Int) + (tt.length : Int) ∧ (A : Int) + (tt.length : Int) ≤ (l.length : Int) := by omega
      clear hst s1 s4 s5 s6 hr hx s3 hgr hmid
      go_wp2_with fail
      go_quiet (fail)
      clear p1 p1' p2 p2' p3 p4 p5 hmid2
      go_wp2_with fail
      go_loopw [10] (fun v10 wq => ∃ k : Nat, v10 = .int .i64 k ∧ e ≤ k ∧ k ≤ A ∧ k + blankF (l.drop k) = A ∧ w3.grownBy wq none ∧ Blk wq wr.heap.size 29 #[.int .i64 kk, .string ⟨tt.toArray⟩, .int .i64 A]) (fun v10 _ => A - (intOf v10).toNat)
      case atStart => exact ⟨e, rfl, Nat.le_refl _, hAe, S1.out.symm, only_drewN (only_alloc HG.out _) _, Blk.drewN (Blk.new wr 29 _) _⟩
      case round =>
        obtain ⟨k, rfl, hek, hkA, hbl, hg5, hb5⟩ := hrel
        have HG5 := hide hg5
        have HB5 := hide hb5
        have d2 := Blk.cell hb5 2
        have z2 := Blk.frozen hb5 2
        have lb := Blk.lt hb5
        clear hg5 hb5
        by_cases hka : k < A
        · have q1 : decide ((k : Int) < (A : Int)) = true := decide_eq_true (by omega)
          obtain ⟨hkl, hAl, hcase⟩ := blank_first hka hbl
          have hat := str_at' l k hkl
          have hkb : (0 : Int) ≤ k ∧ (k : Int) < (l.length : Int) := by omega
          obtain ⟨c, hc⟩ : ∃ c, l[k] = c := ⟨_, rfl⟩
          rw [hc] at hat hcase
          clear hbl
          rcases hcase with ⟨hc1 | hc1, hn⟩ | ⟨hc1, hk1, ⟨hk2, hc2⟩, hn⟩ | ⟨hc1, hn, h0⟩
          · subst hc1
            have Hn := hide hn
            clear hn hc
            go_wp2_with fail
            go_roundw
            case rel => exact ⟨k + 1, by go_num, by omega, by omega, Hn.out, HG5.out, HB5.out⟩
            case measure => simp [intOf]; omega
          · subst hc1
            have Hn := hide hn
            clear hn hc
            go_wp2_with fail
            go_roundw
            case rel => exact ⟨k + 1, by go_num, by omega, by omega, Hn.out, HG5.out, HB5.out⟩
            case measure => simp [intOf]; omega
          · subst hc1
            have Hn := hide hn
            have hat2 := str_at' l (k + 1) hk2
            rw [hc2] at hat2
            have hkb2 : (0 : Int) ≤ (k : Int) + 1 ∧ (k : Int) + 1 < (l.length : Int) := by omega
            have q2 : decide ((k : Int) + 1 < (A : Int)) = true := decide_eq_true (by omega)
            have hA2 : k + 2 ≤ A := by have := Hn.out; omega
            clear hn hc hc2
            go_wp2_with fail
            go_roundw
            case rel => exact ⟨k + 2, by go_num, by omega, hA2, Hn.out, HG5.out, HB5.out⟩
            case measure => simp [intOf]; omega
          · subst hc1
            have Hn := hide hn
            have H0 := hide h0
            clear hn h0 hc
            go_wp2_with fail
            go_loopw [10] (fun v10 wp => ∃ k : Nat, v10 = .int .i64 k ∧ e ≤ k ∧ k ≤ A ∧ k + ((l.drop k).takeWhile (· != 10)).length = A ∧ wp = wr) (fun v10 _ => A - (intOf v10).toNat)
            case atStart => exact ⟨k, rfl, hek, hkA, Hn.out, rfl⟩
            case round =>
              obtain ⟨k2, rfl, hek2, hkA2, hn2, rfl⟩ := hrel
              by_cases hka2 : k2 < A
              · have q1 : decide ((k2 : Int) < (A : Int)) = true := decide_eq_true (by omega)
                obtain ⟨hkl2, hne, hn3⟩ := note_next hn2 hka2
                have hat := str_at' l k2 hkl2
                have hkb : (0 : Int) ≤ k2 ∧ (k2 : Int) < (l.length : Int) := by omega
                obtain ⟨c, hc⟩ : ∃ c, l[k2] = c := ⟨_, rfl⟩
                rw [hc] at hat hne
                have q10 : ((c.toNat : Int) == 10) = false := byte_ne (d := 10) hne
                have q10' : ((c.toNat : Int) != 10) = true := by simp only [bne, q10]; rfl
                have Hn3 := hide hn3
                clear hn3 hn2 hc hne
                go_wp2_with fail
                go_roundw
                case rel => exact ⟨k2 + 1, by go_num, by omega, by omega, Hn3.out, trivial⟩
                case measure => simp [intOf]; omega
              · obtain rfl : k2 = A := by omega
                go_wp2_with fail
                go_roundw
                case rel => exact ⟨k2, rfl, hek2, Nat.le_refl _, by rw [H0.out]; rfl, HG5.out, HB5.out⟩
                case measure => simp [intOf]; omega
        · obtain rfl : k = A := by omega
          have d0 := Blk.cell HB5.out 0
          have d1 := Blk.cell HB5.out 1
          have z0 := Blk.frozen HB5.out 0
          have z1 := Blk.frozen HB5.out 1
          by_cases hk4 : kk = 4
          · have e1 : tt = [] := (S5.out hk4).1
            have e2 : k = l.length := (S5.out hk4).2
            have e3 : i + 1 = T.length := S4.out.1 hk4
            have e4 : ((i : Int) == (T.length : Int) - 1) = true := by rw [beq_iff_eq]; omega
            have e5 : ((k : Int) == (l.length : Int)) = true := by rw [beq_iff_eq]; omega
            have e6 : ((k : Int) != (l.length : Int)) = false := by simp only [bne, e5]; rfl
            have S6' := S6.out
            subst hk4
            subst e1
            have HS6 := hide S6'
            clear S6' S6 e3 hbl S1 e2
            go_wp2_with fail
            go_roundw
            case rel => exact ⟨k, i + 1, by go_num, by go_num, by omega, by omega, HS6.out, HG5.out⟩
            case measure => simp [intOf]; omega
          · have e3 : ¬ i + 1 = T.length := fun h => hk4 (S4.out.2 h)
            have e4 : ((i : Int) == (T.length : Int) - 1) = false := by rw [beq_eq_false_iff_ne]; omega
            have e5 : ((kk : Int) == 4) = false := by rw [beq_eq_false_iff_ne]; omega
            clear hbl e3 hk4
            go_wp2_with fail
            go_roundw
            case rel => exact ⟨k + tt.length, i + 1, by go_num, by go_num, by omega, s2, S6.out, HG5.out⟩
            case measure => simp [intOf]; omega
    · obtain rfl : i = T.length := by omega
      go_wp2_with fail
      go_ret
      exact ⟨rfl, none_trans G3.out hgr⟩
theorem stands_any (l : List UInt8) (w : World) (hl : l.length ≤ maxLen) : Calls Try.prog 5 #[sv l] w fun e w' => e = .returned (.bool true) ∧ w.grownBy w' none := by
  unfold maxLen at hl
  cases h : allF l with
  | ok T => exact stands_ok l T h w (by omega)
  | err a k => exact stands_err l a k h w (by omega)

end Go.Proofs.Ytnamfafpdlieeaa
