/- slices.Equal. -/
import Derived.Test.YtdhfhphbkfgamaaTK
namespace Go.Proofs.Ytdhfhphbkfgamaa
open Go.RowKit Lx
set_option maxRecDepth 100000

theorem grown2 {a b c : World} (h : a.grownBy b none) (k : b.grownBy c none) : a.grownBy c none :=
  Chg.grown (Chg.trans (Chg.of_grown h (fun k hk => by cases hk) : Chg nobody a b) (Chg.of_grown k (fun k hk => by cases hk) : Chg nobody b c) (fun _ _ h => h)) (fun _ _ h => h)
set_option maxHeartbeats 4000000 in
theorem eqstr_any (n0 : Nat) (a b : List (List UInt8)) (v1 v2 : Value) (w : World) (h1 : StrR n0 w v1 a) (h2 : StrR n0 w v2 b) :
    Calls Try.prog 39 #[v1, v2] w fun e w' => e = .returned (.bool (decide (a = b))) ∧ w.grownBy w' none := by
  obtain ⟨p1, c1, rfl, _, m1, _⟩ := h1.now
  obtain ⟨p2, c2, rfl, _, m2, _⟩ := h2.now
  have H1 := hide h1
  have H2 := hide h2
  have hm1 : (a.length : Int) ≤ 9223372036854775807 := by omega
  have hm2 : (b.length : Int) ≤ 9223372036854775807 := by omega
  clear h1 h2
  by_cases hl : a.length = b.length
  · have q0 : ((a.length : Int) != (b.length : Int)) = false := by rw [hl]; simp
    have HL := hide hl
    clear hl
    go_enter Try.func39, Try.ntmps39
    go_wp2_with fail
    go_loopw [13] (fun v wr => ∃ i : Nat, v = .int .i64 i ∧ i ≤ a.length ∧ a.take i = b.take i ∧ w.grownBy wr none) (fun v _ => a.length - (intOf v).toNat)
    case atStart => exact ⟨0, rfl, Nat.zero_le _, rfl, only_refl _ _⟩
    case round =>
      obtain ⟨i, rfl, hi, htk, hg⟩ := hrel
      have HTK := hide htk
      have HG := hide hg
      clear htk
      by_cases hlt : i < a.length
      · have q1 : decide ((i : Int) < (a.length : Int)) = true := decide_eq_true (by omega)
        have hlt2 : i < b.length := by rw [← HL.out]; exact hlt
        have i1 : (0 : Int) ≤ i ∧ (i : Int) < (a.length : Int) := by omega
        have i2 : (0 : Int) ≤ i ∧ (i : Int) < (b.length : Int) := by omega
        have hF := PF.of_grown (n0 := n0) hg
        obtain ⟨g1, o1, ha, l1, f0x⟩ := (StrR.pf H1.out hF).get i hlt
        obtain ⟨g2, o2, hb, l2, f0y⟩ := (StrR.pf H2.out hF).get i hlt2
        obtain ⟨x, hx⟩ : ∃ x, a[i] = x := ⟨_, rfl⟩
        obtain ⟨y, hy⟩ : ∃ y, b[i] = y := ⟨_, rfl⟩
        rw [hx] at f0x
        rw [hy] at f0y
        subst ha hb
        by_cases hxy : x = y
        · subst hxy
          have HN := hide (show a.take (i + 1) = b.take (i + 1) by rw [List.take_succ_eq_append_getElem hlt, List.take_succ_eq_append_getElem hlt2, HTK.out, hx, hy])
          clear hx hy hF hg
          unfold sv at f0x f0y
          go_wp2_with fail
          go_quiet (fail)
          all_goals (try (rename_i nq; exact absurd rfl (by assumption)))
          rename_i nq
          have hgd := hide (grown2 HG.out (grown_drewN _ nq))
          go_wp2_with fail
          go_roundw
          case rel => exact ⟨i + 1, by go_num, by omega, HN.out, hgd.out⟩
          case measure => simp [intOf]; omega
        · have hne : decide (a = b) = false := by
            rw [decide_eq_false_iff_not]
            intro e
            subst e
            exact hxy (hx.symm.trans hy)
          have HNE := hide hne
          clear hx hy hF hg hne
          have hq : ((ByteArray.mk x.toArray) == ⟨y.toArray⟩) = false := by rw [sv_beq, beq_eq_false_iff_ne]; exact hxy
          have hq2 : ((ByteArray.mk x.toArray) != ⟨y.toArray⟩) = true := by rw [bne, hq]; rfl
          have hq4 : (x == y) = false := by rw [beq_eq_false_iff_ne]; exact hxy
          have hq3 : ¬ (ByteArray.mk x.toArray = ⟨y.toArray⟩) := fun e => hxy (sv_eq.1 e)
          unfold sv at f0x f0y
          go_wp2_with fail
          go_quiet (fail)
          rename_i nq
          have hgd := hide (grown2 HG.out (grown_drewN _ nq))
          go_wp2_with fail
          go_ret
          exact ⟨by rw [HNE.out]; rfl, hgd.out⟩
      · obtain rfl : i = a.length := by omega
        have q1 : decide ((a.length : Int) < (a.length : Int)) = false := decide_eq_false (by omega)
        have heq : decide (a = b) = true := by
          rw [decide_eq_true_eq]
          have := HTK.out
          rw [List.take_length, HL.out, List.take_length] at this
          exact this
        have HEQ := hide heq
        clear heq hg
        go_wp2_with fail
        go_ret
        exact ⟨by rw [HEQ.out]; rfl, HG.out⟩
  · have q0 : ((a.length : Int) != (b.length : Int)) = true := by simp; omega
    have hne : decide (a = b) = false := by
      rw [decide_eq_false_iff_not]
      intro e
      rw [e] at hl
      exact hl rfl
    rw [hne]
    clear hne
    go_enter Try.func39, Try.ntmps39
    go_wp2_with fail
    go_ret
    exact ⟨rfl, only_refl _ _⟩
set_option maxHeartbeats 4000000 in
theorem eqint_any (n0 : Nat) (a b : List Int) (v1 v2 : Value) (w : World) (h1 : IntR n0 w v1 a) (h2 : IntR n0 w v2 b) :
    Calls Try.prog 41 #[v1, v2] w fun e w' => e = .returned (.bool (decide (a = b))) ∧ w.grownBy w' none := by
  obtain ⟨p1, c1, rfl, _, m1, _⟩ := h1.now
  obtain ⟨p2, c2, rfl, _, m2, _⟩ := h2.now
  have H1 := hide h1
  have H2 := hide h2
  have hm1 : (a.length : Int) ≤ 9223372036854775807 := by omega
  have hm2 : (b.length : Int) ≤ 9223372036854775807 := by omega
  clear h1 h2
  by_cases hl : a.length = b.length
  · have q0 : ((a.length : Int) != (b.length : Int)) = false := by rw [hl]; simp
    have HL := hide hl
    clear hl
    go_enter Try.func41, Try.ntmps41
    go_wp2_with fail
    go_loopw [13] (fun v wr => ∃ i : Nat, v = .int .i64 i ∧ i ≤ a.length ∧ a.take i = b.take i ∧ w.grownBy wr none) (fun v _ => a.length - (intOf v).toNat)
    case atStart => exact ⟨0, rfl, Nat.zero_le _, rfl, only_refl _ _⟩
    case round =>
      obtain ⟨i, rfl, hi, htk, hg⟩ := hrel
      have HTK := hide htk
      have HG := hide hg
      clear htk
      by_cases hlt : i < a.length
      · have q1 : decide ((i : Int) < (a.length : Int)) = true := decide_eq_true (by omega)
        have hlt2 : i < b.length := by rw [← HL.out]; exact hlt
        have i1 : (0 : Int) ≤ i ∧ (i : Int) < (a.length : Int) := by omega
        have i2 : (0 : Int) ≤ i ∧ (i : Int) < (b.length : Int) := by omega
        have hF := PF.of_grown (n0 := n0) hg
        obtain ⟨g1, o1, ha, l1, f0x⟩ := (IntR.pf H1.out hF).get i hlt
        obtain ⟨g2, o2, hb, l2, f0y⟩ := (IntR.pf H2.out hF).get i hlt2
        obtain ⟨x, hx⟩ : ∃ x, a[i] = x := ⟨_, rfl⟩
        obtain ⟨y, hy⟩ : ∃ y, b[i] = y := ⟨_, rfl⟩
        rw [hx] at f0x
        rw [hy] at f0y
        subst ha hb
        by_cases hxy : x = y
        · subst hxy
          have HN := hide (show a.take (i + 1) = b.take (i + 1) by rw [List.take_succ_eq_append_getElem hlt, List.take_succ_eq_append_getElem hlt2, HTK.out, hx, hy])
          clear hx hy hF hg
          go_wp2_with fail
          go_quiet (fail)
          all_goals (try (rename_i nq; exact absurd rfl (by assumption)))
          rename_i nq
          have hgd := hide (grown2 HG.out (grown_drewN _ nq))
          go_wp2_with fail
          go_roundw
          case rel => exact ⟨i + 1, by go_num, by omega, HN.out, hgd.out⟩
          case measure => simp [intOf]; omega
        · have hne : decide (a = b) = false := by
            rw [decide_eq_false_iff_not]
            intro e
            subst e
            exact hxy (hx.symm.trans hy)
          have HNE := hide hne
          clear hx hy hF hg hne
          have hq : (x == y) = false := by rw [beq_eq_false_iff_ne]; exact hxy
          have hq2 : (x != y) = true := by rw [bne, hq]; rfl
          go_wp2_with fail
          go_quiet (fail)
          rename_i nq
          have hgd := hide (grown2 HG.out (grown_drewN _ nq))
          go_wp2_with fail
          go_ret
          exact ⟨by rw [HNE.out]; rfl, hgd.out⟩
      · obtain rfl : i = a.length := by omega
        have q1 : decide ((a.length : Int) < (a.length : Int)) = false := decide_eq_false (by omega)
        have heq : decide (a = b) = true := by
          rw [decide_eq_true_eq]
          have := HTK.out
          rw [List.take_length, HL.out, List.take_length] at this
          exact this
        have HEQ := hide heq
        clear heq hg
        go_wp2_with fail
        go_ret
        exact ⟨by rw [HEQ.out]; rfl, HG.out⟩
  · have q0 : ((a.length : Int) != (b.length : Int)) = true := by simp; omega
    have hne : decide (a = b) = false := by
      rw [decide_eq_false_iff_not]
      intro e
      rw [e] at hl
      exact hl rfl
    rw [hne]
    clear hne
    go_enter Try.func41, Try.ntmps41
    go_wp2_with fail
    go_ret
    exact ⟨rfl, only_refl _ _⟩
set_option maxHeartbeats 4000000 in
theorem eqrd_any (n0 : Nat) (a b : List Rd) (v1 v2 : Value) (w : World) (h1 : RdR n0 w v1 a) (h2 : RdR n0 w v2 b) :
    Calls Try.prog 40 #[v1, v2] w fun e w' => e = .returned (.bool (decide (a = b))) ∧ w.grownBy w' none := by
  obtain ⟨p1, c1, rfl, _, m1, _⟩ := h1.now
  obtain ⟨p2, c2, rfl, _, m2, _⟩ := h2.now
  have H1 := hide h1
  have H2 := hide h2
  have hm1 : (a.length : Int) ≤ 9223372036854775807 := by omega
  have hm2 : (b.length : Int) ≤ 9223372036854775807 := by omega
  clear h1 h2
  by_cases hl : a.length = b.length
  · have q0 : ((a.length : Int) != (b.length : Int)) = false := by rw [hl]; simp
    have HL := hide hl
    clear hl
    go_enter Try.func40, Try.ntmps40
    go_wp2_with fail
    go_loopw [13] (fun v wr => ∃ i : Nat, v = .int .i64 i ∧ i ≤ a.length ∧ a.take i = b.take i ∧ w.grownBy wr none) (fun v _ => a.length - (intOf v).toNat)
    case atStart => exact ⟨0, rfl, Nat.zero_le _, rfl, only_refl _ _⟩
    case round =>
      obtain ⟨i, rfl, hi, htk, hg⟩ := hrel
      have HTK := hide htk
      have HG := hide hg
      clear htk
      by_cases hlt : i < a.length
      · have q1 : decide ((i : Int) < (a.length : Int)) = true := decide_eq_true (by omega)
        have hlt2 : i < b.length := by rw [← HL.out]; exact hlt
        have i1 : (0 : Int) ≤ i ∧ (i : Int) < (a.length : Int) := by omega
        have i2 : (0 : Int) ≤ i ∧ (i : Int) < (b.length : Int) := by omega
        have hF := PF.of_grown (n0 := n0) hg
        obtain ⟨g1, o1, ha, l1, f0x, f1x, f2x⟩ := (RdR.pf H1.out hF).get i hlt
        obtain ⟨g2, o2, hb, l2, f0y, f1y, f2y⟩ := (RdR.pf H2.out hF).get i hlt2
        obtain ⟨x, hx⟩ : ∃ x, a[i] = x := ⟨_, rfl⟩
        obtain ⟨y, hy⟩ : ∃ y, b[i] = y := ⟨_, rfl⟩
        rw [hx] at f0x f1x f2x
        rw [hy] at f0y f1y f2y
        subst ha hb
        by_cases hxy : x = y
        · subst hxy
          have HN := hide (show a.take (i + 1) = b.take (i + 1) by rw [List.take_succ_eq_append_getElem hlt, List.take_succ_eq_append_getElem hlt2, HTK.out, hx, hy])
          clear hx hy hF hg
          unfold sv at f1x f1y f2x f2y
          go_wp2_with fail
          go_quiet (fail)
          all_goals (try (rename_i nq; exact absurd rfl (by assumption)))
          rename_i nq
          have hgd := hide (grown2 HG.out (grown_drewN _ nq))
          go_wp2_with fail
          go_roundw
          case rel => exact ⟨i + 1, by go_num, by omega, HN.out, hgd.out⟩
          case measure => simp [intOf]; omega
        · have hne : decide (a = b) = false := by
            rw [decide_eq_false_iff_not]
            intro e
            subst e
            exact hxy (hx.symm.trans hy)
          have HNE := hide hne
          clear hx hy hF hg hne
          have hq : (x.fd == y.fd && (x.op == y.op && x.wd == y.wd)) = false := by
            rw [Bool.eq_false_iff]
            intro h
            simp only [Bool.and_eq_true, beq_iff_eq] at h
            apply hxy
            cases x
            cases y
            simp_all
          unfold sv at f1x f1y f2x f2y
          go_wp2_with fail
          refine wp_region_qtail 8 (by kernel_rfl) (by kernel_rfl) ?_
          simp only [List.take_succ_cons, List.take_zero, List.drop_succ_cons, List.drop_zero]
          repeat (go_big_quiet_step (fail))
          refine wpQuiet_nil ?_
          rintro _ ⟨nq, rfl⟩
          have hgd := hide (grown2 HG.out (grown_drewN _ nq))
          go_wp2_with fail
          all_goals (first | (exfalso; apply hxy; cases x; cases y; simp_all; done) | (go_ret; exact ⟨by rw [HNE.out]; rfl, hgd.out⟩))
      · obtain rfl : i = a.length := by omega
        have q1 : decide ((a.length : Int) < (a.length : Int)) = false := decide_eq_false (by omega)
        have heq : decide (a = b) = true := by
          rw [decide_eq_true_eq]
          have := HTK.out
          rw [List.take_length, HL.out, List.take_length] at this
          exact this
        have HEQ := hide heq
        clear heq hg
        go_wp2_with fail
        go_ret
        exact ⟨by rw [HEQ.out]; rfl, HG.out⟩
  · have q0 : ((a.length : Int) != (b.length : Int)) = true := by simp; omega
    have hne : decide (a = b) = false := by
      rw [decide_eq_false_iff_not]
      intro e
      rw [e] at hl
      exact hl rfl
    rw [hne]
    clear hne
    go_enter Try.func40, Try.ntmps40
    go_wp2_with fail
    go_ret
    exact ⟨rfl, only_refl _ _⟩

end Go.Proofs.Ytdhfhphbkfgamaa
