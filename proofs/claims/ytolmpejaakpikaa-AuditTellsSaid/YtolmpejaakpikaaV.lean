/- The document's well is one step of the list. -/
import Derived.Test.YtolmpejaakpikaaN
import Derived.Test.YtolmpejaakpikaaX
import Derived.Test.YtolmpejaakpikaaY
set_option linter.all false
namespace Go.Proofs.Ytolmpejaakpikaa
open Go.RowKit Go.Maps

/-- What a step leaves: on false nothing of the others is touched, on true the table is the next one. -/
def RPost (w w' : World) (b : Nat) (v : Value) (q : RS × Bool) (x : Ending) : Prop := x = .returned (.bool q.2) ∧ Chg (rOwn b v) w w' ∧ (q.2 = true → RTo w w' b (rOwn b v) q.1)
theorem rpost_no {w w' : World} {b : Nat} {v : Value} {r : RS} {x : Ending} (hp : x = .returned (.bool false) ∧ w.grownBy w' none) : RPost w w' b v (r, false) x :=
  ⟨hp.1, Chg.of_grown hp.2 (fun _ h => by cases h), fun h => by cases h⟩
theorem rpost_keep {w w' : World} {b : Nat} {v : Value} {r : RS} {x : Ending} (h : RAt w b v r) (hp : x = .returned (.bool true) ∧ w.grownBy w' none) : RPost w w' b v (r, true) x :=
  ⟨hp.1, Chg.of_grown hp.2 (fun _ h => by cases h), fun _ => ⟨v, h.gr hp.2, fun _ hk => .inl hk, Chg.of_grown hp.2 (fun _ h => by cases h)⟩⟩
theorem rpost_to {w w' : World} {b : Nat} {v : Value} {r : RS} {x : Ending} (hp : x = .returned (.bool true) ∧ RTo w w' b (rOwn b v) r) : RPost w w' b v (r, true) x :=
  ⟨hp.1, by obtain ⟨_, _, _, h⟩ := hp.2; exact h, fun _ => hp.2⟩

set_option maxHeartbeats 1000000 in
theorem rwell_any (b : Nat) (v : Value) (r : RS) (e : Ev) (w : World) (h : RAt w b v r) (hI : Inv r) (hlen : r.L.length < 1000000) :
    Calls Try.prog 10 #[.pointer (some ⟨b, 0, none⟩), .agg e.cells] w fun x w' => RPost w w' b v (stepR r e) x := by
  unfold stepR
  cases hi : idx r.L e.pid with
  | none => exact (rwell_none b v r e w h hi).mono fun _ _ hp => rpost_no hp
  | some n =>
    obtain ⟨hn, s, hs, hp⟩ := idx_some hi
    have hg : r.L.getD n pr0 = s := by rw [List.getD_eq_getElem?_getD, hs]; rfl
    simp only
    rw [hg]
    obtain ⟨pid, c, why, nt, pv⟩ := s
    simp only at hp
    subst hp
    by_cases hc : sameC c e.cr
    · have hce := hc.eq
      subst hce
      unfold dec
      simp only [hc, ne_eq, not_true_eq_false, if_false]
      by_cases hr : e.cr.e = 0 ∧ why = 0 ∧ pv = false
      · simp only [hr.1, hr.2.1, hr.2.2, and_self, if_true]
        exact (rwell_root b v r e w h n why nt pv hi hs hr).mono fun _ _ hp => rpost_no hp
      · simp only [hr, if_false]
        have hw : e.cr.e ≠ 0 ∨ (e.cr.e = 0 ∧ why ≠ 0) ∨ (e.cr.e = 0 ∧ why = 0 ∧ pv = true) := by
          by_cases a1 : e.cr.e = 0
          · by_cases a2 : why = 0
            · cases hpv : pv with
              | true => exact .inr (.inr ⟨a1, a2, rfl⟩)
              | false => exact absurd ⟨a1, a2, hpv⟩ hr
            · exact .inr (.inl ⟨a1, a2⟩)
          · exact .inl a1
        by_cases he : e.err = 0
        · simp only [he, ne_eq, not_true_eq_false, if_false]
          by_cases o1 : e.cl.op = 18
          · simp only [o1, if_true]
            by_cases hl : e.an < 2 ∨ e.an ≤ r.last
            · simp only [hl, if_true]
              exact (rwell_fork_bad b v r e w h n why nt pv hi hs hw he o1 hl).mono fun _ _ hp => rpost_no hp
            · simp only [hl, if_false]
              exact (rwell_fork_ok b v r e w h n why nt pv hi hs hw he o1 (by omega) (by omega) hlen).mono fun _ _ hp => rpost_to hp
          · simp only [o1, if_false]
            by_cases o2 : e.cl.op = 20
            · simp only [o2, if_true]
              by_cases hp1 : e.pid = 1
              · simp only [hp1, if_true]
                exact (rwell_exit_one b v r e w h n why nt pv hi hs hw he o2 hp1).mono fun _ _ hp => rpost_no hp
              · simp only [hp1, if_false]
                refine (rwell_exit b v r e w h n why nt pv hi hs hw he o2 hp1 ?_).mono fun _ _ hp => rpost_to hp
                obtain ⟨x, hx, h1⟩ := hI.one
                obtain ⟨i, hil, hix⟩ := List.getElem_of_mem hx
                have hin : i ≠ n := by
                  rintro rfl
                  rw [List.getElem?_eq_getElem hil, hix] at hs
                  injection hs with hs
                  subst hs
                  exact hp1 h1
                omega
            · simp only [o2, if_false]
              by_cases o3 : e.cl.op = 19
              · simp only [o3, if_true]
                obtain ⟨⟨R, y⟩, hE⟩ : ∃ q, execF e.cr (e.i 2) (e.i 3) = q := ⟨_, rfl⟩
                unfold execPc
                simp only [hE]
                by_cases hy : y = 0
                · subst hy
                  simp only [ne_eq, not_true_eq_false, if_false]
                  by_cases hR : R.e = 0
                  · simp only [hR, ne_eq, not_true_eq_false, if_false]
                    rcases hw with a | ⟨a, a2⟩ | ⟨a, a2, a3⟩
                    · by_cases a2 : why = 0
                      · cases hpv : pv with
                        | true =>
                          subst hpv
                          simp only [a2, Bool.true_eq_false, and_false, if_false]
                          have := rwell_exec_d1 b v r e w h n why nt hi hs R a a2 he o3 hE hR
                          rw [a2] at this
                          exact this.mono fun _ _ hp => rpost_to hp
                        | false =>
                          subst hpv
                          simp only [a2, and_self, if_true]
                          exact (rwell_exec_b b v r e w h n why nt hi hs R a a2 he o3 hE hR).mono fun _ _ hp => rpost_to hp
                      · simp only [a2, false_and, if_false]
                        exact (rwell_exec_c1 b v r e w h n why nt pv hi hs R a a2 he o3 hE hR).mono fun _ _ hp => rpost_to hp
                    · simp only [a2, false_and, if_false]
                      exact (rwell_exec_c2 b v r e w h n why nt pv hi hs R a a2 he o3 hE hR).mono fun _ _ hp => rpost_to hp
                    · subst a3
                      simp only [Bool.true_eq_false, and_false, if_false]
                      exact (rwell_exec_d3 b v r e w h n why nt hi hs R a a2 he o3 hE hR).mono fun _ _ hp => rpost_to hp
                  · simp only [hR, ne_eq, not_false_eq_true, if_true]
                    rcases hw with a | ⟨a, a2⟩ | ⟨a, a2, a3⟩
                    · exact (rwell_exec_a1 b v r e w h n why nt pv hi hs R a he o3 hE hR).mono fun _ _ hp => rpost_to hp
                    · exact (rwell_exec_a2 b v r e w h n why nt pv hi hs R a a2 he o3 hE hR).mono fun _ _ hp => rpost_to hp
                    · subst a3
                      exact (rwell_exec_a3 b v r e w h n why nt hi hs R a a2 he o3 hE hR).mono fun _ _ hp => rpost_to hp
                · simp only [hy, ne_eq, not_false_eq_true, if_true]
                  rcases hw with a | ⟨a, a2⟩ | ⟨a, a2, a3⟩
                  · exact (rwell_exec_bad1 b v r e w h n why nt pv hi hs R y a he o3 hE hy).mono fun _ _ hp => rpost_no hp
                  · exact (rwell_exec_bad2 b v r e w h n why nt pv hi hs R y a a2 he o3 hE hy).mono fun _ _ hp => rpost_no hp
                  · subst a3
                    exact (rwell_exec_bad3 b v r e w h n why nt hi hs R y a a2 he o3 hE hy).mono fun _ _ hp => rpost_no hp
              · simp only [o3, if_false]
                by_cases o4 : e.cl.op = 23
                · simp only [o4, if_true]
                  obtain ⟨⟨R, y⟩, hE⟩ : ∃ q, ofF e.cl.own e.cl.grp = q := ⟨_, rfl⟩
                  unfold badBecome becomePc
                  simp only [hE]
                  by_cases a : e.cr.e = 0
                  · simp only [a, ne_eq, not_true_eq_false, decide_false, Bool.false_or]
                    cases nt with
                    | true =>
                      simp only [Bool.not_true, Bool.false_and, Bool.or_false, decide_eq_true_eq]
                      by_cases hy : y = 0
                      · subst hy
                        simp only [ne_eq, not_true_eq_false, if_false]
                        rcases hw with a' | ⟨_, a2⟩ | ⟨_, a2, a3⟩
                        · exact absurd a a'
                        · exact (rwell_become_okat b v r e w h n why pv hi hs R a a2 he o4 hE).mono fun _ _ hp => rpost_to hp
                        · subst a3
                          exact (rwell_become_okbt b v r e w h n why hi hs R a a2 he o4 hE).mono fun _ _ hp => rpost_to hp
                      · simp only [hy, ne_eq, not_false_eq_true, if_true]
                        rcases hw with a' | ⟨_, a2⟩ | ⟨_, a2, a3⟩
                        · exact absurd a a'
                        · exact (rwell_become_bad3at b v r e w h n why pv hi hs R y a a2 he o4 hE hy).mono fun _ _ hp => rpost_no hp
                        · subst a3
                          exact (rwell_become_bad3bt b v r e w h n why hi hs R y a a2 he o4 hE hy).mono fun _ _ hp => rpost_no hp
                    | false =>
                      cases pv with
                      | true =>
                        simp only [Bool.not_true, Bool.and_false, Bool.or_false, decide_eq_true_eq]
                        by_cases hy : y = 0
                        · subst hy
                          simp only [ne_eq, not_true_eq_false, if_false]
                          rcases hw with a' | ⟨_, a2⟩ | ⟨_, a2, _⟩
                          · exact absurd a a'
                          · exact (rwell_become_okaf b v r e w h n why hi hs R a a2 he o4 hE).mono fun _ _ hp => rpost_to hp
                          · exact (rwell_become_okbf b v r e w h n why hi hs R a a2 he o4 hE).mono fun _ _ hp => rpost_to hp
                        · simp only [hy, ne_eq, not_false_eq_true, if_true]
                          rcases hw with a' | ⟨_, a2⟩ | ⟨_, a2, _⟩
                          · exact absurd a a'
                          · exact (rwell_become_bad3af b v r e w h n why hi hs R y a a2 he o4 hE hy).mono fun _ _ hp => rpost_no hp
                          · exact (rwell_become_bad3bf b v r e w h n why hi hs R y a a2 he o4 hE hy).mono fun _ _ hp => rpost_no hp
                      | false =>
                        simp only [Bool.not_false, Bool.and_self, Bool.or_true, if_true]
                        rcases hw with a' | ⟨_, a2⟩ | ⟨_, _, a3⟩
                        · exact absurd a a'
                        · exact (rwell_become_bad2 b v r e w h n why hi hs R y a a2 he o4 hE).mono fun _ _ hp => rpost_no hp
                        · cases a3
                  · simp only [a, ne_eq, not_false_eq_true, decide_true, Bool.true_or, Bool.or_true, if_true]
                    exact (rwell_become_bad1 b v r e w h n why nt pv hi hs R y a he o4 hE).mono fun _ _ hp => rpost_no hp
                · simp only [o4, if_false]
                  by_cases o5 : e.cl.op = 26
                  · simp only [o5, if_true]
                    by_cases a : e.cr.e = 0
                    · simp only [a, ne_eq, not_true_eq_false, if_false]
                      rcases hw with a' | ⟨_, a2⟩ | ⟨_, a2, a3⟩
                      · exact absurd a a'
                      · cases nt with
                        | true => exact (rwell_note_at b v r e w h n why pv hi hs a a2 he o5).mono fun _ _ hp => rpost_to hp
                        | false => exact (rwell_note_af b v r e w h n why pv hi hs a a2 he o5).mono fun _ _ hp => rpost_to hp
                      · subst a3
                        cases nt with
                        | true => exact (rwell_note_bt b v r e w h n why hi hs a a2 he o5).mono fun _ _ hp => rpost_to hp
                        | false => exact (rwell_note_bf b v r e w h n why hi hs a a2 he o5).mono fun _ _ hp => rpost_to hp
                    · simp only [a, ne_eq, not_false_eq_true, if_true]
                      exact (rwell_note_bad b v r e w h n why nt pv hi hs a he o5).mono fun _ _ hp => rpost_no hp
                  · simp only [o5, if_false]
                    by_cases o6 : e.cl.op = 25
                    · simp only [o6, if_true]
                      by_cases a : e.cr.e = 0
                      · simp only [a, ne_eq, not_true_eq_false, if_false]
                        rcases hw with a' | ⟨_, a2⟩ | ⟨_, a2, a3⟩
                        · exact absurd a a'
                        · exact (rwell_take_a b v r e w h n why nt pv hi hs a a2 he o6).mono fun _ _ hp => rpost_to hp
                        · subst a3
                          exact (rwell_take_b b v r e w h n why nt hi hs a a2 he o6).mono fun _ _ hp => rpost_to hp
                      · simp only [a, ne_eq, not_false_eq_true, if_true]
                        exact (rwell_take_bad b v r e w h n why nt pv hi hs a he o6).mono fun _ _ hp => rpost_no hp
                    · simp only [o6, if_false]
                      exact (rwell_other b v r e w h n why nt pv hi hs hw he ⟨o1, o3, o2, o5, o4, o6⟩).mono fun _ _ hp => rpost_to hp
        · simp only [he, ne_eq, not_false_eq_true, if_true]
          exact (rwell_err b v r e w h n why nt pv hi hs hw he).mono fun _ _ hp => rpost_keep h hp
    · unfold dec
      simp only [hc, ne_eq, not_false_eq_true, if_true]
      exact (rwell_cred b v r e w h n c why nt pv hi hs hc).mono fun _ _ hp => rpost_no hp

end Go.Proofs.Ytolmpejaakpikaa
