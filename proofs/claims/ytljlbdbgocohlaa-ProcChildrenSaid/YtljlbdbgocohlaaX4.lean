/- The walk of ProcReaps. -/
import Derived.Test.YtljlbdbgocohlaaX3
namespace Go.Proofs.Ytljlbdbgocohlaa
open Go.RowKit Go.Maps Go.Deep

/-- All but the first of L0 up to k have been let exit. -/
structure ExSt (L0 : List Pr) (k : Nat) (st : PS) : Prop where
  inv : Inv st
  len : st.L.length = L0.length
  at_ : ∀ (i : Nat) (q : Pr), st.L[i]? = some q → ∃ p, L0[i]? = some p ∧ q.pid = p.pid ∧ q.dead = (p.dead || decide (1 ≤ i ∧ i < k)) ∧ (p.dead = false → (1 ≤ i ∧ i < k) → q.sta = p.pid)
theorem ExSt.start {st : PS} (h : Inv st) : ExSt st.L 1 st :=
  ⟨h, rfl, fun i q hq => ⟨q, hq, rfl, by rw [decide_eq_false (by omega)]; simp, fun _ h => absurd h (by omega)⟩⟩
theorem first_of {st : PS} (h : Inv st) : ∃ f r, st.L = f :: r ∧ f.pid = 1 ∧ f.par = 0 ∧ f.dead = false := by
  obtain ⟨r, hr⟩ := h.sg.one
  cases hL : st.L with
  | nil => rw [hL] at hr; cases hr
  | cons f l =>
    rw [hL, List.map_cons] at hr
    have := (List.cons.inj hr).1
    exact ⟨f, l, rfl, congrArg (fun g : Sg => g.1) this, congrArg (fun g : Sg => g.2.1) this, congrArg (fun g : Sg => g.2.2) this⟩
theorem pid_ne_one {st : PS} (h : Inv st) {k : Nat} {q : Pr} (hk : 1 ≤ k) (hq : st.L[k]? = some q) : q.pid ≠ 1 := by
  obtain ⟨f, r, hL, h1, _⟩ := first_of h
  have := h.inc (i := 0) (j := k) (p := f) (q := q) (by rw [hL]; rfl) hq (by omega)
  omega
theorem exit_step {L0 : List Pr} {k : Nat} {st : PS} (h : ExSt L0 k st) (hk : 1 ≤ k) {p : Pr} (hp : L0[k]? = some p) :
    (p.dead = true → ExSt L0 (k + 1) st) ∧ (p.dead = false → (exitRes st p.pid p.pid).2 = 0 ∧ ExSt L0 (k + 1) (exitRes st p.pid p.pid).1) := by
  refine ⟨fun hd => ⟨h.inv, h.len, fun i q hq => ?_⟩, fun hd => ?_⟩
  · obtain ⟨p', h1, h2, h3, h4⟩ := h.at_ i q hq
    refine ⟨p', h1, h2, ?_, fun e1 e2 => ?_⟩
    · rw [h3]
      by_cases hi : i = k
      · subst hi
        rw [hp] at h1
        cases h1
        rw [hd]
        simp
      · congr 1
        exact decide_eq_decide.2 (by omega)
    · by_cases hi : i = k
      · subst hi
        rw [hp] at h1
        cases h1
        rw [hd] at e1
        cases e1
      · exact h4 e1 (by omega)
  · have hkl : k < st.L.length := by rw [h.len]; exact (List.getElem?_eq_some_iff.1 hp).1
    obtain ⟨q, hq⟩ : ∃ q, st.L[k]? = some q := ⟨_, List.getElem?_eq_getElem hkl⟩
    obtain ⟨p', h1, h2, h3, _⟩ := h.at_ k q hq
    rw [hp] at h1
    cases h1
    have hqd : q.dead = false := by rw [h3, hd, decide_eq_false (by omega)]; rfl
    have hl := h.inv.live_at hq hqd
    rw [h2] at hl
    have h1 : p.pid ≠ 1 := h2 ▸ pid_ne_one h.inv hk hq
    have hinv := exit_inv h.inv p.pid p.pid
    unfold exitRes at hinv ⊢
    rw [hl] at hinv ⊢
    simp only [if_neg h1, getD_of hq] at hinv ⊢
    refine ⟨trivial, hinv, by simp [h.len], fun i x hx => ?_⟩
    rw [List.getElem?_map] at hx
    obtain ⟨y, hy, rfl⟩ := Option.map_eq_some_iff.1 hx
    have ho : ∀ z : Pr, (orphan p.pid z).pid = z.pid ∧ (orphan p.pid z).dead = z.dead ∧ (orphan p.pid z).sta = z.sta := fun z => by unfold orphan; split <;> exact ⟨rfl, rfl, rfl⟩
    rw [(ho y).1, (ho y).2.1, (ho y).2.2]
    by_cases hi : i = k
    · subst hi
      rw [List.getElem?_set_self hkl] at hy
      cases hy
      exact ⟨p, hp, h2, by simp [die, hk], fun _ _ => rfl⟩
    · rw [List.getElem?_set_ne (by omega)] at hy
      obtain ⟨p', g1, g2, g3, g4⟩ := h.at_ i y hy
      exact ⟨p', g1, g2, by rw [g3]; congr 1; exact decide_eq_decide.2 (by omega), fun e1 e2 => g4 e1 (by omega)⟩
/-- When all are dead but the first: they are its own. -/
structure Fin (L0 : List Pr) (k : Nat) (st : PS) : Prop where
  inv : Inv st
  form : ∃ f r, st.L = f :: r ∧ f.pid = 1 ∧ f.par = 0 ∧ f.dead = false ∧ r.length + k = L0.length ∧
    ∀ (i : Nat) (q : Pr), r[i]? = some q → q.par = 1 ∧ q.dead = true ∧ ∃ p, L0[i + k]? = some p ∧ q.pid = p.pid ∧ (p.dead = false → q.sta = p.pid)
theorem Fin.start {L0 : List Pr} {st : PS} (h : ExSt L0 L0.length st) : Fin L0 1 st := by
  obtain ⟨f, r, hL, h1, h2, h3⟩ := first_of h.inv
  have hall : ∀ (i : Nat) (q : Pr), r[i]? = some q → q.dead = true ∧ ∃ p, L0[i + 1]? = some p ∧ q.pid = p.pid ∧ (p.dead = false → q.sta = p.pid) := by
    intro i q hq
    have hq2 : st.L[i + 1]? = some q := by rw [hL]; exact hq
    obtain ⟨p, g1, g2, g3, g4⟩ := h.at_ (i + 1) q hq2
    have hlt := (List.getElem?_eq_some_iff.1 g1).1
    exact ⟨by rw [g3, decide_eq_true (by omega)]; simp, p, g1, g2, fun e => g4 e (by omega)⟩
  refine ⟨h.inv, f, r, hL, h1, h2, h3, by have := h.len; rw [hL] at this; simpa using this, fun i q hq => ?_⟩
  obtain ⟨hd, hp⟩ := hall i q hq
  refine ⟨?_, hd, hp⟩
  have hm : q ∈ st.L := by rw [hL]; exact List.mem_cons_of_mem _ (List.mem_of_getElem? hq)
  have hn1 : q.pid ≠ 1 := pid_ne_one h.inv (k := i + 1) (by omega) (by rw [hL]; exact hq)
  rcases h.inv.sg.par (sig q) (List.mem_map.2 ⟨q, hm, rfl⟩) with e | e | ⟨g, hg, e1, e2⟩
  · exact absurd e hn1
  · exact e
  · obtain ⟨z, hz, rfl⟩ := List.mem_map.1 hg
    rw [hL] at hz
    rcases List.mem_cons.1 hz with rfl | hz
    · have : z.pid = q.par := e1
      omega
    · obtain ⟨j, hj⟩ := List.getElem?_of_mem hz
      have := (hall j z hj).1
      have e2' : z.dead = false := e2
      rw [this] at e2'
      cases e2'
theorem isKid_first {f : Pr} (h : f.par = 0) : isKid 1 0 f = false := by simp [isKid, h]
theorem Fin.wait {L0 : List Pr} {k : Nat} {st : PS} (h : Fin L0 k st) {p : Pr} (hp : L0[k]? = some p) :
    ∃ x : Int, (waitRes st 1 0).2 = (p.pid, x, 0) ∧ (p.dead = false → x = p.pid) ∧ Fin L0 (k + 1) (waitRes st 1 0).1 := by
  obtain ⟨f, r, hL, h1, h2, h3, hlen, hall⟩ := h.form
  have hk := (List.getElem?_eq_some_iff.1 hp).1
  cases r with
  | nil => simp at hlen; omega
  | cons q r =>
    obtain ⟨g1, g2, p', g3, g4, g5⟩ := hall 0 q rfl
    rw [Nat.zero_add, hp] at g3
    cases g3
    have hlive : liveN st.L 1 = some 0 := by have := h.inv.live_at (k := 0) (p := f) (by rw [hL]; rfl) h3; rw [h1] at this; exact this
    have hwait : waitAt 1 0 st.L 0 = some 1 := by
      rw [wait_next (s := f) (by rw [hL]; rfl) (.inl (isKid_first h2))]
      exact wait_here (s := q) (by rw [hL]; rfl) (by simp [isKid, g1]) g2
    have hinv := (wait_inv h.inv 1 0).1
    unfold waitRes at hinv ⊢
    rw [hlive, hwait] at hinv ⊢
    simp only [getD_of (show st.L[1]? = some q from by rw [hL]; rfl)] at hinv ⊢
    have hdel : del st.L 1 = f :: r := by rw [hL]; rfl
    rw [hdel] at hinv ⊢
    refine ⟨q.sta, by rw [g4], g5, hinv, f, r, by rw [leaves_L]; rfl, h1, h2, h3, by simp at hlen; omega, fun i z hz => ?_⟩
    have := hall (i + 1) z hz
    rw [show i + 1 + k = i + (k + 1) by omega] at this
    exact this
theorem Fin.none_ {L0 : List Pr} {st : PS} (h : Fin L0 L0.length st) : (waitRes st 1 0) = (st, 0, 0, 16) ∧ st.L.length = 1 := by
  obtain ⟨f, r, hL, h1, h2, h3, hlen, hall⟩ := h.form
  have hr : r = [] := List.eq_nil_of_length_eq_zero (by omega)
  subst hr
  have hlive : liveN st.L 1 = some 0 := by have := h.inv.live_at (k := 0) (p := f) (by rw [hL]; rfl) h3; rw [h1] at this; exact this
  have hwait : waitAt 1 0 st.L 0 = none := by
    rw [wait_next (s := f) (by rw [hL]; rfl) (.inl (isKid_first h2)), waitAt, dif_neg (by rw [hL]; simp)]
  unfold waitRes
  rw [hlive, hwait]
  refine ⟨?_, by rw [hL]; rfl⟩
  rw [hL]
  simp [isKid_first h2]

set_option maxRecDepth 100000 in
set_option maxHeartbeats 4000000 in
theorem reaps_any (a : Option Addr) (len cap : Nat) (hlen : len ≤ 9223372036854775807) (w : World) (ha : OpsIn w a len) :
    Calls Try.prog 4 #[.slice a len cap] w fun e w' => e = .returned (.bool true) ∧ Below w.heap.size w w' := by
  have Ha := hide ha
  clear ha
  go_enter Try.func4, Try.ntmps4
  go_wp2_with fail
  go_at_call 7
  refine (shown_true w).mono ?_
  rintro e w1 ⟨rfl, hg⟩
  have G1 := hide hg
  clear hg
  go_wp2_with fail
  go_at_call 8
  refine (new_any w1).mono ?_
  rintro e w2 ⟨b, S, rfl, hF⟩
  have HF := hide hF
  clear hF
  go_wp2_with fail
  go_at_call 16
  refine (rnew_any w2).mono ?_
  rintro e w3 ⟨b', S', rfl, hR⟩
  have H0 := hide (both_start G1.out HF.out hR)
  clear hR G1 HF
  go_wp2_with fail
  go_loopw [6] (fun v wr => ∃ (k : Nat) (st : PS), v = .int .i64 k ∧ k ≤ 100 ∧ Inv st ∧ st.last ≤ 1 + k ∧ Both w wr b b' none_ st st.rs) (fun v _ => 100 - (intOf v).toNat)
  case atStart => exact ⟨0, newPS, rfl, by omega, new_inv, by decide, H0.out⟩
  case round =>
    obtain ⟨k, st, rfl, hk, hi, hl, hB⟩ := hrel
    clear H0
    by_cases hlt : k < len ∧ k < 100
    · obtain ⟨hlt, hlt2⟩ := hlt
      obtain ⟨ob, off, x0, x1, x2, x3, rfl, hb, -, -, hw2, c0, c1, c2, c3⟩ := Ha.out k hlt
      have hG := hB.grown
      have d0 := none_cell hG hb c0
      have d1 := none_cell hG hb c1
      have d2 := none_cell hG hb c2
      have d3 := none_cell hG hb c3
      have q1 : decide ((k : Int) < len) = true := by simp; omega
      have q3 : decide ((k : Int) < 100) = true := by simp; omega
      have HB1 := hide hB
      have Hi := hide hi
      clear hB hG hi c0 c1 c2 c3
      go_wp2_with fail
      go_at_call 17
      refine (does_any HB1.out Hi.out (by omega) x0 x1 x2 x3).mono ?_
      rintro e w4 ⟨rfl, st1, hB, hi1, hl1⟩
      have HB5 := hide hB
      have Hi1 := hide hi1
      clear hB hi1 HB1 d0 d1 d2 d3 Hi
      go_wp2_with fail
      go_roundw
      case rel => exact ⟨k + 1, st1, by go_num, by omega, Hi1.out, by omega, HB5.out⟩
      case measure => simp [intOf]; omega
    · have HB := hide hB.solo
      have Hi := hide hi
      clear hB hi
      by_cases hlt2 : k < len
      all_goals
        go_wp2_with fail
        go_at_call 18
        refine (sAll HB.out).mono ?_
        rintro e w8 ⟨g, aoff, acap, rfl, hP, hgn, hgr, o1, ho1⟩
        have HS := hide (HB.out.also hgr hgn ho1)
        have hlenL : 1 ≤ st.L.length ∧ st.L.length ≤ 53 := by have := Hi.out.len; have := Hi.out.pos; omega
        have HP := hide hP
        have Ho1 := hide ho1
        clear hP hgr hgn HB ho1
        go_wp2_with fail
        go_loopw [8] (fun v wi => ∃ (j : Nat) (st2 : PS), v = .int .i64 j ∧ 1 ≤ j ∧ j ≤ st.L.length ∧ ExSt st.L j st2 ∧ SoloK w wi b (lay none_ g o1) st2) (fun v _ => st.L.length - (intOf v).toNat)
        case atStart => exact ⟨1, st, rfl, by omega, by omega, ExSt.start Hi.out, HS.out⟩
        case round =>
          obtain ⟨j, st2, rfl, hj1, hj, hE2, hS2⟩ := hrel
          have hpw := HP.out.held Ho1.out (hS2.held (.inl ⟨rfl, rfl⟩))
          by_cases hjl : j < st.L.length
          · obtain ⟨s, hs⟩ : ∃ s, st.L[j]? = some s := ⟨_, List.getElem?_eq_getElem hjl⟩
            obtain ⟨p0, p1, p2, p3, p4, p5, p6⟩ := hpw.c rfl hjl hs
            have q5 : decide ((j : Int) < (st.L.length : Int)) = true := by simp; omega
            have i1 : (0 : Int) ≤ j ∧ (j : Int) < (st.L.length : Int) := by omega
            obtain ⟨hstd, hsta⟩ := exit_step hE2 hj1 hs
            have HS2 := hide hS2
            have HE2 := hide hE2
            have Hs := hide hs
            clear hS2 hE2 hs hpw
            cases hd : s.dead with
            | true =>
              rw [hd] at p5
              have HE3 := hide (hstd hd)
              clear hd hstd hsta
              go_wp2_with fail
              go_quiet (fail)
              go_wp2_with fail
              go_roundw
              case rel => exact ⟨j + 1, st2, by go_num, by omega, by omega, HE3.out, HS2.out.gr_ (only_drewN (only_refl _ none) nq)⟩
              case measure => simp [intOf]; omega
            | false =>
              rw [hd] at p5
              obtain ⟨hres, hE3⟩ := hsta hd
              have HE3 := hide hE3
              have hcall := sExit (hide (HS2.out.gr_ (only_drew (only_refl wr none)))) s.pid s.pid hres
              have Hcall := hide hcall
              have Hcells : Hid (∀ (W : World) (X : PS), SoloK w W b (lay none_ g o1) X → W.cell? ⟨g, aoff + j * 7 + 5, none⟩ = some (.bool false) ∧ W.cell? ⟨g, aoff + j * 7, none⟩ = some (.int .i64 s.pid)) :=
                hide (fun W X h => by
                  obtain ⟨c0, _, _, _, _, c5, _⟩ := (HP.out.held Ho1.out (h.held (.inl ⟨rfl, rfl⟩))).c rfl hjl Hs.out
                  rw [hd] at c5
                  exact ⟨c5, c0⟩)
              clear hd hstd hsta hres hE3 hcall
              go_wp2_with fail
              have hq5 : wr.drew.cell? ⟨g, aoff + j * 7 + 5, none⟩ = some (.bool false) := p5
              have hq0 : wr.drew.cell? ⟨g, aoff + j * 7, none⟩ = some (.int .i64 s.pid) := p0
              go_region_held3 (fun w' => w'.cell? ⟨g, aoff + j * 7 + 5, none⟩ = some (.bool false) ∧ w'.cell? ⟨g, aoff + j * 7, none⟩ = some (.int .i64 s.pid)) (first | go_keep | exact Hcells.out _ _ H3.out) ((go_at_call 12; refine Hcall.out.mono ?_; rintro e w9 ⟨rfl, H3⟩))
              clear hq5 hq0 p0 p1 p2 p3 p4 p5 p6
              go_wp2_with fail
              go_roundw
              case rel => exact ⟨j + 1, _, by go_num, by omega, by omega, HE3.out, H3.out⟩
              case measure => simp [intOf]; omega
          · obtain rfl : j = st.L.length := by omega
            have HF := hide (Fin.start hE2)
            have HS2 := hide hS2
            have q5 : decide ((st.L.length : Int) < (st.L.length : Int)) = false := by simp
            clear hE2 hS2 hpw HS
            go_wp2_with fail
            go_loopw [9] (fun v wi => ∃ (j : Nat) (st3 : PS), v = .int .i64 j ∧ 1 ≤ j ∧ j ≤ st.L.length ∧ Fin st.L j st3 ∧ SoloK w wi b (lay none_ g o1) st3) (fun v _ => st.L.length - (intOf v).toNat)
            case atStart => exact ⟨1, st2, rfl, by omega, by omega, HF.out, HS2.out⟩
            case round =>
              obtain ⟨j, st3, rfl, hj1, hj, hF3, hS3⟩ := hrel
              have hpw := HP.out.held Ho1.out (hS3.held (.inl ⟨rfl, rfl⟩))
              by_cases hjl : j < st.L.length
              · obtain ⟨s, hs⟩ : ∃ s, st.L[j]? = some s := ⟨_, List.getElem?_eq_getElem hjl⟩
                have q5 : decide ((j : Int) < (st.L.length : Int)) = true := by simp; omega
                have i1 : (0 : Int) ≤ j ∧ (j : Int) < (st.L.length : Int) := by omega
                obtain ⟨x, hwr, hx, hF4⟩ := hF3.wait hs
                have hcall := sWait (hide hS3) hF3.inv 1 0 hwr
                have Hcall := hide hcall
                have HF4 := hide hF4
                have Hcells : Hid (∀ (W : World) (X : PS), SoloK w W b (lay none_ g o1) X → W.cell? ⟨g, aoff + j * 7, none⟩ = some (.int .i64 s.pid) ∧ W.cell? ⟨g, aoff + j * 7 + 5, none⟩ = some (.bool s.dead)) :=
                  hide (fun W X h => by
                    obtain ⟨c0, _, _, _, _, c5, _⟩ := (HP.out.held Ho1.out (h.held (.inl ⟨rfl, rfl⟩))).c rfl hjl hs
                    exact ⟨c0, c5⟩)
                clear hF3 hS3 hpw hwr hF4 hcall hs
                go_wp2_with fail
                go_at_call 15
                refine Hcall.out.mono ?_
                rintro e w9 ⟨rfl, H3⟩
                obtain ⟨p0, p5⟩ := Hcells.out _ _ H3.out
                have qp : (s.pid != s.pid) = false := by simp
                cases hd : s.dead with
                | true =>
                  rw [hd] at p5
                  clear hd hx
                  go_wp2_with fail
                  go_roundw
                  case rel => exact ⟨j + 1, _, by go_num, by omega, by omega, HF4.out, H3.out⟩
                  case measure => simp [intOf]; omega
                | false =>
                  rw [hd] at p5
                  obtain rfl := hx hd
                  clear hd hx
                  go_wp2_with fail
                  go_roundw
                  case rel => exact ⟨j + 1, _, by go_num, by omega, by omega, HF4.out, H3.out⟩
                  case measure => simp [intOf]; omega
              · obtain rfl : j = st.L.length := by omega
                have q5 : decide ((st.L.length : Int) < (st.L.length : Int)) = false := by simp
                obtain ⟨hw1, hl1⟩ := hF3.none_
                have hcall := sWait (hide hS3) hF3.inv 1 0 (x := 0) (y := 0) (z := 16) (by rw [hw1])
                rw [hw1] at hcall
                have Hcall := hide hcall
                have Hl1 := hide hl1
                clear hF3 hS3 hpw hw1 hcall hl1
                go_wp2_with fail
                go_at_call 15
                refine Hcall.out.mono ?_
                rintro e w9 ⟨rfl, H3⟩
                go_wp2_with fail
                go_at_call 18
                refine (sAll H3.out).mono ?_
                rintro e w10 ⟨g2, aoff2, acap2, rfl, hP2, hgn2, hgr2, o2, ho2⟩
                have HG := hide (only_trans H3.out.grown hgr2)
                rw [Hl1.out]
                clear hP2 hgn2 hgr2 ho2
                go_wp2
                go_ret
                exact ⟨rfl, below_of_none HG.out⟩

end Go.Proofs.Ytljlbdbgocohlaa
