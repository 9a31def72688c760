/- The walk of ProcPlays. -/
import Derived.Test.YtljlbdbgocohlaaX1
import Derived.Deep.QuietTactic
namespace Go.Proofs.Ytljlbdbgocohlaa
open Go.RowKit Go.Maps Go.Deep

theorem none_cell {w w' : World} (hg : w.grownBy w' none) {b o : Nat} {v : Value} (hb : b < w.heap.size) (h : w.cell? ⟨b, o, none⟩ = some v) : w'.cell? ⟨b, o, none⟩ = some v :=
  ((Chg.of_grown hg (fun _ h => by cases h) : Chg nobody w w').cell (p := ⟨b, o, none⟩) hb (fun h => h)).trans h

theorem chg_at {a w : World} {g : Nat} (h : Chg (one_ g) a w) (j : Nat) (u : Value) : Chg (one_ g) a (w.setCell ⟨g, j, none⟩ u) := h.setCell (p := ⟨g, j, none⟩) (.inl rfl) u
theorem PrsIs.wipe {w : World} {e : TypeId} {v : Value} {L : List Pr} (h : PrsIs w e v L) {g off cap : Nat} (hv : v = .slice (some ⟨g, off, none⟩) L.length cap) {n : Nat} (hn : n < L.length) {s : Pr} (hs : L[n]? = some s) :
    PrsIs ((((((((w.setCell ⟨g, off + n * 7, none⟩ (.int .i64 0)).setCell ⟨g, off + n * 7 + 1, none⟩ (.int .i64 0)).setCell ⟨g, off + n * 7 + 2, none⟩ (.int .i64 0)).setCell ⟨g, off + n * 7 + 3, none⟩ (.int .i64 0)).setCell ⟨g, off + n * 7 + 4, none⟩ (.int .i64 0)).setCell ⟨g, off + n * 7 + 5, none⟩ (.bool false)).setCell ⟨g, off + n * 7 + 6, none⟩ (.bool false))) e v (L.set n pr0) ∧
    Chg (one_ g) w ((((((((w.setCell ⟨g, off + n * 7, none⟩ (.int .i64 0)).setCell ⟨g, off + n * 7 + 1, none⟩ (.int .i64 0)).setCell ⟨g, off + n * 7 + 2, none⟩ (.int .i64 0)).setCell ⟨g, off + n * 7 + 3, none⟩ (.int .i64 0)).setCell ⟨g, off + n * 7 + 4, none⟩ (.int .i64 0)).setCell ⟨g, off + n * 7 + 5, none⟩ (.bool false)).setCell ⟨g, off + n * 7 + 6, none⟩ (.bool false))) ∧
    ∃ o, ((((((((w.setCell ⟨g, off + n * 7, none⟩ (.int .i64 0)).setCell ⟨g, off + n * 7 + 1, none⟩ (.int .i64 0)).setCell ⟨g, off + n * 7 + 2, none⟩ (.int .i64 0)).setCell ⟨g, off + n * 7 + 3, none⟩ (.int .i64 0)).setCell ⟨g, off + n * 7 + 4, none⟩ (.int .i64 0)).setCell ⟨g, off + n * 7 + 5, none⟩ (.bool false)).setCell ⟨g, off + n * 7 + 6, none⟩ (.bool false))).heap[g]? = some o := by
  have h0 := h.set hv hn hs 0 (by omega) (.int .i64 0) { s with pid := 0 } rfl
  rw [Nat.add_zero] at h0
  have h1 := h0.set (g := g) (off := off) (cap := cap) (by rw [hv, List.length_set]) (n := n) (by rw [List.length_set]; exact hn) (s := { s with pid := 0 }) (by rw [List.getElem?_set_self hn]) 1 (by omega) (.int .i64 0) { s with pid := 0, par := 0 } rfl
  rw [List.set_set] at h1
  have h2 := h1.set (g := g) (off := off) (cap := cap) (by rw [hv, List.length_set]) (n := n) (by rw [List.length_set]; exact hn) (s := { s with pid := 0, par := 0 }) (by rw [List.getElem?_set_self hn]) 2 (by omega) (.int .i64 0) { s with pid := 0, par := 0, usr := 0 } rfl
  rw [List.set_set] at h2
  have h3 := h2.set (g := g) (off := off) (cap := cap) (by rw [hv, List.length_set]) (n := n) (by rw [List.length_set]; exact hn) (s := { s with pid := 0, par := 0, usr := 0 }) (by rw [List.getElem?_set_self hn]) 3 (by omega) (.int .i64 0) { s with pid := 0, par := 0, usr := 0, ses := 0 } rfl
  rw [List.set_set] at h3
  have h4 := h3.set (g := g) (off := off) (cap := cap) (by rw [hv, List.length_set]) (n := n) (by rw [List.length_set]; exact hn) (s := { s with pid := 0, par := 0, usr := 0, ses := 0 }) (by rw [List.getElem?_set_self hn]) 4 (by omega) (.int .i64 0) { s with pid := 0, par := 0, usr := 0, ses := 0, sta := 0 } rfl
  rw [List.set_set] at h4
  have h5 := h4.set (g := g) (off := off) (cap := cap) (by rw [hv, List.length_set]) (n := n) (by rw [List.length_set]; exact hn) (s := { s with pid := 0, par := 0, usr := 0, ses := 0, sta := 0 }) (by rw [List.getElem?_set_self hn]) 5 (by omega) (.bool false) { s with pid := 0, par := 0, usr := 0, ses := 0, sta := 0, dead := false } rfl
  rw [List.set_set] at h5
  have h6 := h5.set (g := g) (off := off) (cap := cap) (by rw [hv, List.length_set]) (n := n) (by rw [List.length_set]; exact hn) (s := { s with pid := 0, par := 0, usr := 0, ses := 0, sta := 0, dead := false }) (by rw [List.getElem?_set_self hn]) 6 (by omega) (.bool false) pr0 rfl
  rw [List.set_set] at h6
  refine ⟨h6, ?_, ?_⟩
  · exact chg_at (chg_at (chg_at (chg_at (chg_at (chg_at (chg_at (Chg.refl (one_ g) w) _ _) _ _) _ _) _ _) _ _) _ _) _ _
  · obtain ⟨cur, fz, ho⟩ := Own.typ h6 (b := g) (by rw [hv]; rfl)
    exact ⟨_, ho⟩

theorem blk_pr {w : World} {k : Nat} {t : TypeId} {D : Pr} (h : Blk w k t #[.int .i64 D.pid, .int .i64 D.par, .int .i64 D.usr, .int .i64 D.ses, .int .i64 D.sta, .bool D.dead, .bool D.res]) :
    (w.cell? ⟨k, 0, none⟩ = some (.int .i64 D.pid) ∧ w.cell? ⟨k, 1, none⟩ = some (.int .i64 D.par) ∧ w.cell? ⟨k, 2, none⟩ = some (.int .i64 D.usr) ∧ w.cell? ⟨k, 3, none⟩ = some (.int .i64 D.ses) ∧ w.cell? ⟨k, 4, none⟩ = some (.int .i64 D.sta) ∧ w.cell? ⟨k, 5, none⟩ = some (.bool D.dead) ∧ w.cell? ⟨k, 6, none⟩ = some (.bool D.res)) ∧ k < w.heap.size :=
  ⟨⟨h.cell 0, h.cell 1, h.cell 2, h.cell 3, h.cell 4, h.cell 5, h.cell 6⟩, h.lt⟩

set_option maxRecDepth 100000 in
set_option maxHeartbeats 4000000 in
theorem plays_any (a : Option Addr) (len cap : Nat) (hlen : len ≤ 9223372036854775807) (w : World) (ha : OpsIn w a len) :
    Calls Try.prog 6 #[.slice a len cap] w fun e w' => e = .returned (.bool true) ∧ Below w.heap.size w w' := by
  have Ha := hide ha
  clear ha
  go_enter Try.func6, Try.ntmps6
  go_wp2_with fail
  go_at_call 7
  refine (shown_true w).mono ?_
  rintro e w1 ⟨rfl, hg⟩
  have G1 := hide hg
  clear hg
  go_wp2_with fail
  go_at_call 8
  refine (new_any w1).mono ?_
  rintro e w2 ⟨b, S, rfl, hF⟩
  have HF := hide hF
  clear hF
  go_wp2_with fail
  go_at_call 16
  refine (rnew_any w2).mono ?_
  rintro e w3 ⟨b', S', rfl, hR⟩
  have H0 := hide (both_start G1.out HF.out hR)
  clear hR G1 HF
  go_wp2_with fail
  go_loopw [6] (fun v wr => ∃ (k : Nat) (st : PS), v = .int .i64 k ∧ k ≤ 200 ∧ Inv st ∧ st.last ≤ 1 + k ∧ Both w wr b b' none_ st st.rs) (fun v _ => 200 - (intOf v).toNat)
  case atStart => exact ⟨0, newPS, rfl, by omega, new_inv, by decide, H0.out⟩
  case round =>
    obtain ⟨k, st, rfl, hk, hi, hl, hB⟩ := hrel
    clear H0
    by_cases hlt : k < len ∧ k < 200
    · obtain ⟨hlt, hlt2⟩ := hlt
      obtain ⟨ob, off, x0, x1, x2, x3, rfl, hb, -, -, hw2, c0, c1, c2, c3⟩ := Ha.out k hlt
      have hG := hB.grown
      have d0 := none_cell hG hb c0
      have d1 := none_cell hG hb c1
      have d2 := none_cell hG hb c2
      have d3 := none_cell hG hb c3
      have q1 : decide ((k : Int) < len) = true := by simp; omega
      have q3 : decide ((k : Int) < 200) = true := by simp; omega
      obtain ⟨CS, hCS⟩ : ∃ CS : Array Value, CS = #[.int .i64 x0, .int .i64 x1, .int .i64 x2, .bool x3] := ⟨_, rfl⟩
      have hB1 := hB.lay_ 45 CS
      have HB1 := hide hB1
      have hK1 : lay none_ wr.heap.size (.cells CS 45) wr.heap.size (.cells CS 45) := .inl ⟨rfl, rfl⟩
      have Hi := hide hi
      have HCS := hide hCS
      clear hB hB1 hG hi c0 c1 c2 c3
      subst hCS
      go_wp2_with fail
      go_at_call 17
      refine (does_any HB1.out Hi.out (by omega) x0 x1 x2 x3).mono ?_
      rintro e w4 ⟨rfl, st1, hB, hi1, hl1⟩
      have e1 : w4.cell? ⟨wr.heap.size, 1, none⟩ = some (.int .i64 x1) := (hB.kept hK1).cell 1
      have HB2 := hide hB
      have Hi1 := hide hi1
      obtain ⟨⟨D, y⟩, hD⟩ : ∃ p, getP st1 x1 = p := ⟨_, rfl⟩
      have HD := hide hD
      clear hB hi1 HB1 d0 d1 d2 d3 Hi hD
      go_wp2_with fail
      go_at_call 14
      refine (getT HB2 x1 HD.out).mono ?_
      rintro e w5 ⟨rfl, hg⟩
      have hB := (HB2.out.gr_ hg).lay_ 34 D.cells.toArray
      have e2 : w5.cell? ⟨wr.heap.size, 1, none⟩ = some (.int .i64 x1) := ((HB2.out.gr_ hg).kept hK1).cell 1
      have hl5 : wr.heap.size < w5.heap.size := ((HB2.out.gr_ hg).kept hK1).lt
      have HB3 := hide hB
      unfold Pr.cells at HB3
      clear hB hg e1 HB2
      unfold Pr.agg
      go_wp2_with fail
      refine (getR HB3 x1 HD.out).mono ?_
      unfold Pr.agg
      rintro e w6 ⟨rfl, hg⟩
      have hB4 := HB3.out.gr_ hg
      have hK3 : lay (lay none_ wr.heap.size (.cells #[.int .i64 x0, .int .i64 x1, .int .i64 x2, .bool x3] 45)) w5.heap.size (.cells #[.int .i64 D.pid, .int .i64 D.par, .int .i64 D.usr, .int .i64 D.ses, .int .i64 D.sta, .bool D.dead, .bool D.res] 34) w5.heap.size (.cells #[.int .i64 D.pid, .int .i64 D.par, .int .i64 D.usr, .int .i64 D.ses, .int .i64 D.sta, .bool D.dead, .bool D.res] 34) := .inl ⟨rfl, rfl⟩
      obtain ⟨⟨m0, m1, m2, m3, m4, m5, m6⟩, hl6⟩ := blk_pr (hB4.kept hK3)
      have hl6b := (hB4.kept (k := wr.heap.size) (.inr hK1)).lt
      have e3 : w6.cell? ⟨wr.heap.size, 2, none⟩ = some (.int .i64 x2) := (hB4.kept (k := wr.heap.size) (.inr hK1)).cell 2
      obtain ⟨v, u, hR⟩ := hB4.rat
      obtain ⟨r0, r1, r2⟩ := hR.blk.c3
      have hbl := hR.blk.lt
      obtain ⟨ua, ucap, hu, _, _⟩ := Own.form hR.us
      subst hu
      rw [show st1.rs.U.length = st1.U.length from rfl] at r2
      have HB4 := hide (hB4.gr_ (only_alloc (only_refl w6 none) (.cells #[.int .i64 D.pid, .int .i64 D.par, .int .i64 D.usr, .int .i64 D.ses, .int .i64 D.sta, .bool D.dead, .bool D.res] 50)))
      clear hB4 hg e2 HB3 hR
      go_wp2_with fail
      go_quiet ((first
        | (go_at_call 13; exact Calls.quiet_of_same (countT HB4 x2 hw2 _))
        | (go_at_call 21; exact Calls.quiet_of_same (countR HB4 Hi1.out x2 _))
        | (go_at_call 19; exact Calls.quiet_of_same (knownT HB4 _))))
      have HB5 := hide ((HB4.out.gr_ (only_drewN (only_refl _ none) nq)).drop (K' := none_) (fun _ _ h => h.elim))
      clear HB4 m0 m1 m2 m3 m4 m5 m6 e3 r0 r1 r2 hl6 hl6b hl5 hK1 hK3 hbl
      generalize ((w6.alloc (.cells #[.int .i64 D.pid, .int .i64 D.par, .int .i64 D.usr, .int .i64 D.ses, .int .i64 D.sta, .bool D.dead, .bool D.res] 50)).drewN nq) = w7 at HB5 ⊢
      go_wp2_with fail
      go_at_call 18
      refine (sAll HB5.out.solo).mono ?_
      rintro e w8 ⟨g, aoff, acap, rfl, hP, hgn, hgr, o1, ho1⟩
      have hB6 := HB5.out.also hgr hgn ho1
      have hgw : w.heap.size ≤ g := Nat.le_trans HB5.out.grown.size hgn
      obtain ⟨v2, u2, hR⟩ := hB6.rat
      obtain ⟨r0, r1, r2⟩ := hR.blk.c3
      have hbl := hR.blk.lt
      obtain ⟨g2, off2, cap2, hv2, _, _, hg2l⟩ := hR.prs.at hR.pos
      subst hv2
      have hlenL : st1.L.length ≤ 53 := by have := Hi1.out.len; omega
      have e9 : st1.rs.L.length = st1.L.length := rfl
      rw [e9] at r0
      have HB6 := hide hB6
      have HP := hide hP
      clear hB6 hP hgr hgn hR HB5
      go_wp2_with fail
      go_loopw [14] (fun v wi => ∃ (j : Nat) (o2 : Obj), v = .int .i64 j ∧ j ≤ st1.L.length ∧ Both w wi b b' (lay none_ g o2) st1 st1.rs ∧ PrsIs wi 34 (.slice (some ⟨g, aoff, none⟩) st1.L.length acap) (preZ st1.L j)) (fun v _ => st1.L.length - (intOf v).toNat)
      case atStart => exact ⟨0, o1, rfl, by omega, HB6.out, by rw [preZ_zero]; exact HP.out⟩
      case round =>
        obtain ⟨j, o2, rfl, hj, hB7, hP7⟩ := hrel
        obtain ⟨v3, u3, hR⟩ := hB7.rat
        obtain ⟨r0, r1, r2⟩ := hR.blk.c3
        by_cases hjl : j < st1.L.length
        · obtain ⟨s, hs⟩ : ∃ s, st1.L[j]? = some s := ⟨_, List.getElem?_eq_getElem hjl⟩
          obtain ⟨g3, off3, cap3, hv3, _, _, hg3l⟩ := hR.prs.at hR.pos
          subst hv3
          rw [show st1.rs.L.length = st1.L.length from rfl] at r0
          obtain ⟨y0, y1, y2, y3, y4, y5, y6⟩ := hR.prs.c rfl hjl hs
          have hple := preZ_length (L := st1.L) (k := j) (by omega)
          obtain ⟨p0, p1, p2, p3, p4, p5, p6⟩ := hP7.c (n := j) (by rw [hple]) (by omega) ((preZ_get hjl).trans hs)
          have hzz := fun i => hP7.z (g := g) (off := aoff) (cap := acap) (by rw [hple]) (j * 7 + i)
          have z0 := hzz 0
          have z1 := hzz 1
          have z2 := hzz 2
          have z3 := hzz 3
          have z4 := hzz 4
          have z5 := hzz 5
          have z6 := hzz 6
          rw [← Nat.add_assoc] at z0 z1 z2 z3 z4 z5 z6
          rw [Nat.add_zero] at z0
          have q5 : decide ((j : Int) < (st1.L.length : Int)) = true := by simp; omega
          have i1 : (0 : Int) ≤ j ∧ (j : Int) < (st1.L.length : Int) := by omega
          have hgl : g < wr.heap.size := by have := hB7.held (k := g) (o := o2) (.inl ⟨rfl, rfl⟩); exact (Array.getElem?_eq_some_iff.1 this).1
          have HB7 := hide hB7
          have HP7 := hide hP7
          have Hs := hide hs
          clear hB7 hP7 hs hR hzz hple
          go_wp2_with fail
          go_quiet (fail)
          go_wp2_with fail
          go_roundw
          case rel =>
            have hB8 := HB7.out.gr_ (only_drewN (only_refl _ none) nq)
            obtain ⟨hw, hc, o3, ho3⟩ := PrsIs.wipe (Own.keep (w' := wr.drewN nq) HP7.out (fun _ _ => rfl)) (g := g) (off := aoff) (cap := acap) (by rw [preZ_length (by omega)]) (n := j) (by rw [preZ_length (by omega)]; exact hjl) ((preZ_get hjl).trans Hs.out)
            rw [preZ_step hjl] at hw
            exact ⟨j + 1, o3, by go_num, by omega, hB8.write (k := g) (o := o2) (.inl ⟨rfl, rfl⟩) hgw hc (fun _ h => h) (fun i o' hi => hi.elim (fun e => .inl ⟨e.1, e.2 ▸ ho3⟩) (fun e => e.elim)), hw⟩
          case measure => simp [intOf]; omega
        · have q5 : decide ((j : Int) < (st1.L.length : Int)) = false := by simp; omega
          have HB7 := hide (hB7.drop (K' := none_) (fun _ _ h => h.elim))
          clear hB7 hP7 hR
          go_wp2_with fail
          go_roundw
          case rel => exact ⟨k + 1, st1, by go_num, by omega, Hi1.out, by omega, HB7.out⟩
          case measure => simp [intOf]; omega
    · have hG := hide hB.grown
      clear hB hi hl
      by_cases hlt2 : k < len
      all_goals
        go_wp2
        all_goals
          go_ret
          exact ⟨rfl, below_of_none hG.out⟩

end Go.Proofs.Ytljlbdbgocohlaa
