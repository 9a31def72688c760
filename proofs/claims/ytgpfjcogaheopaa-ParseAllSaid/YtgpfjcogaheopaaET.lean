/- The walk of the document's command. -/
import Derived.Test.YtgpfjcogaheopaaMN
set_option linter.all false
namespace Go.Proofs.Ytgpfjcogaheopaa
open Go.RowKit Lx
set_option maxRecDepth 100000
theorem cmd_cmp {cmp : Drd} {d : Nat} {ts : List Tok} {ns : List Nd} (h : cmpH ts = true) : cmdF cmp d ts ns = cmp d ts ns := if_pos h
theorem cmd_sim {cmp : Drd} {d : Nat} {ts : List Tok} {ns : List Nd} (h : cmpH ts = false) (h2 : funB ts = false) : cmdF cmp d ts ns = simF ts ns := by
 unfold cmdF
 rw [if_neg (by rw [h]; decide), if_neg (by rw [h2]; decide)]
theorem cmd_fun {cmp : Drd} {d : Nat} {ts : List Tok} {ns : List Nd} (h : cmpH ts = false) (h2 : funB ts = true) : cmdF cmp d ts ns = withinF (funF cmp) d ts ns := by
 unfold cmdF
 rw [if_neg (by rw [h]; decide), if_pos h2]
theorem joinR_fun {ms : List Nd} (h : KB ms) (hne : ms ≠ []) (nm : List UInt8) : joinR [ms] { kind := 15, name := nm } = ms ++ [{ kind := 15, name := nm, kids := [(ms.length : Int) - 1] }] := by
 unfold joinR
 rw [joinP_one h hne]
 rfl
theorem nmd_at {av : Nat → Prop} {w : World} (nm : List UInt8) : NdAt av w (.slice none 0 0) (.slice none 0 0) (.slice none 0 0) (.slice none 0 0) (.slice none 0 0) { kind := 15, name := nm } :=
 (nd0_at (av := av) (w := w) 15).as rfl rfl rfl rfl rfl
/-- What a compound answers, whether it is done or not. -/
theorem cp_any {w w' : World} {rb d : Nat} {T : List Tok} {PQ : PR Int} {e : Ending} (h : NPost (vNd w) (bNd w) rb T d w PQ e w') : ∃ v ms st, e = .returned v ∧ vNd w w' ms v ∧ DIs w' rb T st ∧ w.grownBy w' (some rb) ∧ ((∃ x Z, st = .ok Z d ∧ PQ = .ok x Z ms) ∨ (∃ a k, st = .er a k ∧ PQ = .bad a k)) := by
 cases PQ with
 | ok x ts ns =>
  obtain ⟨v, h1, h2, h3, h4⟩ := h
  exact ⟨v, ns, _, h1, h2, h3, h4, .inl ⟨x, ts, rfl, rfl⟩⟩
 | bad a k =>
  obtain ⟨v, h1, ⟨l, h2⟩, h3, h4⟩ := h
  exact ⟨v, l, _, h1, h2, h3, h4, .inr ⟨a, k, rfl, rfl⟩⟩
set_option maxHeartbeats 16000000 in
theorem dcommand_ok (n : Nat) (cmp : Drd) (hd : DecD 5 cmp) (Hc : ∀ rb T d ts w, DIs w rb T (.ok ts d) → ts.length ≤ n → cmpH ts = true → Calls Try.prog 67 #[.pointer (some ⟨rb, 0, none⟩)] w (NPost (vNd w) (bNd w) rb T d w (cmp d ts []))) : Okn bSl 61 (cmdF cmp) n := by
 intro rb T d ts w h hn
 have HO := hide (fun W ts (hW : DIs W rb T (.ok ts d)) => dopen_any rb T ts d W hW)
 have HOA := hide (fun vt a f t r W hW h1 h2 h3 => dopen_at rb T vt a d f t r W hW h1 h2 h3)
 have HNd := hide (fun W st s (hW : DIs W rb T st) => dneed_any rb T st s W hW)
 have HBk := hide (fun W st (hW : DIs W rb T st) => dbreaks_any rb T st W hW)
 have HWr := hide (fun W st (hW : DIs W rb T st) => dwrong_any rb T st W hW)
 have HSi := hide (fun W ts (hW : DIs W rb T (.ok ts d)) => dsimple_any rb T ts d W hW)
 have HNm := hide (fun s W h => dname_any s W h)
 have HRs := hide (fun s W => dreserved_same s W)
 have HC := hide (fun d ts W hW h1 h2 => Hc rb T d ts W hW h1 h2)
 have HD := hide hd
 have HJ := hide (fun ps nm vp W (hW : w.heap.size ≤ W.heap.size) hP hb ht hl => djoin_any (low w) ps { kind := 15, name := nm } vp _ _ _ _ W (fun k hk => Nat.lt_of_lt_of_le hk hW) hP (nmd_at nm) rfl hb ht hl)
 unfold Qu at HO HNd HBk HWr
 unfold sv at HNm HRs HNd
 have HRB := hide h.lb
 have HGD := hide h.good
 have HLN := hide hn
 have HH := hide h
 obtain ⟨R, hR⟩ : ∃ R, cmdF cmp d ts [] = R := ⟨_, rfl⟩
 have HR := hide hR
 show Calls Try.prog 61 #[.pointer (some ⟨rb, 0, none⟩)] w (NPost (vNd w) bSl rb T d w (cmdF cmp d ts []))
 rw [hR]
 obtain ⟨t, r, rfl⟩ := h.good.1.ne
 clear hR h hn Hc hd
 have HTX := hide (HGD.out.2.2.1 t (List.mem_cons_self ..)).1
 obtain ⟨tk, tt, ta⟩ := t
 simp only [] at HTX
 go_enter Try.func61, Try.ntmps61
 obtain ⟨vt, a, fr9, h, hd, hdd⟩ := HH.out
 obtain ⟨c0, c1, c2, c3, c4⟩ := h.cells
 obtain ⟨g, off, cap, t9, r9, rfl, hc, hg, hd2, t0, t1, t2⟩ := h.tok_
 have lb := h.lb
 have hlt := h.lt
 have hib : (0 : Int) ≤ (a : Int) ∧ (a : Int) < ((T.length : Nat) : Int) := by omega
 have hTl := h.tg.len
 obtain ⟨LT, hL⟩ : ∃ LT, T.length = LT := ⟨_, rfl⟩
 have hAL : (a : Int) ≤ 500 := by omega
 have HDA := hide h
 have HDD := hide (And.intro hd hdd)
 have hZ := hd.symm.trans hd2
 injection hZ with hZ1 hZ2
 subst hZ1 hZ2
 rw [hL] at c0 hib hc hTl
 have z1 := Blk.frozen h.blk 1
 clear h hd hdd hd2 hL hlt
 simp only [] at t0 t1 t2
 go_upto_region 3 with (fail)
 have Hk : Hid (∀ X : World, w.grownBy X none → (X.cell? ⟨rb, 0, none⟩ = some (.slice (some ⟨g, off, none⟩) LT cap) ∧ X.cell? ⟨rb, 1, none⟩ = some (.int .i64 a) ∧ X.cell? ⟨g, off + a * 3, none⟩ = some (.int .i64 tk) ∧ X.cell? ⟨g, off + a * 3 + 1, none⟩ = some (.string ⟨tt.toArray⟩) ∧ X.cell? ⟨g, off + a * 3 + 2, none⟩ = some (.int .i64 ta))) :=
  hide (fun X hw => ⟨old_cell hw lb c0, old_cell hw lb c1, old_cell hw hg t0, old_cell hw hg t1, old_cell hw hg t2⟩)
 go_region_held3 (fun X => X.cell? ⟨rb, 0, none⟩ = some (.slice (some ⟨g, off, none⟩) LT cap) ∧ X.cell? ⟨rb, 1, none⟩ = some (.int .i64 a) ∧ X.cell? ⟨g, off + a * 3, none⟩ = some (.int .i64 tk) ∧ X.cell? ⟨g, off + a * 3 + 1, none⟩ = some (.string ⟨tt.toArray⟩) ∧ X.cell? ⟨g, off + a * 3 + 2, none⟩ = some (.int .i64 ta))
  (first | go_keep | exact Hk.out _ (by repeat' (first | (with_reducible exact only_refl _ _) | (with_reducible refine none_setCell ?_ ?_ _) | (with_reducible refine none_trans ?_ hg) | (with_reducible refine only_drew ?_) | (with_reducible refine only_alloc ?_ _) | omega | (simp; done))))
  (fail)
 have hg3 := only_drew (only_alloc (only_refl w none) (.cells #[.int .i64 tk, .string ⟨tt.toArray⟩, .int .i64 ta] 41))
 have HB4 := hide (show Blk (w.alloc (.cells #[.int .i64 tk, .string ⟨tt.toArray⟩, .int .i64 ta] 41)).drew w.heap.size 41 #[.int .i64 tk, .string ⟨tt.toArray⟩, .int .i64 ta] from Blk.new w 41 _)
 have HS3 := hide (HH.out.grown hg3)
 have HG3 := hide hg3
 generalize (w.alloc (.cells #[.int .i64 tk, .string ⟨tt.toArray⟩, .int .i64 ta] 41)).drew = W3, w.heap.size = B4 at HB4 HS3 HG3 ⊢
 clear Hk hg3
 clear c0 c1 c2 c3 c4 t0 t1 t2 hg lb hib hTl hAL hc z1
 have x0 : W3.cell? ⟨B4, 0, none⟩ = some (.int .i64 tk) := Blk.cell HB4.out 0
 have x1 : W3.cell? ⟨B4, 1, none⟩ = some (.string ⟨tt.toArray⟩) := Blk.cell HB4.out 1
 have lx := Blk.lt HB4.out
 obtain ⟨cv, hcv0⟩ : ∃ cv, cmpB ⟨tk, tt, ta⟩ = cv := ⟨_, rfl⟩
 have HCB := hide hcv0
 obtain ⟨c4, hc4⟩ : ∃ c, ((tk == 2) && (tt == [40])) = c := ⟨_, rfl⟩
 have HC4 := hide hc4
 clear hcv0 hc4
 go_upto_region 4 with (fail)
 go_cut [4] (fun v4 wx => v4 = .bool c4 ∧ W3.grownBy wx none)
 case first =>
  as_aux_lemma =>
   by_cases k2 : tk = 2
   ·subst k2
    by_cases e1 : tt = [40]
    ·subst e1
     have HCV := hide (show c4 = true from HC4.out.symm.trans (by decide))
     go_wp2_with fail
     go_meet
     exact ⟨by rw [HCV.out], only_refl _ _⟩
    ·have q1 : (tt == [40]) = false := beq_eq_false_iff_ne.2 e1
     have HCV := hide (show c4 = false from HC4.out.symm.trans (by rw [q1]; decide))
     clear e1
     go_wp2_with fail
     go_meet
     exact ⟨by rw [HCV.out], only_refl _ _⟩
   ·have q2 : ((tk : Int) == 2) = false := by rw [beq_eq_false_iff_ne]; omega
    have HCV := hide (show c4 = false from HC4.out.symm.trans (by rw [show (tk == 2) = false from beq_eq_false_iff_ne.2 k2]; rfl))
    clear k2
    go_wp2_with fail
    go_meet
    exact ⟨by rw [HCV.out], only_refl _ _⟩
 case rest =>
 obtain ⟨rfl, hg4⟩ := hcut
 have HB5 := hide (Blk.grown HB4.out hg4 (by simp))
 have HS5 := hide (HS3.out.grown hg4)
 have HG5 := hide (none_trans HG3.out hg4)
 clear hg4 x0 x1 lx
 obtain ⟨w5, hw5⟩ : ∃ x, x = wc := ⟨_, rfl⟩
 subst hw5
 have x0 : w5.cell? ⟨B4, 0, none⟩ = some (.int .i64 tk) := Blk.cell HB5.out 0
 have x1 : w5.cell? ⟨B4, 1, none⟩ = some (.string ⟨tt.toArray⟩) := Blk.cell HB5.out 1
 have lx := Blk.lt HB5.out
 obtain ⟨b1, hb1⟩ : ∃ b, ((tk : Int) == 1) = b := ⟨_, rfl⟩
 have HB1 := hide (show (tk == 1) = b1 by
  rw [← hb1]
  by_cases k1 : tk = 1
  ·subst k1; rfl
  ·rw [beq_eq_false_iff_ne.2 k1]; symm; rw [beq_eq_false_iff_ne]; omega)
 go_upto_if 34 with (fail)
 go_cut [4] (fun v4 wx => v4 = .bool cv ∧ w5.grownBy wx none)
 case first =>
  as_aux_lemma =>
   cases b1 with
   | false =>
    have HCV := hide (show cv = c4 from by
     rw [← HCB.out, ← HC4.out]
     unfold cmpB
     simp only []
     rw [HB1.out]
     show ((tk == 2 && tt == [40]) || (false && _)) = _
     rw [Bool.false_and, Bool.or_false])
    clear hb1
    go_wp2_with fail
    go_meet
    exact ⟨by rw [HCV.out], only_refl _ _⟩
   | true =>
    have htk : tk = 1 := by have := HB1.out; simpa using this
    have hc4f : c4 = false := by rw [← HC4.out, htk]; rfl
    have hcv : cv = cmpW.contains tt := by rw [← HCB.out]; unfold cmpB; simp only []; rw [htk]; rfl
    subst hc4f
    clear htk hb1
    by_cases e0 : tt = [123]
    ·subst e0
     have HCV := hide (show cv = true from hcv.trans (by decide))
     clear hcv
     go_wp2_with fail
     go_meet
     exact ⟨by rw [HCV.out], only_refl _ _⟩
    have p0 : (tt == [123]) = false := beq_eq_false_iff_ne.2 e0
    by_cases e1 : tt = [105, 102]
    ·subst e1
     have HCV := hide (show cv = true from hcv.trans (by decide))
     clear hcv
     go_wp2_with fail
     go_meet
     exact ⟨by rw [HCV.out], only_refl _ _⟩
    have p1 : (tt == [105, 102]) = false := beq_eq_false_iff_ne.2 e1
    by_cases e2 : tt = [119, 104, 105, 108, 101]
    ·subst e2
     have HCV := hide (show cv = true from hcv.trans (by decide))
     clear hcv
     go_wp2_with fail
     go_meet
     exact ⟨by rw [HCV.out], only_refl _ _⟩
    have p2 : (tt == [119, 104, 105, 108, 101]) = false := beq_eq_false_iff_ne.2 e2
    by_cases e3 : tt = [117, 110, 116, 105, 108]
    ·subst e3
     have HCV := hide (show cv = true from hcv.trans (by decide))
     clear hcv
     go_wp2_with fail
     go_meet
     exact ⟨by rw [HCV.out], only_refl _ _⟩
    have p3 : (tt == [117, 110, 116, 105, 108]) = false := beq_eq_false_iff_ne.2 e3
    by_cases e4 : tt = [102, 111, 114]
    ·subst e4
     have HCV := hide (show cv = true from hcv.trans (by decide))
     clear hcv
     go_wp2_with fail
     go_meet
     exact ⟨by rw [HCV.out], only_refl _ _⟩
    have p4 : (tt == [102, 111, 114]) = false := beq_eq_false_iff_ne.2 e4
    by_cases e5 : tt = [99, 97, 115, 101]
    ·subst e5
     have HCV := hide (show cv = true from hcv.trans (by decide))
     clear hcv
     go_wp2_with fail
     go_meet
     exact ⟨by rw [HCV.out], only_refl _ _⟩
    have p5 : (tt == [99, 97, 115, 101]) = false := beq_eq_false_iff_ne.2 e5
    have HCV := hide (show cv = false from hcv.trans (by unfold cmpW; simp only [List.contains_cons, List.contains_nil, wOpen, wIf, wWhile, wUntil, wFor, wCase, p0, p1, p2, p3, p4, p5, Bool.or_false]))
    clear hcv e0 e1 e2 e3 e4 e5
    go_wp2_with fail
    go_meet
    exact ⟨by rw [HCV.out], only_refl _ _⟩
 case rest =>
 obtain ⟨rfl, hg5⟩ := hcut
 have HB6 := hide (Blk.grown HB5.out hg5 (by simp))
 have HS6 := hide (HS5.out.grown hg5)
 have HG6 := hide (none_trans HG5.out hg5)
 clear hg5 x0 x1 lx hb1
 cases cv with
 | true =>
  have HCm := hide (HC.out d _ wc HS6.out HLN.out HCB.out)
  have HR1 := hide (show R = cmp d (⟨tk, tt, ta⟩ :: r) [] from HR.out.symm.trans (cmd_cmp HCB.out))
  go_wp2_with fail
  refine HCm.out.mono ?_
  intro e w7 hp
  obtain ⟨v, ms, st, rfl, hv, hs, hg, hor⟩ := cp_any hp
  obtain ⟨v1, v2, rfl⟩ := hv.form
  have HV := hide (hv.low HG6.out.size)
  have HS7 := hide hs
  have HG7 := hide (only_trans (gr_rb HG6.out) hg)
  have HOR := hide hor
  clear hp hv hs hg hor
  go_wp2_with fail
  rw [HR1.out]
  go_ret
  rcases HOR.out with ⟨x, Z, e1, e2⟩ | ⟨a, k, e1, e2⟩
  ·rw [e2]; subst e1
   exact ⟨_, rfl, HV.out, HS7.out, HG7.out⟩
  ·rw [e2]; subst e1
   exact ⟨_, rfl, ⟨_, _, _, rfl⟩, HS7.out, HG7.out⟩
 | false =>
  obtain ⟨nb, hnb⟩ : ∃ b, (namedB ⟨tk, tt, ta⟩ && !resB tt) = b := ⟨_, rfl⟩
  have HNB := hide hnb
  clear hnb
  have x0 : wc.cell? ⟨B4, 0, none⟩ = some (.int .i64 tk) := Blk.cell HB6.out 0
  have x1 : wc.cell? ⟨B4, 1, none⟩ = some (.string ⟨tt.toArray⟩) := Blk.cell HB6.out 1
  have lx := Blk.lt HB6.out
  obtain ⟨w6, hw6⟩ : ∃ x, x = wc := ⟨_, rfl⟩
  subst hw6
  go_upto_region 16 with (fail)
  go_cut [64] (fun v64 wx => v64 = .bool nb ∧ w6.grownBy wx none)
  case first =>
   as_aux_lemma =>
    by_cases k1 : tk = 1
    ·subst k1
     have h1 := sz tt
     obtain ⟨k9, hk9⟩ : ∃ k, nameF tt = k := ⟨_, rfl⟩
     obtain ⟨r9, hr9⟩ : ∃ k, resB tt = k := ⟨_, rfl⟩
     have Hn := hide (fun W => HNm.out tt W (by have := HTX.out; omega))
     have Hrs := hide (fun W => HRs.out tt W)
     rw [hk9] at Hn
     rw [hr9] at Hrs
     by_cases hq : k9 = tt.length
     ·have q9 : ((k9 : Int) == (tt.length : Int)) = true := by rw [hq]; simp
      have HV := hide (show nb = !r9 by
       rw [← HNB.out, ← hr9]
       unfold namedB
       simp only [hk9, hq]
       simp)
      clear hq hk9 hr9
      go_quiet (first | (go_at_call 68; exact Calls.quiet_of_same (Hn.out _)) | (go_at_call 15; exact Calls.quiet_of_same (Hrs.out _)))
      go_wp2_with fail
      go_meet
      exact ⟨by rw [HV.out], only_drewN (only_refl w6 none) _⟩
     ·have q9 : ((k9 : Int) == (tt.length : Int)) = false := by rw [beq_eq_false_iff_ne]; omega
      have HV := hide (show nb = false by
       rw [← HNB.out]
       unfold namedB
       simp only [hk9]
       rw [show (k9 == tt.length) = false from beq_eq_false_iff_ne.2 hq]
       simp)
      clear hq hk9 hr9
      go_quiet (first | (go_at_call 68; exact Calls.quiet_of_same (Hn.out _)) | (go_at_call 15; exact Calls.quiet_of_same (Hrs.out _)))
      go_wp2_with fail
      go_meet
      exact ⟨by rw [HV.out], only_drewN (only_refl w6 none) _⟩
    ·have q1 : ((tk : Int) == 1) = false := by rw [beq_eq_false_iff_ne]; omega
     have HV := hide (show nb = false by
      rw [← HNB.out]
      unfold namedB
      rw [show (tk == 1) = false from beq_eq_false_iff_ne.2 k1]
      rfl)
     clear k1
     go_quiet (fail)
     go_wp2_with fail
     go_meet
     exact ⟨by rw [HV.out], only_drewN (only_refl w6 none) _⟩
  case rest =>
  obtain ⟨rfl, hg6⟩ := hcut
  have HB7 := hide (Blk.grown HB6.out hg6 (by simp))
  have HS7 := hide (HS6.out.grown hg6)
  have HG7 := hide (none_trans HG6.out hg6)
  clear hg6 x0 x1 lx
  obtain ⟨w7, hw7⟩ : ∃ x, x = wc := ⟨_, rfl⟩
  subst hw7
  cases nb with
  | false =>
   have HSm := hide (HSi.out w7 _ HS7.out)
   have HR1 := hide (show R = simF (⟨tk, tt, ta⟩ :: r) [] from HR.out.symm.trans (cmd_sim HCB.out (by have h9 := HNB.out; cases r with | nil => rfl | cons u q => show (namedB _ && !resB _ && _ && _) = false; rw [show (namedB (⟨tk, tt, ta⟩ : Tok) && !resB tt) = false from h9]; rfl)))
   obtain ⟨PS, hPS⟩ : ∃ P, simF (⟨tk, tt, ta⟩ :: r) [] = P := ⟨_, rfl⟩
   rw [hPS] at HSm
   have HPS := hide (HR1.out.trans hPS)
   clear hPS
   go_wp2_with fail
   refine HSm.out.mono ?_
   cases PS with
   | bad ea ek =>
    rintro e wz ⟨v, rfl, ⟨v1, v2, v3, rfl⟩, hs, hg⟩
    have HSZ := hide hs
    have HGZ := hide (only_trans (gr_rb HG7.out) hg)
    clear hs hg
    go_wp2_with fail
    rw [HPS.out]
    go_ret
    exact ⟨_, rfl, ⟨_, _, _, rfl⟩, HSZ.out, HGZ.out⟩
   | ok x Z ms =>
    rintro e wz ⟨v, rfl, hv, hs, hg⟩
    obtain ⟨v1, v2, rfl⟩ := hv.form
    have HVZ := hide (hv.low (HG7.out).size)
    have HSZ := hide hs
    have HGZ := hide (only_trans (gr_rb HG7.out) hg)
    clear hv hs hg
    go_wp2_with fail
    rw [HPS.out]
    go_ret
    exact ⟨_, rfl, HVZ.out, HSZ.out, HGZ.out⟩
  | true =>
   have HTK := hide (show tk = 1 by have h9 := HNB.out; unfold namedB at h9; simp at h9; exact h9.1.1)
   obtain ⟨u, q, rfl⟩ := (HGD.out.1.tail (show tk ≠ 4 by rw [HTK.out]; decide)).ne
   obtain ⟨uk, ut, ua⟩ := u
   obtain ⟨vt, a, fr9, h, hd, hdd⟩ := HS7.out
   obtain ⟨c0, c1, c2, c3, c4⟩ := h.cells
   obtain ⟨g, off, cap, t9, r9, rfl, hc, hg, hd2, t0, t1, t2⟩ := h.tok_
   have lb := h.lb
   have hlt := h.lt
   have hib : (0 : Int) ≤ (a : Int) ∧ (a : Int) < ((T.length : Nat) : Int) := by omega
   have hTl := h.tg.len
   obtain ⟨LT, hL⟩ : ∃ LT, T.length = LT := ⟨_, rfl⟩
   have hAL : (a : Int) ≤ 500 := by omega
   have HDA := hide h
   have HDD := hide (And.intro hd hdd)
   have hZ := hd.symm.trans hd2
   injection hZ with hZ1 hZ2
   subst hZ1 hZ2
   rw [hL] at c0 hib hc hTl
   have z1 := Blk.frozen h.blk 1
   obtain ⟨nlt, n0, n1, n2⟩ := h.nxt HDD.out.1
   simp only [] at n0 n1 n2
   obtain ⟨a1, ha1⟩ : ∃ x : Nat, a + 1 = x := ⟨_, rfl⟩
   rw [ha1] at n0 n1 n2 nlt
   have hib2 : (0 : Int) ≤ (a1 : Int) ∧ (a1 : Int) < ((T.length : Nat) : Int) := by omega
   have hs1 : IntKind.i64.wrap ((a : Int) + 1) = (a1 : Int) := by rw [IntKind.wrap_i64]; omega
   have ha2 : (a1 : Int) ≤ 501 := by omega
   rw [hL] at hib2
   clear ha1
   clear h hd hdd hd2 hL hlt nlt
   go_upto_region 17 with (fail)
   have Hk : Hid (∀ X : World, w7.grownBy X none → (X.cell? ⟨rb, 0, none⟩ = some (.slice (some ⟨g, off, none⟩) LT cap) ∧ X.cell? ⟨rb, 1, none⟩ = some (.int .i64 a) ∧ X.cell? ⟨g, off + a1 * 3, none⟩ = some (.int .i64 uk) ∧ X.cell? ⟨g, off + a1 * 3 + 1, none⟩ = some (.string ⟨ut.toArray⟩) ∧ X.cell? ⟨g, off + a1 * 3 + 2, none⟩ = some (.int .i64 ua))) :=
    hide (fun X hw => ⟨old_cell hw lb c0, old_cell hw lb c1, old_cell hw hg n0, old_cell hw hg n1, old_cell hw hg n2⟩)
   go_region_held3 (fun X => X.cell? ⟨rb, 0, none⟩ = some (.slice (some ⟨g, off, none⟩) LT cap) ∧ X.cell? ⟨rb, 1, none⟩ = some (.int .i64 a) ∧ X.cell? ⟨g, off + a1 * 3, none⟩ = some (.int .i64 uk) ∧ X.cell? ⟨g, off + a1 * 3 + 1, none⟩ = some (.string ⟨ut.toArray⟩) ∧ X.cell? ⟨g, off + a1 * 3 + 2, none⟩ = some (.int .i64 ua))
    (first | go_keep | exact Hk.out _ (by repeat' (first | (with_reducible exact only_refl _ _) | (with_reducible refine none_setCell ?_ ?_ _) | (with_reducible refine none_trans ?_ hg) | (with_reducible refine only_drew ?_) | (with_reducible refine only_alloc ?_ _) | omega | (simp; done))))
    (fail)
   have hg3 := only_drew (only_alloc (only_refl w7 none) (.cells #[.int .i64 uk, .string ⟨ut.toArray⟩, .int .i64 ua] 41))
   have HU8 := hide (show Blk (w7.alloc (.cells #[.int .i64 uk, .string ⟨ut.toArray⟩, .int .i64 ua] 41)).drew w7.heap.size 41 #[.int .i64 uk, .string ⟨ut.toArray⟩, .int .i64 ua] from Blk.new w7 41 _)
   have HS8 := hide (HS7.out.grown hg3)
   have HB8 := hide (Blk.grown HB7.out hg3 (by simp))
   have HG8 := hide (none_trans HG7.out hg3)
   generalize (w7.alloc (.cells #[.int .i64 uk, .string ⟨ut.toArray⟩, .int .i64 ua] 41)).drew = W8, w7.heap.size = B5 at HU8 HS8 HB8 HG8 ⊢
   clear Hk hg3 n0 n1 n2 hib2 hs1 ha2
   clear c0 c1 c2 c3 c4 t0 t1 t2 hg lb hib hTl hAL hc z1
   have x0 : W8.cell? ⟨B5, 0, none⟩ = some (.int .i64 uk) := Blk.cell HU8.out 0
   have x1 : W8.cell? ⟨B5, 1, none⟩ = some (.string ⟨ut.toArray⟩) := Blk.cell HU8.out 1
   have lx := Blk.lt HU8.out
   obtain ⟨up, hup⟩ : ∃ c, ((uk == 2) && (ut == [40])) = c := ⟨_, rfl⟩
   have HUP := hide hup
   clear hup
   go_upto_region 18 with (fail)
   go_cut [83] (fun v83 wx => v83 = .bool up ∧ W8.grownBy wx none)
   case first =>
    as_aux_lemma =>
     by_cases k2 : uk = 2
     ·subst k2
      by_cases e1 : ut = [40]
      ·subst e1
       have HCV := hide (show up = true from HUP.out.symm.trans (by decide))
       go_wp2_with fail
       go_meet
       exact ⟨by rw [HCV.out], only_refl _ _⟩
      ·have q1 : (ut == [40]) = false := beq_eq_false_iff_ne.2 e1
       have HCV := hide (show up = false from HUP.out.symm.trans (by rw [q1]; decide))
       clear e1
       go_wp2_with fail
       go_meet
       exact ⟨by rw [HCV.out], only_refl _ _⟩
     ·have q2 : ((uk : Int) == 2) = false := by rw [beq_eq_false_iff_ne]; omega
      have HCV := hide (show up = false from HUP.out.symm.trans (by rw [show (uk == 2) = false from beq_eq_false_iff_ne.2 k2]; rfl))
      clear k2
      go_wp2_with fail
      go_meet
      exact ⟨by rw [HCV.out], only_refl _ _⟩
   case rest =>
   obtain ⟨rfl, hg8⟩ := hcut
   have HB9 := hide (Blk.grown HB8.out hg8 (by simp))
   have HS9 := hide (HS8.out.grown hg8)
   have HG9 := hide (none_trans HG8.out hg8)
   clear hg8 x0 x1 lx
   obtain ⟨w9, hw9⟩ : ∃ x, x = wc := ⟨_, rfl⟩
   subst hw9
   cases up with
   | false =>
    have HSm := hide (HSi.out w9 _ HS9.out)
    have HR1 := hide (show R = simF (⟨tk, tt, ta⟩ :: ⟨uk, ut, ua⟩ :: q) [] from HR.out.symm.trans (cmd_sim HCB.out (by show (namedB _ && !resB _ && uk == 2 && ut == sPar) = false; rw [Bool.and_assoc, show (uk == 2 && ut == sPar) = false from HUP.out, Bool.and_false])))
    obtain ⟨PS, hPS⟩ : ∃ P, simF (⟨tk, tt, ta⟩ :: ⟨uk, ut, ua⟩ :: q) [] = P := ⟨_, rfl⟩
    rw [hPS] at HSm
    have HPS := hide (HR1.out.trans hPS)
    clear hPS
    go_wp2_with fail
    refine HSm.out.mono ?_
    cases PS with
    | bad ea ek =>
     rintro e wz ⟨v, rfl, ⟨v1, v2, v3, rfl⟩, hs, hg⟩
     have HSZ := hide hs
     have HGZ := hide (only_trans (gr_rb HG9.out) hg)
     clear hs hg
     go_wp2_with fail
     rw [HPS.out]
     go_ret
     exact ⟨_, rfl, ⟨_, _, _, rfl⟩, HSZ.out, HGZ.out⟩
    | ok x Z ms =>
     rintro e wz ⟨v, rfl, hv, hs, hg⟩
     obtain ⟨v1, v2, rfl⟩ := hv.form
     have HVZ := hide (hv.low (HG9.out).size)
     have HSZ := hide hs
     have HGZ := hide (only_trans (gr_rb HG9.out) hg)
     clear hv hs hg
     go_wp2_with fail
     rw [HPS.out]
     go_ret
     exact ⟨_, rfl, HVZ.out, HSZ.out, HGZ.out⟩
   | true =>
    have HU := hide (show uk = 2 ∧ ut = [40] by have := HUP.out; rw [Bool.and_eq_true] at this; simpa using this)
    have HFB := hide (show funB (⟨tk, tt, ta⟩ :: ⟨uk, ut, ua⟩ :: q) = true by show (namedB _ && !resB _ && uk == 2 && ut == sPar) = true; rw [Bool.and_assoc, show (uk == 2 && ut == sPar) = true from HUP.out, Bool.and_true]; exact HNB.out)
    have HR1 := hide (show R = withinF (funF cmp) d (⟨tk, tt, ta⟩ :: ⟨uk, ut, ua⟩ :: q) [] from HR.out.symm.trans (cmd_fun HCB.out HFB.out))
    have HQG := hide (show Good q ∧ Wl q ∧ q ≠ [] by
     have h1 := HGD.out.1.tail (show tk ≠ 4 by rw [HTK.out]; decide)
     have h2 := h1.tail (show uk ≠ 4 by rw [HU.out.1]; decide)
     exact ⟨h2, HGD.out.2.1.tail.tail, fun e => by obtain ⟨_, _, h3⟩ := h2.ne; rw [e] at h3; cases h3⟩)
    have HLQ := hide (show q.length ≤ n ∧ 10 * q.length ≤ 5000 by have h1 := HLN.out; have h2 := HGD.out.2.2.2.1; simp only [List.length_cons] at h1 h2; omega)
    go_upto_region 19 with (fail)
    go_cut [] (fun wx => ∃ (vt : Value) (a2 : Nat) (dd ee ff : Int), DAt wx rb T vt a2 dd ee ff ∧ T.drop a2 = ⟨tk, tt, ta⟩ :: ⟨uk, ut, ua⟩ :: q ∧ ((ee = 17 ∧ ff = ta ∧ 24 < d) ∨ (ee = 0 ∧ dd = ((d + 1 : Nat) : Int) ∧ d ≤ 24)) ∧ w9.grownBy wx (some rb))
    case first =>
     as_aux_lemma =>
      by_cases h24 : 24 < d
      ·obtain ⟨vt, a, f, h, hdr, hd26⟩ := HS9.out
       have HQ := hide (HOA.out vt a f _ _ w9 h hdr h24 hd26)
       have HX := hide (And.intro hdr h24)
       clear h hdr hd26 h24
       go_wp2_with fail
       refine HQ.out.mono ?_
       rintro e wx ⟨rfl, ⟨x, h1⟩, g1⟩
       have H1 := hide h1
       have G1 := hide g1
       clear h1 g1
       go_wp2_with fail
       go_meet
       exact ⟨_, _, _, _, _, H1.out, HX.out.1, .inl ⟨rfl, rfl, HX.out.2⟩, G1.out⟩
      ·have HQ := hide (HO.out w9 _ HS9.out)
       rw [show openD (.ok (⟨tk, tt, ta⟩ :: ⟨uk, ut, ua⟩ :: q) d) = .ok (⟨tk, tt, ta⟩ :: ⟨uk, ut, ua⟩ :: q) (d + 1) from if_neg h24] at HQ
       have HX := hide h24
       clear h24
       go_wp2_with fail
       refine HQ.out.mono ?_
       rintro e wx ⟨rfl, h1, g1⟩
       have H1 := hide h1
       have G1 := hide g1
       clear h1 g1
       go_wp2_with fail
       go_meet
       obtain ⟨vt, a, f, h, hdr, hd26⟩ := H1.out
       exact ⟨_, _, _, _, _, h, hdr, .inr ⟨rfl, rfl, by have := HX.out; omega⟩, G1.out⟩
    case rest =>
    obtain ⟨vt, a2, dd, ee, ff, h, hdr, hor, hg⟩ := hcut
    obtain ⟨c0, c1, c2, c3, c4⟩ := h.cells
    have lb := h.lb
    have z1 := Blk.frozen h.blk 1
    have hal : (a2 : Int) ≤ 500 := by have := h.lt; have := h.tg.len; omega
    have hsk := h.skip2 hdr HQG.out.2.2
    obtain ⟨d1, hd1⟩ : ∃ x, d + 1 = x := ⟨_, rfl⟩
    obtain ⟨st0, hst0, hsim0⟩ : ∃ st0 : DS, DIs (wc.setCell ⟨rb, 1, none⟩ (.int .i64 ((a2 : Int) + 2))) rb T st0 ∧ Sim R d1 n 0 (fun Z => (needR sRap Z []).bind fun _ ts ns => if cmpH (breaksF ts) = true then (cmp d1 (breaksF ts) ns).bind fun x ts ns => layR { kind := 15, name := tt, kids := [x] } ts ns else wrongR (breaksF ts)) st0 := by
     rcases hor with ⟨rfl, rfl, h24⟩ | ⟨rfl, rfl, h24⟩
     ·refine ⟨.er ta 17, ⟨vt, a2 + 2, dd, hsk.1, by decide⟩, ?_⟩
      exact (show R = .bad ta 17 by rw [HR1.out]; unfold withinF; rw [if_pos h24])
     ·refine ⟨.ok q d1, ⟨vt, a2 + 2, ff, by rw [← hd1]; exact hsk.1, hsk.2, by omega⟩, rfl, ?_, by have := HLQ.out.2; omega, HLQ.out.1, HQG.out.1, HQG.out.2.1⟩
      rw [HR1.out, ← hd1]
      unfold withinF
      rw [if_neg (by omega), fun_open HU.out]
    have HD1 := hide hd1
    have HS0 := hide hst0
    have HM0 := hide hsim0
    have HBa := hide (Blk.far (Blk.grown HB9.out hg (fun e => by injection e with e; subst e; exact absurd (HB9.out.hasT.uniq HS9.out.hasT) (by decide))) (p := ⟨rb, 1, none⟩) (fun e => by subst e; exact absurd (HB9.out.hasT.uniq HS9.out.hasT) (by decide)) (.int .i64 ((a2 : Int) + 2)))
    have HGa := hide (only_setCell (only_trans (gr_rb HG9.out) hg) (p := ⟨rb, 1, none⟩) (.inl rfl) (.int .i64 ((a2 : Int) + 2)))
    clear h hdr hor hg hsk hd1 hst0 hsim0
    go_upto_region 21 with (fail)
    generalize wc.setCell ⟨rb, 1, none⟩ (.int .i64 ((a2 : Int) + 2)) = W1 at HS0 HBa HGa ⊢
    clear c0 c1 c2 c3 c4 lb z1 hal
    have HQ1 := hide (HNd.out W1 st0 sRap HS0.out)
    have HM1 := hide (Sim.need HM0.out)
    obtain ⟨st1, hst1⟩ : ∃ s, needD sRap st0 = s := ⟨_, rfl⟩
    rw [hst1] at HQ1 HM1
    unfold sRap at HQ1
    clear hst1
    go_wp2_with fail
    refine HQ1.out.mono ?_
    rintro e W2 ⟨rfl, h2, g2⟩
    have HS2 := hide h2
    have HBb := hide (Blk.grown HBa.out g2 (fun e => by injection e with e; subst e; exact absurd (HBa.out.hasT.uniq HS0.out.hasT) (by decide)))
    have HGb := hide (only_trans HGa.out g2)
    have HQ2 := hide (HBk.out W2 st1 h2)
    have HM2 := hide (show Sim R d1 n 0 (fun Z => if cmpH Z = true then (cmp d1 Z []).bind fun x ts ns => layR { kind := 15, name := tt, kids := [x] } ts ns else wrongR Z) (breaksD st1) from Sim.breaks (C := fun Z => if cmpH Z = true then (cmp d1 Z []).bind fun x ts ns => layR { kind := 15, name := tt, kids := [x] } ts ns else wrongR Z) HM1.out)
    obtain ⟨st2, hst2⟩ : ∃ s, breaksD st1 = s := ⟨_, rfl⟩
    rw [hst2] at HQ2 HM2
    clear h2 g2 hst2
    go_wp2_with fail
    refine HQ2.out.mono ?_
    rintro e W3 ⟨rfl, h3, g3⟩
    have HS3 := hide h3
    have HBc := hide (Blk.grown HBb.out g3 (fun e => by injection e with e; subst e; exact absurd (HBb.out.hasT.uniq HS2.out.hasT) (by decide)))
    have HGc := hide (only_trans HGb.out g3)
    clear h3 g3
    cases st2 with
    | er ea ek =>
     obtain ⟨vt, a, dd, h, hk0⟩ := HS3.out
     obtain ⟨c0, c1, c2, c3, c4⟩ := h.cells
     obtain ⟨g, off, cap, v, r9, rfl, hc, hg, hd2, t0, t1, t2⟩ := h.tok_
     have lb := h.lb
     have hib : (0 : Int) ≤ (a : Int) ∧ (a : Int) < ((T.length : Nat) : Int) := by have := h.lt; omega
     have hTl := h.tg.len
     obtain ⟨LT, hL⟩ : ∃ LT, T.length = LT := ⟨_, rfl⟩
     have hAL : (a : Int) ≤ 500 := by have := h.lt; omega
     have z1 := Blk.frozen h.blk 1
     rw [hL] at c0 hib hc hTl
     have qek : (ek == 0) = false := beq_eq_false_iff_ne.2 hk0
     clear h hd2 hL hk0
     obtain ⟨vk, vv, va⟩ := v
     simp only [] at t0 t1 t2
     go_upto_region 23 with (fail)
     have Hk : Hid (∀ X : World, W3.grownBy X none → (X.cell? ⟨rb, 0, none⟩ = some (.slice (some ⟨g, off, none⟩) LT cap) ∧ X.cell? ⟨rb, 1, none⟩ = some (.int .i64 a) ∧ X.cell? ⟨g, off + a * 3, none⟩ = some (.int .i64 vk) ∧ X.cell? ⟨g, off + a * 3 + 1, none⟩ = some (.string ⟨vv.toArray⟩) ∧ X.cell? ⟨g, off + a * 3 + 2, none⟩ = some (.int .i64 va))) :=
      hide (fun X hw => ⟨old_cell hw lb c0, old_cell hw lb c1, old_cell hw hg t0, old_cell hw hg t1, old_cell hw hg t2⟩)
     go_region_held3 (fun X => X.cell? ⟨rb, 0, none⟩ = some (.slice (some ⟨g, off, none⟩) LT cap) ∧ X.cell? ⟨rb, 1, none⟩ = some (.int .i64 a) ∧ X.cell? ⟨g, off + a * 3, none⟩ = some (.int .i64 vk) ∧ X.cell? ⟨g, off + a * 3 + 1, none⟩ = some (.string ⟨vv.toArray⟩) ∧ X.cell? ⟨g, off + a * 3 + 2, none⟩ = some (.int .i64 va))
      (first | go_keep | exact Hk.out _ (by repeat' (first | (with_reducible exact only_refl _ _) | (with_reducible refine none_setCell ?_ ?_ _) | (with_reducible refine none_trans ?_ hg) | (with_reducible refine only_drew ?_) | (with_reducible refine only_alloc ?_ _) | omega | (simp; done))))
      (fail)
     have hg3 := only_drew (only_alloc (only_refl W3 none) (.cells #[.int .i64 vk, .string ⟨vv.toArray⟩, .int .i64 va] 41))
     have HV6 := hide (show Blk (W3.alloc (.cells #[.int .i64 vk, .string ⟨vv.toArray⟩, .int .i64 va] 41)).drew W3.heap.size 41 #[.int .i64 vk, .string ⟨vv.toArray⟩, .int .i64 va] from Blk.new W3 41 _)
     have HS5b := hide (HS3.out.grown hg3)
     have HG5b := hide (only_trans HGc.out (gr_rb hg3))
     have e3 := old_cell hg3 lb c3
     have le := Nat.lt_of_lt_of_le lb hg3.size
     generalize (W3.alloc (.cells #[.int .i64 vk, .string ⟨vv.toArray⟩, .int .i64 va] 41)).drew = W5 at HV6 HS5b HG5b e3 le ⊢
     clear Hk hg3
     clear c0 c1 c2 c3 c4 t0 t1 t2 hg lb hib hTl hAL hc z1
     have HQw := hide (HWr.out W5 _ HS5b.out)
     have HRE := hide (show R = .bad ea ek from HM2.out)
     unfold wrongD at HQw
     simp only [] at HQw
     go_wp2_with fail
     refine HQw.out.mono ?_
     rintro e w6 ⟨rfl, h6, g6⟩
     have HS6b := hide h6
     have HG6b := hide (only_trans HG5b.out g6)
     clear h6 g6
     go_wp2_with fail
     rw [HRE.out]
     go_ret
     exact ⟨_, rfl, ⟨_, _, _, rfl⟩, HS6b.out, HG6b.out⟩
    | ok Z d2 =>
     obtain ⟨hd2, hRZ, hfew, hZn, hZg, hZw⟩ := HM2.out
     subst hd2
     obtain ⟨v, z, rfl⟩ := hZg.ne
     have HRZ := hide hRZ
     have HZN := hide (And.intro hZn (And.intro hZg hfew))
     clear hRZ hfew hZn hZg hZw
     obtain ⟨vk, vv, va⟩ := v
     obtain ⟨vt, a, fr9, h, hd, hdd⟩ := HS3.out
     obtain ⟨c0, c1, c2, c3, c4⟩ := h.cells
     obtain ⟨g, off, cap, t9, r9, rfl, hc, hg, hd2, t0, t1, t2⟩ := h.tok_
     have lb := h.lb
     have hlt := h.lt
     have hib : (0 : Int) ≤ (a : Int) ∧ (a : Int) < ((T.length : Nat) : Int) := by omega
     have hTl := h.tg.len
     obtain ⟨LT, hL⟩ : ∃ LT, T.length = LT := ⟨_, rfl⟩
     have hAL : (a : Int) ≤ 500 := by omega
     have HDA := hide h
     have HDD := hide (And.intro hd hdd)
     have hZ := hd.symm.trans hd2
     injection hZ with hZ1 hZ2
     subst hZ1 hZ2
     rw [hL] at c0 hib hc hTl
     have z1 := Blk.frozen h.blk 1
     clear h hd hdd hd2 hL hlt
     simp only [] at t0 t1 t2
     go_upto_region 23 with (fail)
     have Hk : Hid (∀ X : World, W3.grownBy X none → (X.cell? ⟨rb, 0, none⟩ = some (.slice (some ⟨g, off, none⟩) LT cap) ∧ X.cell? ⟨rb, 1, none⟩ = some (.int .i64 a) ∧ X.cell? ⟨g, off + a * 3, none⟩ = some (.int .i64 vk) ∧ X.cell? ⟨g, off + a * 3 + 1, none⟩ = some (.string ⟨vv.toArray⟩) ∧ X.cell? ⟨g, off + a * 3 + 2, none⟩ = some (.int .i64 va))) :=
      hide (fun X hw => ⟨old_cell hw lb c0, old_cell hw lb c1, old_cell hw hg t0, old_cell hw hg t1, old_cell hw hg t2⟩)
     go_region_held3 (fun X => X.cell? ⟨rb, 0, none⟩ = some (.slice (some ⟨g, off, none⟩) LT cap) ∧ X.cell? ⟨rb, 1, none⟩ = some (.int .i64 a) ∧ X.cell? ⟨g, off + a * 3, none⟩ = some (.int .i64 vk) ∧ X.cell? ⟨g, off + a * 3 + 1, none⟩ = some (.string ⟨vv.toArray⟩) ∧ X.cell? ⟨g, off + a * 3 + 2, none⟩ = some (.int .i64 va))
      (first | go_keep | exact Hk.out _ (by repeat' (first | (with_reducible exact only_refl _ _) | (with_reducible refine none_setCell ?_ ?_ _) | (with_reducible refine none_trans ?_ hg) | (with_reducible refine only_drew ?_) | (with_reducible refine only_alloc ?_ _) | omega | (simp; done))))
      (fail)
     have hg3 := only_drew (only_alloc (only_refl W3 none) (.cells #[.int .i64 vk, .string ⟨vv.toArray⟩, .int .i64 va] 41))
     have HV6 := hide (show Blk (W3.alloc (.cells #[.int .i64 vk, .string ⟨vv.toArray⟩, .int .i64 va] 41)).drew W3.heap.size 41 #[.int .i64 vk, .string ⟨vv.toArray⟩, .int .i64 va] from Blk.new W3 41 _)
     have HS5b := hide (HS3.out.grown hg3)
     have HG5b := hide (only_trans HGc.out (gr_rb hg3))
     have HB5b := hide (Blk.grown HBc.out hg3 (by simp))
     have e3 := old_cell hg3 lb c3
     have le := Nat.lt_of_lt_of_le lb hg3.size
     generalize (W3.alloc (.cells #[.int .i64 vk, .string ⟨vv.toArray⟩, .int .i64 va] 41)).drew = W5, W3.heap.size = B6 at HV6 HS5b HG5b HB5b e3 le ⊢
     clear Hk hg3
     clear c0 c1 c2 c3 c4 t0 t1 t2 hg lb hib hTl hAL hc z1
     have x0 : W5.cell? ⟨B6, 0, none⟩ = some (.int .i64 vk) := Blk.cell HV6.out 0
     have x1 : W5.cell? ⟨B6, 1, none⟩ = some (.string ⟨vv.toArray⟩) := Blk.cell HV6.out 1
     have lx := Blk.lt HV6.out
     obtain ⟨cv2, hcv2⟩ : ∃ c, cmpB ⟨vk, vv, va⟩ = c := ⟨_, rfl⟩
     have HCV2 := hide hcv2
     clear hcv2
     go_upto_region 24 with (fail)
     go_cut [7] (fun v7 wx => v7 = .bool cv2 ∧ W5.grownBy wx none)
     case first =>
      as_aux_lemma =>
       by_cases k2 : vk = 2
       ·subst k2
        by_cases e1 : vv = [40]
        ·subst e1
         have HCV := hide (show cv2 = true from HCV2.out.symm.trans rfl)
         go_wp2_with fail
         go_meet
         exact ⟨by rw [HCV.out], only_refl _ _⟩
        ·have q1 : (vv == [40]) = false := beq_eq_false_iff_ne.2 e1
         have HCV := hide (show cv2 = false from HCV2.out.symm.trans (by show ((true && vv == sPar) || (false && _)) = false; rw [show (vv == sPar) = false from q1]; rfl))
         clear e1
         go_wp2_with fail
         go_meet
         exact ⟨by rw [HCV.out], only_refl _ _⟩
       ·have q2 : ((vk : Int) == 2) = false := by rw [beq_eq_false_iff_ne]; omega
        by_cases k1 : vk = 1
        ·subst k1
         have hcv : cv2 = cmpW.contains vv := by rw [← HCV2.out]; rfl
         clear k2 q2
         by_cases e0 : vv = [123]
         ·subst e0
          have HCV := hide (show cv2 = true from hcv.trans (by decide))
          clear hcv
          go_wp2_with fail
          go_meet
          exact ⟨by rw [HCV.out], only_refl _ _⟩
         have p0 : (vv == [123]) = false := beq_eq_false_iff_ne.2 e0
         by_cases e1 : vv = [105, 102]
         ·subst e1
          have HCV := hide (show cv2 = true from hcv.trans (by decide))
          clear hcv
          go_wp2_with fail
          go_meet
          exact ⟨by rw [HCV.out], only_refl _ _⟩
         have p1 : (vv == [105, 102]) = false := beq_eq_false_iff_ne.2 e1
         by_cases e2 : vv = [119, 104, 105, 108, 101]
         ·subst e2
          have HCV := hide (show cv2 = true from hcv.trans (by decide))
          clear hcv
          go_wp2_with fail
          go_meet
          exact ⟨by rw [HCV.out], only_refl _ _⟩
         have p2 : (vv == [119, 104, 105, 108, 101]) = false := beq_eq_false_iff_ne.2 e2
         by_cases e3 : vv = [117, 110, 116, 105, 108]
         ·subst e3
          have HCV := hide (show cv2 = true from hcv.trans (by decide))
          clear hcv
          go_wp2_with fail
          go_meet
          exact ⟨by rw [HCV.out], only_refl _ _⟩
         have p3 : (vv == [117, 110, 116, 105, 108]) = false := beq_eq_false_iff_ne.2 e3
         by_cases e4 : vv = [102, 111, 114]
         ·subst e4
          have HCV := hide (show cv2 = true from hcv.trans (by decide))
          clear hcv
          go_wp2_with fail
          go_meet
          exact ⟨by rw [HCV.out], only_refl _ _⟩
         have p4 : (vv == [102, 111, 114]) = false := beq_eq_false_iff_ne.2 e4
         by_cases e5 : vv = [99, 97, 115, 101]
         ·subst e5
          have HCV := hide (show cv2 = true from hcv.trans (by decide))
          clear hcv
          go_wp2_with fail
          go_meet
          exact ⟨by rw [HCV.out], only_refl _ _⟩
         have p5 : (vv == [99, 97, 115, 101]) = false := beq_eq_false_iff_ne.2 e5
         have HCV := hide (show cv2 = false from hcv.trans (by unfold cmpW; simp only [List.contains_cons, List.contains_nil, wOpen, wIf, wWhile, wUntil, wFor, wCase, p0, p1, p2, p3, p4, p5, Bool.or_false]))
         clear hcv e0 e1 e2 e3 e4 e5
         go_wp2_with fail
         go_meet
         exact ⟨by rw [HCV.out], only_refl _ _⟩
        ·have q1 : ((vk : Int) == 1) = false := by rw [beq_eq_false_iff_ne]; omega
         have HCV := hide (show cv2 = false from HCV2.out.symm.trans (by unfold cmpB; rw [show (vk == 2) = false from beq_eq_false_iff_ne.2 k2, show (vk == 1) = false from beq_eq_false_iff_ne.2 k1]; rfl))
         clear k1 k2
         go_wp2_with fail
         go_meet
         exact ⟨by rw [HCV.out], only_refl _ _⟩
     case rest =>
     obtain ⟨rfl, hg5⟩ := hcut
     have HSd := hide (HS5b.out.grown hg5)
     have HG5b := hide (only_trans HG5b.out (gr_rb hg5))
     have HBd := hide (Blk.grown HB5b.out hg5 (by simp))
     clear hg5 x0 x1 lx e3 le
     obtain ⟨W6, hW6⟩ : ∃ x, x = wc := ⟨_, rfl⟩
     subst hW6
     cases cv2 with
     | false =>
      have HQw := hide (HWr.out W6 _ HSd.out)
      have HRE := hide (show R = .bad va (if vk = 4 then 23 else 17) from HRZ.out.trans (if_neg (by show ¬ cmpB _ = true; rw [HCV2.out]; decide)))
      unfold wrongD at HQw
      simp only [] at HQw
      go_wp2_with fail
      refine HQw.out.mono ?_
      rintro e w6 ⟨rfl, h6, g6⟩
      have HS6b := hide h6
      have HG6b := hide (only_trans HG5b.out g6)
      clear h6 g6
      go_wp2_with fail
      rw [HRE.out]
      go_ret
      exact ⟨_, rfl, ⟨_, _, _, rfl⟩, HS6b.out, HG6b.out⟩
     | true =>
      have HQc := hide (HC.out d2 _ W6 HSd.out HZN.out.1 HCV2.out)
      have HRc := hide (show R = (cmp d2 (⟨vk, vv, va⟩ :: z) []).bind fun x ts ns => layR { kind := 15, name := tt, kids := [x] } ts ns from HRZ.out.trans (if_pos HCV2.out))
      go_wp2_with fail
      refine HQc.out.mono ?_
      intro e W7 hp
      obtain ⟨v, ms, st3, rfl, hv, hs, hg, hor⟩ := cp_any hp
      obtain ⟨v1, v2, rfl⟩ := hv.form
      have HVe := hide (hv.low HG5b.out.size)
      have HOR := hide hor
      have HBe := hide (Blk.grown HBd.out hg (fun e => by injection e with e; subst e; exact absurd (HBd.out.hasT.uniq HSd.out.hasT) (by decide)))
      have HGe := hide (only_trans HG5b.out hg)
      have HSe := hide hs
      clear hp hv hs hg hor
      rcases HOR.out with ⟨x, Z3, e1, e2⟩ | ⟨ea, ek, e1, e2⟩
      ·subst e1
       have HPQ := hide e2
       obtain ⟨vt, a, fr9, h, hdd, hd26⟩ := HSe.out
       obtain ⟨c0, c1, c2, c3, c4⟩ := h.cells
       have lb := h.lb
       have z2 := Blk.frozen h.blk 2
       have hnx := DIs.setDeep h hdd HD1.out hd26
       have hd3 : (d2 : Int) ≤ 26 := by omega
       have hd4 : (1 : Int) ≤ (d2 : Int) := by have := HD1.out; omega
       have hg9 := only_setCell (only_refl W7 (some rb)) (p := ⟨rb, 2, none⟩) (.inl rfl) (.int .i64 ((d2 : Int) - 1))
       have HVf := hide (HVe.out.rb hg9 HSe.out.hasT)
       have HGf := hide (only_trans HGe.out hg9)
       have HBf := hide (Blk.grown HBe.out hg9 (fun e => by injection e with e; subst e; exact absurd (HBe.out.hasT.uniq HSe.out.hasT) (by decide)))
       clear h hdd hd26 hg9 e2
       go_upto_region 30 with (fail)
       generalize W7.setCell ⟨rb, 2, none⟩ (.int .i64 ((d2 : Int) - 1)) = W9 at hnx HVf HGf HBf ⊢
       have HSf := hide hnx
       clear c0 c1 c2 c3 c4 lb z2 hd3 hd4 hnx
       have HRf := hide (show R = .ok (ms.length : Int) Z3 (joinR [ms] { kind := 15, name := tt }) by
        have hl := HD.out d2 _ _ _ _ _ HZN.out.2.1 HPQ.out
        obtain ⟨l1, l2, _, _⟩ := hl.ne
        rw [HRc.out, HPQ.out, joinR_fun HVf.out.2.1 l1, l2]
        rfl)
       have HLM := hide (show (joinR [ms] { kind := 15, name := tt }).length ≤ 50000 by
        have hl := HD.out d2 _ _ _ _ _ HZN.out.2.1 HPQ.out
        obtain ⟨_, _, _, l4⟩ := hl.ne
        rw [joinR_len]
        have := HZN.out.2.2
        simp [sumL]
        omega)
       have HPA := hide (parts1 HVf.out.1)
       have HSg := hide (HSf.out.grown (only_alloc (only_refl W9 none) (.cells #[.slice v1 ms.length v2] 23)))
       have HGg := hide (only_alloc HGf.out (.cells #[.slice v1 ms.length v2] 23))
       have x1 : (W9.alloc (.cells #[.slice v1 ms.length v2] 23)).cell? ⟨B4, 1, none⟩ = some (.string ⟨tt.toArray⟩) := Blk.cell (HBf.out.alloc _) 1
       have lx := Blk.lt (HBf.out.alloc (.cells #[.slice v1 ms.length v2] 23))
       have HKB := hide HVf.out.2.1
       have HLB := hide (show (joinR [ms] { kind := 15, name := tt }).length ≤ 50001 by rw [joinR_len]; have := HVf.out.2.2.1; simp [sumL]; omega)
       have HJ5 := hide (HJ.out [ms] tt _ _ HGg.out.size HPA.out (fun m hm => by rw [List.mem_singleton] at hm; subst hm; exact HKB.out) (by have := HVf.out.2.2.1; simp [sumL]; omega) (by simp))
       unfold JPost ndCells sv at HJ5
       simp only [] at HJ5
       have HJK := hide (joinR_kb (ps := [ms]) (n := { kind := 15, name := tt }) (fun m hm => by rw [List.mem_singleton] at hm; subst hm; exact HKB.out) (by simp) rfl)
       generalize hW : W9.alloc (.cells #[.slice v1 ms.length v2] 23) = W8b, hpb : W9.heap.size = pb at HPA HSg HGg x1 lx HJ5
       go_wp2_with fail
       try rw [hW, hpb]
       refine HJ5.out.mono ?_
       rintro e wz ⟨v, rfl, hnz, hnew, gz⟩
       obtain ⟨y1, y2, rfl, _⟩ := hnz.form
       have HNZ := hide (show vNd w wz (joinR [ms] { kind := 15, name := tt }) (.slice y1 (joinR [ms] { kind := 15, name := tt }).length y2) from ⟨hnz, HJK.out, HLM.out, fun g hg => Nat.le_trans HGg.out.size (hnew g hg)⟩)
       have HSZ := hide (HSg.out.grown gz)
       have HGZ := hide (only_trans HGg.out (gr_rb gz))
       clear hnz hnew gz
       go_wp2_with fail
       rw [HRf.out]
       go_ret
       exact ⟨_, rfl, HNZ.out, HSZ.out, HGZ.out⟩
      ·subst e1
       have HRf := hide (show R = .bad ea ek by rw [HRc.out, e2]; rfl)
       obtain ⟨vt, a, dd, h, hk0⟩ := HSe.out
       obtain ⟨c0, c1, c2, c3, c4⟩ := h.cells
       have lb := h.lb
       have z2 := Blk.frozen h.blk 2
       have hnx : ∀ x : Int, DIs (W7.setCell ⟨rb, 2, none⟩ (.int .i64 x)) rb T (.er ea ek) := fun x => ⟨vt, a, x, h.set 2 (.inl rfl) x, hk0⟩
       have hg9 : ∀ x : Int, W7.grownBy (W7.setCell ⟨rb, 2, none⟩ (.int .i64 x)) (some rb) := fun x => only_setCell (only_refl W7 (some rb)) (p := ⟨rb, 2, none⟩) (.inl rfl) (.int .i64 x)
       have HNX := hide (fun x => And.intro (hnx x) (And.intro (HVe.out.rb (hg9 x) HSe.out.hasT) (And.intro (only_trans HGe.out (hg9 x)) (Blk.grown HBe.out (hg9 x) (fun e => by injection e with e; subst e; exact absurd (HBe.out.hasT.uniq HSe.out.hasT) (by decide))))))
       clear h hg9 e2 hnx hk0
       go_upto_region 30 with (fail)
       have hx9 := HNX.out (wrap64 (dd - 1))
       generalize W7.setCell ⟨rb, 2, none⟩ (.int .i64 (wrap64 (dd - 1))) = W9 at hx9 ⊢
       clear c0 c1 c2 c3 c4 lb z2
       obtain ⟨k1, k2, k3, k4⟩ := hx9
       have HSf := hide k1
       have HVf := hide k2
       have HGf := hide k3
       have HBf := hide k4
       clear k1 k2 k3 k4
       have HPA := hide (parts1 HVf.out.1)
       have HSg := hide (HSf.out.grown (only_alloc (only_refl W9 none) (.cells #[.slice v1 ms.length v2] 23)))
       have HGg := hide (only_alloc HGf.out (.cells #[.slice v1 ms.length v2] 23))
       have x1 : (W9.alloc (.cells #[.slice v1 ms.length v2] 23)).cell? ⟨B4, 1, none⟩ = some (.string ⟨tt.toArray⟩) := Blk.cell (HBf.out.alloc _) 1
       have lx := Blk.lt (HBf.out.alloc (.cells #[.slice v1 ms.length v2] 23))
       have HKB := hide HVf.out.2.1
       have HLB := hide (show (joinR [ms] { kind := 15, name := tt }).length ≤ 50001 by rw [joinR_len]; have := HVf.out.2.2.1; simp [sumL]; omega)
       have HJ5 := hide (HJ.out [ms] tt _ _ HGg.out.size HPA.out (fun m hm => by rw [List.mem_singleton] at hm; subst hm; exact HKB.out) (by have := HVf.out.2.2.1; simp [sumL]; omega) (by simp))
       unfold JPost ndCells sv at HJ5
       simp only [] at HJ5
       have HJK := hide (joinR_kb (ps := [ms]) (n := { kind := 15, name := tt }) (fun m hm => by rw [List.mem_singleton] at hm; subst hm; exact HKB.out) (by simp) rfl)
       generalize hW : W9.alloc (.cells #[.slice v1 ms.length v2] 23) = W8b, hpb : W9.heap.size = pb at HPA HSg HGg x1 lx HJ5
       go_wp2_with fail
       try rw [hW, hpb]
       refine HJ5.out.mono ?_
       rintro e wz ⟨v, rfl, hnz, hnew, gz⟩
       obtain ⟨y1, y2, rfl, _⟩ := hnz.form
       have HSZ := hide (HSg.out.grown gz)
       have HGZ := hide (only_trans HGg.out (gr_rb gz))
       clear hnz hnew gz
       go_wp2_with fail
       rw [HRf.out]
       go_ret
       exact ⟨_, rfl, ⟨_, _, _, rfl⟩, HSZ.out, HGZ.out⟩
end Go.Proofs.Ytgpfjcogaheopaa
