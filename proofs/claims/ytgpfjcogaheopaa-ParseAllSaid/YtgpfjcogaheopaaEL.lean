/- The document's list. -/
import Derived.Test.YtgpfjcogaheopaaMJ
import Derived.Deep.LoopGhost
import Derived.Deep.CutBlock
import Derived.Deep.DeepCutAuto
set_option linter.all false
namespace Go.Proofs.Ytgpfjcogaheopaa
open Go.RowKit Lx
set_option maxRecDepth 100000
def finL (k : List Int × Bool) (ts : List Tok) (ns : List Nd) : PR Int := match k.1 with
 | [x] => if k.2 = true then layR { kind := 6, kids := [x] } (breaksF ts) ns else .ok x (breaksF ts) ns
 | l => layR { kind := 6, kids := l } (breaksF ts) ns
def ampX (amp : Bool) (ms : List Nd) : List Nd := if amp = true then joinR [ms] { kind := 7 } else ms
theorem ampX_ne {amp : Bool} {ms : List Nd} (h : ms ≠ []) : ampX amp ms ≠ [] := by
 unfold ampX
 split
 ·intro e
  have := congrArg List.length e
  rw [joinR_len] at this
  simp at this
 ·exact h
theorem ampX_kb {amp : Bool} {ms : List Nd} (h : KB ms) : KB (ampX amp ms) := by
 unfold ampX
 split
 ·exact joinR_kb (by intro q hq; rw [List.mem_singleton] at hq; subst hq; exact h) (by show 1 ≤ 1000; omega) rfl
 ·exact h
theorem ampX_len {amp : Bool} {ms : List Nd} : (ampX amp ms).length ≤ ms.length + 1 := by
 unfold ampX
 split
 ·rw [joinR_len]
  show _ + 0 + 1 ≤ _
  omega
 ·omega
theorem list_step {item : Rdr} {f : Nat} {ps : List (List Nd)} {bk : Bool} {Z Z1 : List Tok} {ms : List Nd} {y : Int} (hne : ms ≠ []) (hkb : KB ms) (hy : y = (ms.length : Int) - 1) (h1 : 1 ≤ ms.length) (he : item Z (joinP ps).1 = .ok (kdS (joinP ps).1.length y) Z1 (shN (joinP ps).1 ms)) :
  listL item (f + 1) (joinP ps).2 bk Z (joinP ps).1 = if (isB Z1 sAmp || isB Z1 sSemi || isB Z1 sLf) = true then (if beginsB (breaksF Z1.tail) = true then listL item f (joinP (ps ++ [ampX (isB Z1 sAmp) ms])).2 (bk || isB Z1 sAmp) (breaksF Z1.tail) (joinP (ps ++ [ampX (isB Z1 sAmp) ms])).1 else .ok ((joinP (ps ++ [ampX (isB Z1 sAmp) ms])).2, bk || isB Z1 sAmp) (breaksF Z1.tail) (joinP (ps ++ [ampX (isB Z1 sAmp) ms])).1) else .ok ((joinP (ps ++ [ampX (isB Z1 sAmp) ms])).2, bk || isB Z1 sAmp) Z1 (joinP (ps ++ [ampX (isB Z1 sAmp) ms])).1 := by
 have hk : kdS (joinP ps).1.length y = (((joinP ps).1.length + ms.length : Nat) : Int) - 1 := by rw [kdS_add _ _ (by omega), hy]; omega
 rw [listL, he, PR.bind_ok]
 cases hamp : isB Z1 sAmp with
 | false =>
  have hT : takeT Z1 sAmp = Z1 := by unfold takeT; rw [hamp]; rfl
  simp only [hT, Bool.false_or, Bool.false_eq_true, if_false]
  rw [show ampX false ms = ms from rfl, joinP_step hne, hk]
 | true =>
  have hT : takeT Z1 sAmp = Z1.tail := if_pos hamp
  have hj : ampX true ms = ms ++ [{ kind := 7, kids := [(ms.length : Int) - 1] }] := joinR_one hkb hne 7
  have hs : shN (joinP ps).1 (ms ++ [{ kind := 7, kids := [(ms.length : Int) - 1] }]) = shN (joinP ps).1 ms ++ [{ kind := 7, kids := [kdS (joinP ps).1.length y] }] := by
   rw [hy]
   unfold shN
   rw [List.map_append, List.append_assoc]
   rfl
  simp only [hT, Bool.true_or, if_true]
  rw [joinP_step (ampX_ne hne), hj, hs, shN_len]
  have hl : (((joinP ps).1.length + (ms ++ [({ kind := 7, kids := [(ms.length : Int) - 1] } : Nd)]).length : Nat) : Int) - 1 = (((joinP ps).1.length + ms.length : Nat) : Int) := by
   rw [List.length_append, List.length_singleton]
   omega
  rw [hl]
theorem finL_eq {ps : List (List Nd)} {bk : Bool} {tt : List Tok} (hk : ∀ ms ∈ ps, KB ms) (hne : ∀ ms ∈ ps, ms ≠ []) : finL ((joinP ps).2, bk) tt (joinP ps).1 = if ps.length = 1 ∧ bk = false then .ok (((ps.headD []).length : Int) - 1) (breaksF tt) (ps.headD []) else .ok (joinP ps).1.length (breaksF tt) (joinR ps { kind := 6 }) := by
 match ps with
 | [] => rfl
 | [ms] =>
  have hm := hk ms (List.mem_singleton.2 rfl)
  unfold joinR
  rw [joinP_one hm (hne ms (List.mem_singleton.2 rfl))]
  unfold finL layR
  cases bk with
  | true => rfl
  | false => rfl
 | a :: b :: c =>
  have hl := joinP_len (a :: b :: c)
  unfold joinR
  obtain ⟨J, hJ⟩ : ∃ J, joinP (a :: b :: c) = J := ⟨_, rfl⟩
  rw [hJ] at hl ⊢
  rw [if_neg (by simp)]
  unfold finL layR
  match hk2 : J.2, hl with
  | x :: y :: q, _ => rfl
set_option maxHeartbeats 4000000 in
theorem dlist_er (rb : Nat) (T : List Tok) (x k : Int) (w : World) (h : DIs w rb T (.er x k)) : Calls Try.prog 18 #[.pointer (some ⟨rb, 0, none⟩)] w fun e w' => e = .returned (.slice none 0 0) ∧ DIs w' rb T (.er x k) ∧ w.grownBy w' (some rb) := by
 have HB := hide (dbreaks_any rb T (.er x k) w h)
 unfold Qu breaksD at HB
 simp only [] at HB
 clear h
 go_enter Try.func18, Try.ntmps18
 go_wp2_with fail
 refine HB.out.mono ?_
 rintro e w1 ⟨rfl, h1, g1⟩
 have HH := hide h1
 have HG := hide g1
 obtain ⟨vt, i, d, h, hk⟩ := h1
 obtain ⟨c0, c1, c2, c3, c4⟩ := h.cells
 have lb := h.lb
 have q : (k == 0) = false := beq_eq_false_iff_ne.2 hk
 have q2 : (k != 0) = true := bne_iff_ne.2 hk
 clear h hk g1
 go_wp2_with fail
 go_loopg [3, 4, 5, 6, 7, 8, 9] 0 (fun g v3 v4 v5 v6 v7 v8 v9 wr => wr = w1)
 case atStart => rfl
 case round =>
  subst hrel
  go_wp2_with fail
  go_ret
  exact ⟨rfl, HH.out, HG.out⟩
set_option maxHeartbeats 16000000 in
theorem dlist_ok (n : Nat) (item : Drd) (hd : ∀ d, Dec 3 (item d)) (he : ∀ d, Eqv (item d)) (Hp : Okn bSl 30 item n) : Okn bNil 18 (fun d => listF (item d)) n := by
 intro rb T d ts w h hn
 have HP := hide (fun W ts hW hl => Hp rb T d ts W hW hl)
 have HD := hide (hd d)
 have HE := hide (he d)
 have HS := hide (fun W st s (hW : DIs W rb T st) => dsign_any rb T st s W hW)
 have HB := hide (fun W ts (hW : DIs W rb T (.ok ts d)) => dbreaks_any rb T (.ok ts d) W hW)
 have HBg := hide (fun W ts (hW : DIs W rb T (.ok ts d)) => dbegins_any rb T (.ok ts d) W hW)
 have HJ := hide (fun ps n vp W (hW : w.heap.size ≤ W.heap.size) hP hn hk hb ht hl => djoin_any (low w) ps n vp (.slice none 0 0) (.slice none 0 0) (.slice none 0 0) (.slice none 0 0) W (fun k hk => Nat.lt_of_lt_of_le hk hW) hP hn hk hb ht hl)
 unfold Qb at HS
 unfold Qb beginsD at HBg
 unfold Qu breaksD at HB
 simp only [] at HB HBg
 have HGD := hide h.good
 have HRB := hide h.lb
 have HN := hide hn
 have HST := hide h
 show Calls Try.prog 18 #[.pointer (some ⟨rb, 0, none⟩)] w (NPost (vNd w) bNil rb T d w (listF (item d) ts []))
 obtain ⟨R, hR⟩ : ∃ R, listF (item d) ts [] = R := ⟨_, rfl⟩
 rw [hR]
 have HR := hide (show (listL (item d) (ts.length + 1) (joinP []).2 false (breaksF ts) (joinP []).1).bind finL = R by
  rw [← hR]
  rfl)
 have HBK := hide (breaks_good h.good.1)
 have HB0 := hide (HB.out w ts h)
 clear hR h hn Hp hd he
 go_enter Try.func18, Try.ntmps18
 go_wp2_with fail
 refine HB0.out.mono ?_
 rintro e w1 ⟨rfl, h1, g1⟩
 have HS1 := hide h1
 have HG1 := hide g1
 clear h1 g1
 go_upto_block 0 with (fail)
 go_cut [3, 4] (fun v3 v4 wx => ∃ st : DS, (∃ x y z, v3 = .slice x y z) ∧ DIs wx rb T st ∧ w.grownBy wx (some rb) ∧ ((∃ Z ps bk, st = .ok Z d ∧ v4 = .bool bk ∧ R = finL ((joinP ps).2, bk) Z (joinP ps).1 ∧ PtD w wx rb T (.ok Z d) v3 ps ∧ ps ≠ [] ∧ (∀ ms ∈ ps, ms ≠ []) ∧ sumL ps ≤ 10000 ∧ ps.length ≤ 600) ∨ (∃ a k, st = .er a k ∧ R = .bad a k)))
 case rest =>
  obtain ⟨st, ⟨x, y, z, hv⟩, hst, hgr, hor⟩ := hcut
  have HST := hide hst
  have HG := hide hgr
  rcases hor with ⟨Z, ps, bk, rfl, rfl, hR, hpt, hne, hnem, hsm, hpl⟩ | ⟨a, k, rfl, hR⟩
  ·rw [finL_eq hpt.kb hnem] at hR
   have HRT := hide hR
   have HPT := hide hpt
   have HNE := hide (And.intro hne hnem)
   have HSM := hide hsm
   obtain ⟨a3, c3', e3⟩ := hpt.form
   subst e3
   clear hv
   obtain ⟨vt, a, fr, h, hdd, hd26⟩ := hst
   obtain ⟨c0, c1, c2, c3, c4⟩ := h.cells
   have lb := h.lb
   have HBx := hide (HB.out wc Z HST.out)
   have hp0 : 0 < ps.length := List.length_pos_iff.2 hne
   clear h hdd hd26 hR hpt hne hnem hsm hgr
   go_wp2_with fail
   refine HBx.out.mono ?_
   rintro e w2 ⟨rfl, h2, g2⟩
   have HPT2 := hide (HPT.out.step g2 h2)
   clear h2 g2 c0 c1 c2 c3 c4 lb
   by_cases hone : ps.length = 1 ∧ bk = false
   ·obtain ⟨hp1, rfl⟩ := hone
    obtain ⟨gp, op, cp, am, cm, e1, hgp, u0, hM⟩ := HPT2.out.parts.at_ 0 hp0
    injection e1 with e1 _ e2
    subst e1 e2
    rw [Nat.add_zero] at u0
    have hib : (0 : Int) < (ps.length : Int) := by omega
    have q1 : ((ps.length : Int) == 1) = true := by rw [beq_iff_eq]; omega
    have HM := hide hM
    have HH := hide (show ps.headD [] = ps[0] by cases ps with | nil => simp at hp0 | cons p ps => rfl)
    have HKB0 := hide (HPT2.out.kb _ (List.getElem_mem hp0))
    have HL0 := hide (show ps[0].length ≤ 10000 by have := sumL_take ps 0 hp0; have := HSM.out; omega)
    have HRU := hide (HRT.out.trans (if_pos ⟨hp1, rfl⟩))
    obtain ⟨m0, hm0⟩ : ∃ m, ps[0] = m := ⟨_, rfl⟩
    rw [hm0] at u0 HM HH HKB0 HL0
    clear hM hm0 hp1
    go_wp2_with fail
    rw [HRU.out, HH.out]
    go_ret
    exact ⟨_, rfl, ⟨HM.out.1, HKB0.out, by have := HL0.out; omega, HM.out.2⟩, HPT2.out.st, HPT2.out.gr⟩
   ·have HRU := hide (HRT.out.trans (if_neg hone))
    have HJ6 := hide (HJ.out ps { kind := 6 } _ _ HPT2.out.gr.size HPT2.out.parts.S (nd0_at 6) rfl HPT2.out.kb (by have := HSM.out; omega) (by omega))
    unfold JPost ndCells sv at HJ6
    simp only [] at HJ6
    have HJK := hide (joinR_kb (ps := ps) (n := { kind := 6 }) HPT2.out.kb (by omega) rfl)
    have fin : ∀ (K : Prop), (((ps.length : Int) == 1) = false → K) → (((ps.length : Int) == 1) = true → bk = true → K) → K := fun K f1 f2 => by
     by_cases h1 : ps.length = 1
     ·exact f2 (by rw [beq_iff_eq]; omega) (by cases bk with | true => rfl | false => exact absurd ⟨h1, rfl⟩ hone)
     ·exact f1 (by rw [beq_eq_false_iff_ne]; omega)
    clear hone
    refine fin _ (fun q1 => ?_) (fun q1 q2 => ?_)
    all_goals (
     clear fin
     try subst q2
     go_wp2_with fail
     refine HJ6.out.mono ?_
     rintro e w7 ⟨v, rfl, hn7, hnw7, g7⟩
     obtain ⟨y1, y2, rfl, _⟩ := hn7.form
     have HN7 := hide hn7
     have HNW := hide (fun g hg => Nat.le_trans HPT2.out.gr.size (hnw7 g hg))
     have HP7 := hide (HPT2.out.grown g7)
     clear hn7 hnw7 g7
     go_wp2_with fail
     rw [HRU.out]
     go_ret
     exact ⟨_, rfl, ⟨HN7.out, HJK.out, by rw [joinR_len]; have := HSM.out; omega, HNW.out⟩, HP7.out.st, HP7.out.gr⟩)
  ·have HRr := hide hR
   subst hv
   obtain ⟨vt, i, dd, h, hk0⟩ := hst
   obtain ⟨c0, c1, c2, c3, c4⟩ := h.cells
   have lb := h.lb
   have qk2 : (k != 0) = true := bne_iff_ne.2 hk0
   clear h hk0 hR hgr
   go_wp2_with fail
   rw [HRr.out]
   go_ret
   exact ⟨_, rfl, rfl, HST.out, HG.out⟩
 go_wp2_with fail
 go_loopg [3, 4, 5, 6, 7, 8, 9] (ts.length + 1) (fun g v3 v4 v5 v6 v7 v8 v9 wr => ∃ (f : Nat) (Z : List Tok) (ps : List (List Nd)) (bk : Bool), v4 = .bool bk ∧ (listL (item d) f (joinP ps).2 bk Z (joinP ps).1).bind finL = R ∧ Z.length < f ∧ Z.length < g ∧ Z.length ≤ ts.length ∧ PtD w wr rb T (.ok Z d) v3 ps ∧ (∀ ms ∈ ps, ms ≠ []) ∧ sumL ps + 10 * Z.length ≤ 5000 ∧ ps.length + Z.length ≤ 600)
 case atStart =>
  refine ⟨ts.length + 1, breaksF ts, [], false, rfl, HR.out, by have := HBK.out.2; omega, by have := HBK.out.2; omega, HBK.out.2, PtD.nil HS1.out HG1.out HRB.out, fun m hm => (by cases hm), ?_, ?_⟩
  ·have := HBK.out.2
   have := HGD.out.2.2.2.1
   show 0 + _ ≤ _
   omega
  ·have := HBK.out.2
   have := HGD.out.2.2.2.1
   simp only [List.length_nil]
   omega
 case round =>
  obtain ⟨f, Z, ps, bk, rfl, hR, hf, hg, hZn, hpt, hnem, hfew, hlen⟩ := hrel
  have HRr := hide hR
  have HPT := hide hpt
  have HNE := hide hnem
  have HF := hide (And.intro hf (And.intro hg (And.intro hZn (And.intro hfew hlen))))
  have HZG := hide hpt.st.good.1
  obtain ⟨a3, c3', e3⟩ := hpt.form
  subst e3
  obtain ⟨f, rfl⟩ : ∃ f', f = f' + 1 := ⟨f - 1, by omega⟩
  have HP1 := hide (HP.out wr Z hpt.st (by have := HN.out; omega))
  obtain ⟨PQ, hpq⟩ : ∃ P, item d Z [] = P := ⟨_, rfl⟩
  rw [hpq] at HP1
  have HPQ := hide hpq
  obtain ⟨vt, a, fr, h, hdd, hd26⟩ := hpt.st
  obtain ⟨c0, c1, c2, c3, c4⟩ := h.cells
  have lb := h.lb
  have hpl : ps.length ≤ 600 := by omega
  clear h hdd hd26 hpq hR hf hg hZn hpt hnem hfew hlen
  go_wp2_with fail
  refine HP1.out.mono ?_
  cases PQ with
  | bad ea ek =>
   rintro e w6 ⟨v, rfl, ⟨v1, v2, v3, rfl⟩, h6, g6⟩
   obtain ⟨cs, q1, q2⟩ := HPT.out.parts.drb g6 HPT.out.st.hasT
   have HQ1 := hide q1
   have HS6 := hide h6
   have HG6 := hide (only_trans HPT.out.gr g6)
   have HR7 := hide (show R = .bad ea ek by rw [← HRr.out, listL, eqv_at HE.out, HPQ.out]; rfl)
   have HX6 := hide (fun W s (hW : DIs W rb T (.er ea ek)) => HS.out W (.er ea ek) s hW)
   unfold sgnD sv at HX6
   simp only [] at HX6
   clear h6 g6 q1 q2 c0 c1 c2 c3 c4 lb
   go_wp2_with fail
   refine (HX6.out w6 [38] HS6.out).mono ?_
   rintro e w7 ⟨rfl, g7⟩
   have HS7 := hide (HS6.out.grown g7)
   have HG7 := hide (only_trans HG6.out (gr_rb g7))
   have HQ7 := hide (old_own g7 HQ1.out)
   clear g7
   go_wp2_with (at_builtin; refine wpList_appAt 23 (.slice none 0 0) 1 24 Try.underlying63 infoNds rfl (.slice a3 ps.length c3') ps.length cs 0 _ 1 [.slice v1 v2 v3] rfl rfl (Own.alloc HQ7.out _) (by omega) (srcPn _ _ v1 v2 v3 rfl) (by unfold maxLen; omega) (by omega) ?_; intro vA wA ho hc hn2 _; (have HSA := hide ((HS7.out.grown (only_alloc (only_refl _ none) _)).chg hc (fun k e => by have := HPT.out.new k e; have := HRB.out; omega))); (have HGA := hide (gr_app HG7.out _ hc HPT.out.new)); (obtain ⟨aA, cA, rfl, _, _⟩ := Own.form ho); clear ho hc hn2)
   refine (HX6.out wA [59] HSA.out).mono ?_
   rintro e w8 ⟨rfl, g8⟩
   have HS8 := hide (HSA.out.grown g8)
   have HG8 := hide (only_trans HGA.out (gr_rb g8))
   clear g8
   go_wp2_with fail
   refine (HX6.out w8 [10] HS8.out).mono ?_
   rintro e w9 ⟨rfl, g9⟩
   have HS9 := hide (HS8.out.grown g9)
   have HG9 := hide (only_trans HG8.out (gr_rb g9))
   clear g9
   go_wp2_with fail
   go_meet
   exact ⟨.er ea ek, ⟨_, _, _, rfl⟩, HS9.out, HG9.out, .inr ⟨ea, ek, rfl, HR7.out⟩⟩
  | ok yy Z1 ms2 =>
   rintro e w6 ⟨v, rfl, hv2, h6, g6⟩
   obtain ⟨v1, v2, rfl⟩ := hv2.form
   have hl := HD.out _ _ _ _ _ HZG.out HPQ.out
   obtain ⟨l1, l2, l3, l4⟩ := hl.ne
   have HZ1 := hide hl.good
   have HL := hide (And.intro l1 (And.intro l2 (And.intro l3 (And.intro l4 hl.len))))
   have HPT6 := hide (HPT.out.step g6 h6)
   have HN6 := hide (hv2.low HPT.out.gr.size)
   have HRx := hide (show R = ((if (isB Z1 sAmp || isB Z1 sSemi || isB Z1 sLf) = true then (if beginsB (breaksF Z1.tail) = true then listL (item d) f (joinP (ps ++ [ampX (isB Z1 sAmp) ms2])).2 (bk || isB Z1 sAmp) (breaksF Z1.tail) (joinP (ps ++ [ampX (isB Z1 sAmp) ms2])).1 else .ok ((joinP (ps ++ [ampX (isB Z1 sAmp) ms2])).2, bk || isB Z1 sAmp) (breaksF Z1.tail) (joinP (ps ++ [ampX (isB Z1 sAmp) ms2])).1) else .ok ((joinP (ps ++ [ampX (isB Z1 sAmp) ms2])).2, bk || isB Z1 sAmp) Z1 (joinP (ps ++ [ampX (isB Z1 sAmp) ms2])).1 : PR (List Int × Bool))).bind finL by
    rw [← HRr.out, list_step l1 hv2.2.1 l2 l3 (by rw [eqv_at HE.out, HPQ.out]; rfl)])
   have HWL := hide h6.good.2.1
   have hs1 := HWL.out.sgn sAnd_in.2.2.1
   have hs2 := HWL.out.sgn sAnd_in.2.2.2.1
   have hs3 := HWL.out.sgn sAnd_in.2.2.2.2.1
   obtain ⟨ba, hba⟩ : ∃ b, sgnB Z1 sAmp = b := ⟨_, rfl⟩
   obtain ⟨bs, hbs⟩ : ∃ b, sgnB Z1 sSemi = b := ⟨_, rfl⟩
   obtain ⟨bl, hbl⟩ : ∃ b, sgnB Z1 sLf = b := ⟨_, rfl⟩
   have HX6 := hide (fun W s (hW : DIs W rb T (.ok Z1 d)) => HS.out W (.ok Z1 d) s hW)
   unfold sgnD sv at HX6
   simp only [] at HX6
   have HXa := hide (fun W hW => by have := HX6.out W sAmp hW; rw [hba] at this; exact this)
   have HXs := hide (fun W hW => by have := HX6.out W sSemi hW; rw [hbs] at this; exact this)
   have HXl := hide (fun W hW => by have := HX6.out W sLf hW; rw [hbl] at this; exact this)
   unfold sAmp at HXa
   unfold sSemi at HXs
   unfold sLf at HXl
   rw [hs1.trans hba, hs2.trans hbs, hs3.trans hbl] at HRx
   have HBX := hide (And.intro (hs1.trans hba) (And.intro (hs2.trans hbs) (hs3.trans hbl)))
   have HFW := hide (show sumL ps + (ms2.length + 1) + 10 * Z1.length ≤ 5000 ∧ ps.length + 1 + Z1.length ≤ 600 by have := HF.out; have := hl.len; omega)
   clear h6 g6 hl l1 l2 l3 l4 hv2 hs1 hs2 hs3 hba hbs hbl c0 c1 c2 c3 c4 lb
   go_wp2_with fail
   refine (HXa.out w6 HPT6.out.st).mono ?_
   rintro e w7 ⟨rfl, g7⟩
   have HPT7 := hide (HPT6.out.grown g7)
   have HN7 := hide (HN6.out.grown g7)
   clear g7
   go_upto_if 21 with (fail)
   go_cut [4, 5] (fun v4 v5 wx => v4 = .bool (bk || ba) ∧ vNd w wx (ampX ba ms2) v5 ∧ w7.grownBy wx none)
   case first =>
    cases ba with
    | true =>
     have HJ7 := hide (HJ.out [ms2] { kind := 7 } _ _ (by rw [World.size_alloc]; have := HPT7.out.gr.size; omega) (parts1 HN7.out.1) (nd0_at 7) rfl (by intro q hq; rw [List.mem_singleton] at hq; subst hq; exact HN7.out.2.1) (by show _ + 0 ≤ _; have := HFW.out; omega) (by show 1 ≤ 1000; omega))
     unfold JPost ndCells sv at HJ7
     simp only [] at HJ7
     go_wp2_with fail
     refine HJ7.out.mono ?_
     rintro e w8 ⟨v, rfl, hn8, hnw8, g8⟩
     obtain ⟨y1, y2, rfl, _⟩ := hn8.form
     have HN8 := hide hn8
     have HNW := hide (fun g hg => Nat.le_trans (Nat.le_trans HPT7.out.gr.size (by rw [World.size_alloc]; omega)) (hnw8 g hg))
     have HG8 := hide (none_trans (only_alloc (only_refl w7 none) _) g8)
     clear hn8 hnw8 g8
     go_wp2_with fail
     go_meet
     exact ⟨by simp, ⟨HN8.out, ampX_kb HN7.out.2.1, by have := ampX_len (amp := true) (ms := ms2); have := HFW.out; omega, HNW.out⟩, HG8.out⟩
    | false =>
     go_wp2_with fail
     go_meet
     exact ⟨by simp, HN7.out, only_refl _ _⟩
   case rest =>
    obtain ⟨rfl, hv5, hg8⟩ := hcut
    obtain ⟨x1, x2, rfl⟩ := hv5.form
    have HV := hide hv5
    have HPT8 := hide (HPT7.out.grown hg8)
    clear hv5 hg8
    obtain ⟨XQ, hXQ⟩ : ∃ X, ampX ba ms2 = X := ⟨_, rfl⟩
    have HXN := hide (show XQ ≠ [] by rw [← hXQ]; exact ampX_ne HL.out.1)
    have HXL := hide (show XQ.length ≤ ms2.length + 1 by rw [← hXQ]; exact ampX_len)
    rw [hXQ] at HV HRx
    simp only [hXQ]
    obtain ⟨cs, q1, q2⟩ := HPT8.out.parts
    have HQ1 := hide q1
    have HQ2 := hide q2
    clear q1 q2 hXQ
    go_wp2_with (at_builtin; refine wpList_appAt 23 (.slice none 0 0) 1 24 Try.underlying63 infoNds rfl (.slice a3 ps.length c3') ps.length cs 0 _ 1 [.slice x1 XQ.length x2] rfl rfl (Own.alloc HQ1.out _) (by omega) (srcPn _ _ x1 XQ.length x2 rfl) (by unfold maxLen; omega) (by omega) ?_; intro vA wA ho hc hn2 _; (have HPA := hide (PtD.app HPT8.out HQ1.out HQ2.out _ HV.out.1 HV.out.2.1 HV.out.2.2.2 ho hc hn2)); (obtain ⟨aA, cA, rfl, _, _⟩ := Own.form ho); clear ho hc hn2)
    refine (HXs.out wA HPA.out.st).mono ?_
    rintro e w9 ⟨rfl, g9⟩
    have HP9 := hide (HPA.out.grown g9)
    clear g9
    go_wp2_with fail
    refine (HXl.out w9 HP9.out.st).mono ?_
    rintro e w10 ⟨rfl, g10⟩
    have HP10 := hide (HP9.out.grown g10)
    clear g10
    have HNM := hide (show ∀ m ∈ ps ++ [XQ], m ≠ [] from fun m hm => by
     rw [List.mem_append, List.mem_singleton] at hm
     rcases hm with hm | rfl
     ·exact HNE.out m hm
     ·exact HXN.out)
    have HSU := hide (show sumL (ps ++ [XQ]) + 10 * Z1.length ≤ 5000 ∧ (ps ++ [XQ]).length + Z1.length ≤ 600 by
     rw [sumL_snoc, List.length_append, List.length_singleton]
     have := HFW.out
     have := HXL.out
     omega)
    go_upto_region 13 with (fail)
    go_cut [43] (fun v43 wx => v43 = .bool (!(ba || bs || bl)) ∧ wx = w10)
    case first =>
     cases ba with
     | true =>
      go_wp2_with fail
      go_meet
      exact ⟨by simp, rfl⟩
     | false =>
      cases bs with
      | true =>
       go_wp2_with fail
       go_meet
       exact ⟨by simp, rfl⟩
      | false =>
       go_wp2_with fail
       go_meet
       exact ⟨by simp, rfl⟩
    case rest =>
     obtain ⟨rfl, hwc⟩ := hcut
     subst hwc
     obtain ⟨cnt, hcnt⟩ : ∃ c, (ba || bs || bl) = c := ⟨_, rfl⟩
     have HC := hide hcnt
     rw [hcnt] at HRx
     simp only [hcnt]
     clear hcnt
     cases cnt with
     | false =>
      have HRT := hide (show R = finL ((joinP (ps ++ [XQ])).2, bk || ba) Z1 (joinP (ps ++ [XQ])).1 from HRx.out)
      go_wp2_with fail
      go_meet
      exact ⟨.ok Z1 d, ⟨_, _, _, rfl⟩, HP10.out.st, HP10.out.gr, .inl ⟨Z1, ps ++ [XQ], bk || ba, rfl, rfl, HRT.out, HP10.out, by simp, HNM.out, by have := HSU.out.1; omega, by have := HSU.out.2; omega⟩⟩
     | true =>
      obtain ⟨t, r, hZ⟩ := HZ1.out.ne
      have htk : t.k ≠ 4 := by
       have h1 := HC.out
       have h2 := HBX.out
       rw [Bool.or_eq_true, Bool.or_eq_true] at h1
       rcases h1 with (h1 | h1) | h1
       ·exact (is_k (hZ ▸ (h2.1.trans h1))).1
       ·exact (is_k (hZ ▸ (h2.2.1.trans h1))).1
       ·exact (is_k (hZ ▸ (h2.2.2.trans h1))).1
      have hrt : Z1.tail = r := by rw [hZ]; rfl
      have HRZ := hide (show R = ((if beginsB (breaksF r) = true then listL (item d) f (joinP (ps ++ [XQ])).2 (bk || ba) (breaksF r) (joinP (ps ++ [XQ])).1 else .ok ((joinP (ps ++ [XQ])).2, bk || ba) (breaksF r) (joinP (ps ++ [XQ])).1 : PR (List Int × Bool))).bind finL by rw [HRx.out, if_pos rfl, hrt])
      have hgr : Good r := (hZ ▸ HZ1.out : Good (t :: r)).tail htk
      have HBG := hide (breaks_good hgr)
      have HZL := hide (show r.length + 1 = Z1.length by rw [hZ]; rfl)
      obtain ⟨vt, a, fr, h, hdd, hd26⟩ := HP10.out.st
      obtain ⟨c0, c1, c2, c3, c4⟩ := h.cells
      have lb := h.lb
      have z1 := Blk.frozen h.blk 1
      have hal : (a : Int) ≤ 500 := by have := h.lt; have := h.tg.len; omega
      have HNX := hide (DIs.next h hdd hd26 hZ htk)
      clear h hdd hd26 hZ htk hrt hgr
      go_upto_region 15 with (fail)
      have hg4 := only_setCell (only_refl wc (some rb)) (p := ⟨rb, 1, none⟩) (.inl rfl) (.int .i64 ((a : Int) + 1))
      have HP11 := hide (HP10.out.step hg4 HNX.out)
      generalize wc.setCell ⟨rb, 1, none⟩ (.int .i64 ((a : Int) + 1)) = W4 at HP11 ⊢
      clear hg4 c0 c1 c2 c3 c4 lb z1 hal
      have HBk := hide (HB.out W4 r HP11.out.st)
      go_wp2_with fail
      refine HBk.out.mono ?_
      rintro e w12 ⟨rfl, h12, g12⟩
      have HP12 := hide (HP11.out.step g12 h12)
      have HBe := hide (HBg.out w12 (breaksF r) h12)
      clear h12 g12
      obtain ⟨be, hbe⟩ : ∃ b, beginsB (breaksF r) = b := ⟨_, rfl⟩
      rw [hbe] at HBe HRZ
      clear hbe
      go_wp2_with fail
      refine HBe.out.mono ?_
      rintro e w13 ⟨rfl, g13⟩
      have HP13 := hide (HP12.out.grown g13)
      clear g13
      cases be with
      | false =>
       have HRT := hide (show R = finL ((joinP (ps ++ [XQ])).2, bk || ba) (breaksF r) (joinP (ps ++ [XQ])).1 from HRZ.out)
       go_wp2_with fail
       go_meet
       exact ⟨.ok (breaksF r) d, ⟨_, _, _, rfl⟩, HP13.out.st, HP13.out.gr, .inl ⟨breaksF r, ps ++ [XQ], bk || ba, rfl, rfl, HRT.out, HP13.out, by simp, HNM.out, by have := HSU.out.1; omega, by have := HSU.out.2; omega⟩⟩
      | true =>
       have HRT := hide (show (listL (item d) f (joinP (ps ++ [XQ])).2 (bk || ba) (breaksF r) (joinP (ps ++ [XQ])).1).bind finL = R from HRZ.out.symm)
       go_wp2_with fail
       go_roundg (gk - 1)
       case rel => exact ⟨f, breaksF r, ps ++ [XQ], bk || ba, rfl, HRT.out, by have := HBG.out.2; have := HZL.out; have := HL.out.2.2.2.2; have := HF.out; omega, by have := HBG.out.2; have := HZL.out; have := HL.out.2.2.2.2; have := HF.out; omega, by have := HBG.out.2; have := HZL.out; have := HL.out.2.2.2.2; have := HF.out; omega, HP13.out, HNM.out, by have := HBG.out.2; have := HZL.out; have := HSU.out.1; omega, by have := HBG.out.2; have := HZL.out; have := HSU.out.2; omega⟩
       case measure => have := HF.out; omega
end Go.Proofs.Ytgpfjcogaheopaa
