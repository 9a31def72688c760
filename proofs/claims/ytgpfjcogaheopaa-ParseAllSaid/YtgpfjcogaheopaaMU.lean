/- Several texts in one. -/
import Derived.Test.YtgpfjcogaheopaaET
import Derived.Test.YtgpfjcogaheopaaMW
import Derived.Test.YtgpfjcogaheopaaXU
import Derived.Test.YtgpfjcogaheopaaPX
set_option linter.all false
section
/- The document's reader by induction; its Parse. -/
namespace Go.Proofs.Ytgpfjcogaheopaa
open Go.RowKit Lx
set_option maxRecDepth 100000
def CmpOk (f : Nat) : Prop := ∀ rb T d ts w, DIs w rb T (.ok ts d) → ts.length ≤ f → cmpH ts = true → Calls Try.prog 67 #[.pointer (some ⟨rb, 0, none⟩)] w (NPost (vNd w) (bNd w) rb T d w (cmpF (core f) d ts []))
theorem dlst_of (f : Nat) (h : CmpOk f) : Okn bNil 18 (lst f) f := by
 have hc : DecD 5 (cmdF (cmpF (core f))) := cmd_dec (cmp_dec (core_dec f))
 have hv : EqvD (cmdF (cmpF (core f))) := cmd_v (cmpc_v f)
 have h1 := dcommand_ok f (cmpF (core f)) (cmp_dec (core_dec f)) h
 have h2 := dpipe_ok f (cmdF (cmpF (core f))) hc hv h1
 have h3 := ditem_ok f (fun d => pipeF (cmdF (cmpF (core f)) d)) (fun d => pipe_dec (hc d)) (fun d => pipe_v (hv d)) h2
 exact dlist_ok f (fun d => itemF (pipeF (cmdF (cmpF (core f)) d))) (fun d => item_dec (pipe_dec (hc d))) (fun d => item_v (pipe_v (hv d))) h3
theorem dcmp_all : ∀ f, CmpOk f
 | 0 => fun rb T d ts w h hn _ => by
  obtain ⟨t, r, e⟩ := h.good.1.ne
  rw [e] at hn
  simp at hn
 | f + 1 => fun rb T d ts w h hn hc => dcompound_any f (lst f) (lst_left f) (lstF_v (cmpc_v f)) (dlst_of f (dcmp_all f)) rb T ts d w h hn hc
theorem dlst_ok (f : Nat) : Okn bNil 18 (lst f) f := dlst_of f (dcmp_all f)
theorem DIs.start {w : World} {L : Nat} {ts : List Tok} {v : Value} (ht : Toks L ts) (_hL : L ≤ 4096) (hw : Wl ts) (hv : Own w 41 3 v ts.length (tcs ts) 0) : DIs (w.alloc (.cells #[v, .int .i64 0, .int .i64 0, .int .i64 0, .int .i64 0] 50)) w.heap.size ts (.ok ts 0) := by
 refine ⟨v, 0, 0, ⟨Blk.new w 50 _, hv.alloc _, ht.good.pos, ⟨ht.good, hw, fun t h => ?_, by have := ht.len; omega⟩, fun g hg => hv.lt hg⟩, List.drop_zero, by omega⟩
 rcases ht.w t h with ⟨h1, h2, _⟩ | h1
 ·exact ⟨by rw [h2]; simp, fun e => by omega⟩
 ·exact ⟨h1.len, h1.io⟩
def parseU (ns : List Nd) : List Tok → Ps
 | [] => ⟨[], 0, 0⟩
 | u :: _ => if u.k ≠ 4 then ⟨[], u.a, 17⟩ else if 300 < ns.length then ⟨[], 0, 12⟩ else ⟨ns, 0, 0⟩
def parseH : PR Int → Ps
 | .bad a e => ⟨[], a, e⟩
 | .ok _ us ns => parseU ns us
theorem parseG_eq (ts : List Tok) (t : Tok) (r : List Tok) : parseG ts (t :: r) = if t.k = 4 then ⟨[], 0, 0⟩ else parseH (lst ts.length 0 (t :: r) []) := by
 show (if t.k = 4 then _ else _) = _
 congr 1
set_option maxHeartbeats 16000000 in
theorem dparse_any (s : List UInt8) (w : World) (hm : s.length ≤ 9223372036854775807) : Calls Try.prog 10 #[sv s] w (ParsePost w (parseF s)) := by
 have HA := hide (fun W => all_d s W hm)
 obtain ⟨R, hR⟩ : ∃ R, parseF s = R := ⟨_, rfl⟩
 rw [hR]
 have HR := hide (show R = (match allF s with | .err a e => ⟨[], a, e⟩ | .ok ts => parseT ts) from hR.symm)
 obtain ⟨PA, hpa⟩ : ∃ PA, allF s = PA := ⟨_, rfl⟩
 rw [hpa] at HA HR
 have HPA := hide hpa
 unfold ParsePost sv at *
 clear hR hpa hm
 cases PA with
 | err a e =>
  have HE := hide (all_e HPA.out)
  have hq : (e != 0) = true := by rw [bne_iff_ne]; exact HE.out.1
  unfold AllPost at HA
  go_enter Try.func10, Try.ntmps10
  go_wp2_with fail
  refine (HA.out _).mono ?_
  rintro e1 w1 ⟨rfl, g1⟩
  have HG1 := hide g1
  clear g1
  go_wp2_with fail
  rw [show R = ⟨[], a, e⟩ from HR.out]
  go_ret3
  exact ⟨_, rfl, NdS.nil _ _, fun b hb => (by cases hb), HG1.out⟩
 | ok ts =>
  obtain ⟨hsl, htk⟩ := all_toks HPA.out
  have HTK := hide htk
  have HWL := hide (all_wl HPA.out)
  have HSL := hide hsl
  have HRT := hide (show R = parseG ts (breaksF ts) from HR.out.trans (parseT_eq ts))
  have HBk := hide (fun W rb st (hW : DIs W rb ts st) => dbreaks_any rb ts st W hW)
  have HWr := hide (fun W rb st (hW : DIs W rb ts st) => dwrong_any rb ts st W hW)
  have HLs := hide (fun W rb us (hW : DIs W rb ts (.ok us 0)) (hl : us.length ≤ ts.length) => dlst_ok ts.length rb ts 0 us W hW hl)
  unfold Qu at HBk HWr
  unfold AllPost at HA
  clear hsl htk
  go_enter Try.func10, Try.ntmps10
  go_wp2_with fail
  refine (HA.out _).mono ?_
  rintro e1 w1 ⟨⟨v, rfl, hv, _⟩, g1⟩
  obtain ⟨v1, v3, rfl, _, _⟩ := Own.form hv
  have HS0 := hide (DIs.start HTK.out HSL.out HWL.out hv)
  have HG0 := hide (only_alloc g1 (.cells #[.slice v1 ts.length v3, .int .i64 0, .int .i64 0, .int .i64 0, .int .i64 0] 50))
  have HRB := hide g1.size
  clear hv g1
  go_upto_region 5 with (fail)
  generalize w1.alloc (.cells #[.slice v1 ts.length v3, .int .i64 0, .int .i64 0, .int .i64 0, .int .i64 0] 50) = W1, w1.heap.size = rb at HS0 HG0 HRB ⊢
  have HQ1 := hide (HBk.out W1 rb _ HS0.out)
  go_wp2_with fail
  refine HQ1.out.mono ?_
  rintro e W2 ⟨rfl, h2, g2⟩
  have HS2 := hide (show DIs W2 rb ts (.ok (breaksF ts) 0) from h2)
  have HG2 := hide (only_new HG0.out HRB.out g2)
  clear h2 g2
  have hbl := breaks_good HTK.out.good
  obtain ⟨Z, hZ⟩ : ∃ Z, breaksF ts = Z := ⟨_, rfl⟩
  rw [hZ] at HS2 HRT hbl
  have HBL := hide hbl
  clear hZ hbl
  obtain ⟨t, r, rfl⟩ := HBL.out.1.ne
  have HRX := hide (show R = if t.k = 4 then ⟨[], 0, 0⟩ else parseH (lst ts.length 0 (t :: r) []) from HRT.out.trans (parseG_eq _ _ _))
  obtain ⟨vt, a, fr9, h, hd, hdd⟩ := HS2.out
  obtain ⟨c0, c1, c2, c3, c4⟩ := h.cells
  obtain ⟨g, off, cap, t9, r9, rfl, hc, hg, hd2, t0, t1, t2⟩ := h.tok_
  have lb := h.lb
  have hlt := h.lt
  have hib : (0 : Int) ≤ (a : Int) ∧ (a : Int) < ((ts.length : Nat) : Int) := by omega
  have hTl := h.tg.len
  obtain ⟨LT, hL⟩ : ∃ LT, ts.length = LT := ⟨_, rfl⟩
  have hAL : (a : Int) ≤ 500 := by omega
  have HDA := hide h
  have HDD := hide (And.intro hd hdd)
  have hZ := hd.symm.trans hd2
  injection hZ with hZ1 hZ2
  subst hZ1 hZ2
  rw [hL] at c0 hib hc hTl
  have z1 := Blk.frozen h.blk 1
  clear h hd hdd hd2 hL hlt
  obtain ⟨tk, tt, ta⟩ := t
  simp only [] at t0 t1 t2 HRX
  obtain ⟨b4, hb4⟩ : ∃ b, ((tk : Int) == 4) = b := ⟨_, rfl⟩
  have HB4 := hide (show decide (tk = 4) = b4 by
   rw [← hb4]
   by_cases k4 : tk = 4
   ·subst k4; rfl
   ·rw [decide_eq_false k4]; symm; rw [beq_eq_false_iff_ne]; omega)
  go_upto_region 6 with (fail)
  go_cut [36] (fun v36 wx => v36 = .bool b4 ∧ W2.grownBy wx none)
  case first =>
   go_quiet (fail)
   go_wp2_with fail
   go_meet
   exact ⟨by first | rfl | (rw [hb4]), only_drewN (only_refl W2 none) _⟩
  case rest =>
  obtain ⟨rfl, hg3⟩ := hcut
  have HS3 := hide (HS2.out.grown hg3)
  have HG3 := hide (none_trans HG2.out hg3)
  clear hg3 hb4
  clear c0 c1 c2 c3 c4 t0 t1 t2 hg lb hib hTl hAL hc z1
  cases b4 with
  | true =>
   have hk : tk = 4 := of_decide_eq_true HB4.out
   go_wp2_with fail
   rw [show R = ⟨[], 0, 0⟩ from HRX.out.trans (if_pos hk)]
   go_ret3
   exact ⟨_, rfl, NdS.nil _ _, fun b hb => (by cases hb), HG3.out⟩
  | false =>
   have hk : tk ≠ 4 := of_decide_eq_false HB4.out
   have HQ := hide (HLs.out wc rb _ HS3.out HBL.out.2)
   obtain ⟨PQ, hpq⟩ : ∃ P, lst ts.length 0 (⟨tk, tt, ta⟩ :: r) [] = P := ⟨_, rfl⟩
   rw [hpq] at HQ
   have HRY := hide (show R = parseH PQ from by rw [HRX.out, if_neg hk, hpq])
   clear hk hpq
   go_wp2_with fail
   refine HQ.out.mono ?_
   cases PQ with
   | bad ea ek =>
    rintro e W4 ⟨v, rfl, rfl, h4, g4⟩
    have HS4 := hide h4
    have HG4 := hide (only_new HG3.out HRB.out g4)
    have HRE := hide (show R = ⟨[], ea, ek⟩ from HRY.out)
    clear h4 g4
    obtain ⟨vt, i, dd, h, hk0⟩ := HS4.out
    obtain ⟨c0, c1, c2, c3, c4⟩ := h.cells
    have lb := h.lb
    have qk1 : (ek == 0) = false := beq_eq_false_iff_ne.2 hk0
    have qk2 : (ek != 0) = true := bne_iff_ne.2 hk0
    clear h hk0
    go_upto_region 9 with (fail)
    go_cut [57] (fun v57 wx => v57 = .bool false ∧ W4.grownBy wx none)
    case first =>
     go_quiet (fail)
     go_wp2_with fail
     go_meet
     exact ⟨rfl, only_drewN (only_refl W4 none) _⟩
    case rest =>
    obtain ⟨rfl, hg5⟩ := hcut
    have HS5 := hide (HS4.out.grown hg5)
    have HG5 := hide (none_trans HG4.out hg5)
    clear hg5 c0 c1 c2 c3 c4 lb qk1 qk2
    obtain ⟨w5, hw5⟩ : ∃ x, x = wc := ⟨_, rfl⟩
    subst hw5
    obtain ⟨vt, i, dd, h, hk0⟩ := HS5.out
    obtain ⟨c0, c1, c2, c3, c4⟩ := h.cells
    have lb := h.lb
    have qk1 : (ek == 0) = false := beq_eq_false_iff_ne.2 hk0
    have qk2 : (ek != 0) = true := bne_iff_ne.2 hk0
    clear h hk0
    go_upto_region 12 with (fail)
    go_quiet (fail)
    have HGn := hide (fun n => none_trans HG5.out (only_drewN (only_refl w5 none) n))
    clear c0 c1 c2 c3 c4 lb qk1 qk2
    go_wp2_with fail
    rw [HRE.out]
    go_ret3
    exact ⟨_, rfl, NdS.nil _ _, fun b hb => (by cases hb), HGn.out _⟩
   | ok x Z ns =>
    rintro e W4 ⟨v, rfl, hv4, h4, g4⟩
    obtain ⟨y1, y2, rfl⟩ := hv4.form
    have HS4 := hide h4
    have HV4 := hide (hv4.low HG3.out.size)
    have HG4 := hide (only_new HG3.out HRB.out g4)
    obtain ⟨u, z, rfl⟩ := h4.good.1.ne
    have HRZ := hide (show R = if u.k ≠ 4 then ⟨[], u.a, 17⟩ else if 300 < ns.length then ⟨[], 0, 12⟩ else ⟨ns, 0, 0⟩ from HRY.out)
    clear h4 g4 hv4
    obtain ⟨vt, a, fr9, h, hd, hdd⟩ := HS4.out
    obtain ⟨c0, c1, c2, c3, c4⟩ := h.cells
    obtain ⟨g, off, cap, t9, r9, rfl, hc, hg, hd2, t0, t1, t2⟩ := h.tok_
    have lb := h.lb
    have hlt := h.lt
    have hib : (0 : Int) ≤ (a : Int) ∧ (a : Int) < ((ts.length : Nat) : Int) := by omega
    have hTl := h.tg.len
    obtain ⟨LT, hL⟩ : ∃ LT, ts.length = LT := ⟨_, rfl⟩
    have hAL : (a : Int) ≤ 500 := by omega
    have HDA := hide h
    have HDD := hide (And.intro hd hdd)
    have hZ := hd.symm.trans hd2
    injection hZ with hZ1 hZ2
    subst hZ1 hZ2
    rw [hL] at c0 hib hc hTl
    have z1 := Blk.frozen h.blk 1
    clear h hd hdd hd2 hL hlt
    obtain ⟨uk, ut, ua⟩ := u
    simp only [] at t0 t1 t2 HRZ
    obtain ⟨b5, hb5⟩ : ∃ b, ((uk : Int) != 4) = b := ⟨_, rfl⟩
    have HB5 := hide (show decide (uk ≠ 4) = b5 by
     rw [← hb5]
     by_cases k4 : uk = 4
     ·subst k4; rfl
     ·rw [decide_eq_true k4]; symm; rw [bne_iff_ne]; omega)
    go_upto_region 9 with (fail)
    go_cut [57] (fun v57 wx => v57 = .bool b5 ∧ W4.grownBy wx none)
    case first =>
     go_quiet (fail)
     go_wp2_with fail
     go_meet
     exact ⟨by first | rfl | (rw [hb5]), only_drewN (only_refl W4 none) _⟩
    case rest =>
    obtain ⟨rfl, hg5⟩ := hcut
    have HS5 := hide (HS4.out.grown hg5)
    have HV5 := hide (HV4.out.grown hg5)
    have HG5 := hide (none_trans HG4.out hg5)
    clear hg5 hb5
    clear c0 c1 c2 c3 c4 t0 t1 t2 hg lb hib hTl hAL hc z1
    obtain ⟨w5, hw5⟩ : ∃ x, x = wc := ⟨_, rfl⟩
    subst hw5
    cases b5 with
    | true =>
     have hk : uk ≠ 4 := of_decide_eq_true HB5.out
     have HRE := hide (show R = ⟨[], ua, 17⟩ from HRZ.out.trans (if_pos hk))
     have HQw := hide (HWr.out w5 rb _ HS5.out)
     unfold wrongD at HQw
     simp only [hk, if_false] at HQw
     clear hk
     go_wp2_with fail
     refine HQw.out.mono ?_
     rintro e w6 ⟨rfl, h6, g6⟩
     have HS5 := hide h6
     have HG5 := hide (only_new HG5.out HRB.out g6)
     clear h6 g6
     obtain ⟨ea, hea⟩ : ∃ x : Int, (ua : Int) = x := ⟨_, rfl⟩
     obtain ⟨ek, hek⟩ : ∃ x : Int, (17 : Int) = x := ⟨_, rfl⟩
     rw [hea, hek] at HS5 HRE
     clear hea hek
     obtain ⟨w5, hw5⟩ : ∃ x, x = w6 := ⟨_, rfl⟩
     subst hw5
     obtain ⟨vt, i, dd, h, hk0⟩ := HS5.out
     obtain ⟨c0, c1, c2, c3, c4⟩ := h.cells
     have lb := h.lb
     have qk1 : (ek == 0) = false := beq_eq_false_iff_ne.2 hk0
     have qk2 : (ek != 0) = true := bne_iff_ne.2 hk0
     clear h hk0
     go_upto_region 12 with (fail)
     go_quiet (fail)
     have HGn := hide (fun n => none_trans HG5.out (only_drewN (only_refl w5 none) n))
     clear c0 c1 c2 c3 c4 lb qk1 qk2
     go_wp2_with fail
     rw [HRE.out]
     go_ret3
     exact ⟨_, rfl, NdS.nil _ _, fun b hb => (by cases hb), HGn.out _⟩
    | false =>
     have hk : ¬ uk ≠ 4 := of_decide_eq_false HB5.out
     have HRE := hide (show R = if 300 < ns.length then ⟨[], 0, 12⟩ else ⟨ns, 0, 0⟩ from HRZ.out.trans (if_neg hk))
     clear hk
     obtain ⟨vt, i, fr9, h, hdd, hd26⟩ := HS5.out
     obtain ⟨c0, c1, c2, c3, c4⟩ := h.cells
     have lb := h.lb
     clear h hdd hd26
     by_cases h300 : 300 < ns.length
     ·have q300 : decide ((300 : Int) < (ns.length : Int)) = true := decide_eq_true (by omega)
      have HRF := hide (HRE.out.trans (if_pos h300))
      clear h300
      go_wp2_with fail
      rw [HRF.out]
      go_ret3
      exact ⟨_, rfl, NdS.nil _ _, fun b hb => (by cases hb), HG5.out⟩
     ·have q300 : decide ((300 : Int) < (ns.length : Int)) = false := decide_eq_false (by omega)
      have HRF := hide (HRE.out.trans (if_neg h300))
      clear h300
      go_wp2_with fail
      rw [HRF.out]
      go_ret3
      exact ⟨_, rfl, HV5.out.1, HV5.out.2.2.2, HG5.out⟩
end Go.Proofs.Ytgpfjcogaheopaa

end
section
/- The document's comparison, on nodes that are the same. -/
namespace Go.Proofs.Ytgpfjcogaheopaa
open Go.RowKit Lx
set_option maxRecDepth 100000
theorem drewN_gr {w : World} (n : Nat) : w.grownBy (w.drewN n) none := only_drewN (only_refl w none) n
theorem strs_at {w : World} {v : Value} {l : List (List UInt8)} (h : StrS w v l) (i : Nat) (hi : i < l.length) : ∃ g off cap, v = .slice (some ⟨g, off, none⟩) l.length cap ∧ g < w.heap.size ∧ w.cell? ⟨g, off + i, none⟩ = some (.string ⟨(l[i]).toArray⟩) := by
 obtain ⟨g, off, cap, rfl, _, _, hg, hcs⟩ := Own.some_ h (by omega)
 refine ⟨g, off, cap, rfl, hg, ?_⟩
 rw [hcs i (by omega), List.getElem?_map, List.getElem?_eq_getElem hi]
 rfl
theorem rds_at {w : World} {v : Value} {l : List Rd} (h : RdS w v l) (i : Nat) (hi : i < l.length) : ∃ g off cap, v = .slice (some ⟨g, off, none⟩) l.length cap ∧ g < w.heap.size ∧ w.cell? ⟨g, off + i * 3, none⟩ = some (.int .i64 (l[i]).fd) ∧ w.cell? ⟨g, off + i * 3 + 1, none⟩ = some (sv (l[i]).op) ∧ w.cell? ⟨g, off + i * 3 + 2, none⟩ = some (sv (l[i]).wd) := by
 obtain ⟨g, off, cap, rfl, _, _, hg, hcs⟩ := Own.some_ h (by omega)
 have key : ∀ (l : List Rd) (i : Nat) (hi : i < l.length) (j : Nat), j < 3 → (l.flatMap Rd.cells)[i * 3 + j]? = (Rd.cells l[i])[j]? := by
  intro l
  induction l with
  | nil => intro i hi; exact absurd hi (by simp)
  | cons x l ih =>
   intro i hi j hj
   rw [List.flatMap_cons]
   cases i with
   | zero => rw [List.getElem?_append_left (by simp [Rd.cells]; omega)]; simp
   | succ i =>
    rw [List.getElem?_append_right (by simp [Rd.cells]; omega)]
    have := ih i (by simpa using hi) j hj
    simp only [List.getElem_cons_succ]
    rw [← this]
    congr 1
    simp [Rd.cells]
    omega
 refine ⟨g, off, cap, rfl, hg, ?_, ?_, ?_⟩
 ·rw [hcs _ (by omega)]; exact key l i hi 0 (by omega)
 ·rw [Nat.add_assoc, hcs _ (by omega)]; exact key l i hi 1 (by omega)
 ·rw [Nat.add_assoc, hcs _ (by omega)]; exact key l i hi 2 (by omega)
theorem pats_at {av : Nat → Prop} {w : World} {v : Value} {l : List (List (List UInt8))} (h : PatS av w v l) (i : Nat) (hi : i < l.length) : ∃ g off cap a c, v = .slice (some ⟨g, off, none⟩) l.length cap ∧ g < w.heap.size ∧ w.cell? ⟨g, off + i, none⟩ = some (.slice a (l[i]).length c) ∧ StrS w (.slice a (l[i]).length c) l[i] := by
 obtain ⟨cs, h1, _, h2⟩ := h
 obtain ⟨g, off, cap, rfl, _, _, hg, hcs⟩ := Own.some_ h1 (by omega)
 obtain ⟨u, hu, hs, _⟩ := h2 i hi
 obtain ⟨a, c, rfl, _, _⟩ := Own.form hs
 exact ⟨g, off, cap, a, c, rfl, hg, (hcs i (by omega)).trans hu, hs⟩
theorem srcForm {w : World} {e : TypeId} {s n k : Nat} {v : Value} {xs : List Value} (h : Own w e s v n xs k) : ∃ a c, v = .slice a n c ∧ (n : Int) ≤ 9223372036854775807 := by
 obtain ⟨a, c, e, h1, h2⟩ := h.form
 exact ⟨a, c, e, by unfold maxLen at h2; omega⟩
set_option maxHeartbeats 4000000 in
theorem dtexts_same (l : List (List UInt8)) (a b : Value) (w : World) (h1 : StrS w a l) (h2 : StrS w b l) : Calls Try.prog 44 #[a, b] w fun e w' => e = .returned (.bool true) ∧ ∃ m, w' = w.drewN m := by
 obtain ⟨a1, a3, rfl, hL⟩ := srcForm h1
 obtain ⟨b1, b3, rfl, _⟩ := srcForm h2
 have H1 := hide h1
 have H2 := hide h2
 clear h1 h2
 go_enter Try.func44, Try.ntmps44
 go_wp2_with fail
 go_loopg [5] (l.length + 1) (fun g v5 wr => ∃ i : Nat, v5 = .int .i64 i ∧ i ≤ l.length ∧ g + i = l.length + 1 ∧ ∃ m, wr = w.drewN m)
 case atStart => exact ⟨0, rfl, Nat.zero_le _, rfl, 0, rfl⟩
 case round =>
  obtain ⟨i, rfl, hi, hg, m, rfl⟩ := hrel
  have HG := hide (And.intro hi hg)
  by_cases h : i < l.length
  ·have q : decide ((i : Int) < (l.length : Int)) = true := decide_eq_true (by omega)
   have hib : (0 : Int) ≤ (i : Int) ∧ (i : Int) < ((l.length : Nat) : Int) := by omega
   have hs1 : (i : Int) + 1 ≤ 9223372036854775807 := by omega
   obtain ⟨g1, o1, c1, e1, lg1, x1⟩ := strs_at H1.out i h
   obtain ⟨g2, o2, c2, e2, lg2, x2⟩ := strs_at H2.out i h
   injection e1 with e1 _ e1c
   injection e2 with e2 _ e2c
   subst e1 e2 e1c e2c
   clear hi hg
   go_upto_region 6 with (fail)
   go_quiet (fail)
   go_wp2_with fail
   go_roundg (gk - 1)
   case rel => exact ⟨i + 1, by rw [Int.natCast_add]; rfl, h, by have := HG.out; omega, _, rfl⟩
   case measure => have := HG.out; omega
  ·have q : decide ((i : Int) < (l.length : Int)) = false := decide_eq_false (by omega)
   clear hi hg
   go_wp2_with fail
   go_ret
   exact ⟨rfl, m, rfl⟩
/-- Two nodes that are the same, in their boxes. -/
structure TwoD (W : World) (A B : Nat) (n : Nd) (a b r p k a' b' r' p' k' : Value) : Prop where
 ba : Blk W A 33 #[.int .i64 n.kind, .string ⟨n.name.toArray⟩, .bool n.inn, a, b, r, p, k]
 bb : Blk W B 33 #[.int .i64 n.kind, .string ⟨n.name.toArray⟩, .bool n.inn, a', b', r', p', k']
 s1 : StrS W a n.sets
 s2 : StrS W a' n.sets
 w1 : StrS W b n.words
 w2 : StrS W b' n.words
 r1 : RdS W r n.redirs
 r2 : RdS W r' n.redirs
 p1 : PatS (fun _ => False) W p n.pats
 p2 : PatS (fun _ => False) W p' n.pats
 k1 : IntS W k n.kids
 k2 : IntS W k' n.kids
section
variable {W W' : World} {A B : Nat} {n : Nd} {a b r p k a' b' r' p' k' : Value}
theorem PatS.grown {av : Nat → Prop} {v : Value} {l : List (List (List UInt8))} (h : PatS av W v l) (hg : W.grownBy W' none) : PatS av W' v l := by
 obtain ⟨cs, h1, h2, h3⟩ := h
 exact ⟨cs, old_own hg h1, h2, fun i hi => by obtain ⟨u, hu, hs, ha⟩ := h3 i hi; exact ⟨u, hu, old_own hg hs, ha⟩⟩
theorem TwoD.grown (h : TwoD W A B n a b r p k a' b' r' p' k') (hg : W.grownBy W' none) : TwoD W' A B n a b r p k a' b' r' p' k' :=
 ⟨Blk.grown h.ba hg (by simp), Blk.grown h.bb hg (by simp), old_own hg h.s1, old_own hg h.s2, old_own hg h.w1, old_own hg h.w2, old_own hg h.r1, old_own hg h.r2, h.p1.grown hg, h.p2.grown hg, old_own hg h.k1, old_own hg h.k2⟩
theorem TwoD.start {av1 av2 : Nat → Prop} {w : World} (h1 : NdAt av1 w a b r p k n) (h2 : NdAt av2 w a' b' r' p' k' n) : TwoD ((w.alloc (.cells #[.int .i64 n.kind, .string ⟨n.name.toArray⟩, .bool n.inn, a, b, r, p, k] 33)).alloc (.cells #[.int .i64 n.kind, .string ⟨n.name.toArray⟩, .bool n.inn, a', b', r', p', k'] 33)) w.heap.size (w.heap.size + 1) n a b r p k a' b' r' p' k' := by
 have hg := only_alloc (only_alloc (only_refl w none) (.cells #[.int .i64 n.kind, .string ⟨n.name.toArray⟩, .bool n.inn, a, b, r, p, k] 33)) (.cells #[.int .i64 n.kind, .string ⟨n.name.toArray⟩, .bool n.inn, a', b', r', p', k'] 33)
 have hb := Blk.new (w.alloc (.cells #[.int .i64 n.kind, .string ⟨n.name.toArray⟩, .bool n.inn, a, b, r, p, k] 33)) 33 #[.int .i64 n.kind, .string ⟨n.name.toArray⟩, .bool n.inn, a', b', r', p', k']
 rw [World.size_alloc] at hb
 have pf : ∀ {av : Nat → Prop} {v : Value} {l : List (List (List UInt8))}, PatS av w v l → PatS (fun _ => False) w v l := fun h => by
  obtain ⟨cs, q1, _, q3⟩ := h
  exact ⟨cs, q1, fun _ _ h => h, fun i hi => by obtain ⟨u, hu, hs, _⟩ := q3 i hi; exact ⟨u, hu, hs, fun _ _ h => h⟩⟩
 exact ⟨(Blk.new w 33 _).alloc _, hb, old_own hg h1.sets, old_own hg h2.sets, old_own hg h1.words, old_own hg h2.words, old_own hg h1.rds, old_own hg h2.rds, (pf h1.pats).grown hg, (pf h2.pats).grown hg, old_own hg h1.kids, old_own hg h2.kids⟩
end
set_option maxHeartbeats 8000000 in
theorem done_same (av1 av2 : Nat → Prop) (n : Nd) (a b r p k a' b' r' p' k' : Value) (w : World) (h1 : NdAt av1 w a b r p k n) (h2 : NdAt av2 w a' b' r' p' k' n) :
  Calls Try.prog 25 #[.agg (ndCells n a b r p k).toArray, .agg (ndCells n a' b' r' p' k').toArray] w fun e w' => e = .returned (.bool true) ∧ w.grownBy w' none := by
 have HT := hide (fun l a b W h1 h2 => dtexts_same l a b W h1 h2)
 have HB := hide (TwoD.start h1 h2)
 have HG := hide (only_alloc (only_alloc (only_refl w none) (.cells #[.int .i64 n.kind, .string ⟨n.name.toArray⟩, .bool n.inn, a, b, r, p, k] 33)) (.cells #[.int .i64 n.kind, .string ⟨n.name.toArray⟩, .bool n.inn, a', b', r', p', k'] 33))
 obtain ⟨a1, a3, rfl, _⟩ := srcForm h1.sets
 obtain ⟨b1, b3, rfl, _⟩ := srcForm h1.words
 obtain ⟨r1, r3, rfl, hrl⟩ := srcForm h1.rds
 obtain ⟨k1, k3, rfl, hkl⟩ := srcForm h1.kids
 obtain ⟨pc1, pq1, _⟩ := h1.pats
 obtain ⟨p1, p3, rfl, hpl⟩ := srcForm pq1
 obtain ⟨a1', a3', rfl, _⟩ := srcForm h2.sets
 obtain ⟨b1', b3', rfl, _⟩ := srcForm h2.words
 obtain ⟨r1', r3', rfl, _⟩ := srcForm h2.rds
 obtain ⟨k1', k3', rfl, _⟩ := srcForm h2.kids
 obtain ⟨pc2, pq2, _⟩ := h2.pats
 obtain ⟨p1', p3', rfl, _⟩ := srcForm pq2
 have HLS := hide (And.intro hrl (And.intro hkl hpl))
 clear h1 h2 pq1 pq2 hrl hkl hpl
 unfold ndCells sv
 go_enter Try.func25, Try.ntmps25
 go_upto_region 1 with (fail)
 generalize (w.alloc (.cells #[.int .i64 n.kind, .string ⟨n.name.toArray⟩, .bool n.inn, .slice a1 n.sets.length a3, .slice b1 n.words.length b3, .slice r1 n.redirs.length r3, .slice p1 n.pats.length p3, .slice k1 n.kids.length k3] 33)).alloc (.cells #[.int .i64 n.kind, .string ⟨n.name.toArray⟩, .bool n.inn, .slice a1' n.sets.length a3', .slice b1' n.words.length b3', .slice r1' n.redirs.length r3', .slice p1' n.pats.length p3', .slice k1' n.kids.length k3'] 33) = W1, w.heap.size + 1 = B at HB HG ⊢
 generalize w.heap.size = A at HB ⊢
 obtain ⟨x0, x1, x2, x3, x4, x5, x6, x7, lA⟩ := box8 HB.out.ba
 obtain ⟨y0, y1, y2, y3, y4, y5, y6, y7, lB⟩ := box8 HB.out.bb
 have HT1 := hide (HT.out _ _ _ W1 HB.out.s1 HB.out.s2)
 go_wp2_with fail
 refine HT1.out.mono ?_
 rintro e W2 ⟨rfl, m, hm⟩
 have hg2 : W1.grownBy W2 none := by rw [hm]; exact drewN_gr m
 have HB := hide (HB.out.grown hg2)
 have HG := hide (none_trans HG.out hg2)
 clear hm hg2 x0 x1 x2 x3 x4 x5 x6 x7 lA y0 y1 y2 y3 y4 y5 y6 y7 lB
 obtain ⟨x0, x1, x2, x3, x4, x5, x6, x7, lA⟩ := box8 HB.out.ba
 obtain ⟨y0, y1, y2, y3, y4, y5, y6, y7, lB⟩ := box8 HB.out.bb
 have HT2 := hide (HT.out _ _ _ W2 HB.out.w1 HB.out.w2)
 go_wp2_with fail
 refine HT2.out.mono ?_
 rintro e W3 ⟨rfl, m, hm⟩
 have hg2 : W2.grownBy W3 none := by rw [hm]; exact drewN_gr m
 have HB := hide (HB.out.grown hg2)
 have HG := hide (none_trans HG.out hg2)
 clear hm hg2 x0 x1 x2 x3 x4 x5 x6 x7 lA y0 y1 y2 y3 y4 y5 y6 y7 lB
 obtain ⟨x0, x1, x2, x3, x4, x5, x6, x7, lA⟩ := box8 HB.out.ba
 obtain ⟨y0, y1, y2, y3, y4, y5, y6, y7, lB⟩ := box8 HB.out.bb
 go_upto_block 0 with (fail)
 go_cut [] (fun wx => W3.grownBy wx none)
 case first =>
  go_wp2_with fail
  go_loopg [7] (n.redirs.length + 1) (fun g vv wr => ∃ i : Nat, vv = .int .i64 i ∧ i ≤ n.redirs.length ∧ g + i = n.redirs.length + 1 ∧ W3.grownBy wr none)
  case atStart => exact ⟨0, rfl, Nat.zero_le _, rfl, only_refl _ none⟩
  case round =>
   obtain ⟨i, rfl, hi, hg, hgr⟩ := hrel
   have HGi := hide (And.intro hi hg)
   have HGR := hide hgr
   have HBr := hide (HB.out.grown hgr)
   clear x0 x1 x2 x3 x4 x5 x6 x7 lA y0 y1 y2 y3 y4 y5 y6 y7 lB
   obtain ⟨x0, x1, x2, x3, x4, x5, x6, x7, lA⟩ := box8 HBr.out.ba
   obtain ⟨y0, y1, y2, y3, y4, y5, y6, y7, lB⟩ := box8 HBr.out.bb
   have hll := HLS.out
   by_cases h : i < n.redirs.length
   ·have q : decide ((i : Int) < (n.redirs.length : Int)) = true := decide_eq_true (by omega)
    have hib : (0 : Int) ≤ (i : Int) ∧ (i : Int) < ((n.redirs.length : Nat) : Int) := by omega
    have hs1 : (i : Int) + 1 ≤ 9223372036854775807 := by omega
    obtain ⟨g1, o1, c1, e1, lg1, t0, t1, t2⟩ := rds_at HBr.out.r1 i h
    obtain ⟨g2, o2, c2, e2, lg2, s0, s1, s2⟩ := rds_at HBr.out.r2 i h
    injection e1 with e1 _ e1c
    injection e2 with e2 _ e2c
    subst e1 e2 e1c e2c
    unfold sv at t1 t2 s1 s2
    clear hi hg hgr hll
    go_upto_region 8 with (fail)
    go_quiet (fail)
    go_wp2_with fail
    go_roundg (gk - 1)
    case rel => exact ⟨i + 1, by rw [Int.natCast_add]; rfl, h, by have := HGi.out; omega, none_trans HGR.out (drewN_gr _)⟩
    case measure => have := HGi.out; omega
   ·have q : decide ((i : Int) < (n.redirs.length : Int)) = false := decide_eq_false (by omega)
    clear hi hg hgr hll
    go_wp2_with fail
    go_meet
    exact HGR.out
 case rest =>
  have HB := hide (HB.out.grown hcut)
  have HG := hide (none_trans HG.out hcut)
  clear hcut x0 x1 x2 x3 x4 x5 x6 x7 lA y0 y1 y2 y3 y4 y5 y6 y7 lB
  obtain ⟨x0, x1, x2, x3, x4, x5, x6, x7, lA⟩ := box8 HB.out.ba
  obtain ⟨y0, y1, y2, y3, y4, y5, y6, y7, lB⟩ := box8 HB.out.bb
  obtain ⟨W4, hW⟩ : ∃ x, x = wc := ⟨_, rfl⟩
  subst hW
  go_upto_block 2 with (fail)
  go_cut [] (fun wx => W4.grownBy wx none)
  case first =>
   go_wp2_with fail
   go_loopg [8] (n.pats.length + 1) (fun g vv wr => ∃ i : Nat, vv = .int .i64 i ∧ i ≤ n.pats.length ∧ g + i = n.pats.length + 1 ∧ W4.grownBy wr none)
   case atStart => exact ⟨0, rfl, Nat.zero_le _, rfl, only_refl _ none⟩
   case round =>
    obtain ⟨i, rfl, hi, hg, hgr⟩ := hrel
    have HGi := hide (And.intro hi hg)
    have HGR := hide hgr
    have HBr := hide (HB.out.grown hgr)
    clear x0 x1 x2 x3 x4 x5 x6 x7 lA y0 y1 y2 y3 y4 y5 y6 y7 lB
    obtain ⟨x0, x1, x2, x3, x4, x5, x6, x7, lA⟩ := box8 HBr.out.ba
    obtain ⟨y0, y1, y2, y3, y4, y5, y6, y7, lB⟩ := box8 HBr.out.bb
    have hll := HLS.out
    by_cases h : i < n.pats.length
    ·have q : decide ((i : Int) < (n.pats.length : Int)) = true := decide_eq_true (by omega)
     have hib : (0 : Int) ≤ (i : Int) ∧ (i : Int) < ((n.pats.length : Nat) : Int) := by omega
     have hs1 : (i : Int) + 1 ≤ 9223372036854775807 := by omega
     obtain ⟨g1, o1, c1, z1, z3, e1, lg1, t0, hs⟩ := pats_at HBr.out.p1 i h
     obtain ⟨g2, o2, c2, z2, z4, e2, lg2, s0, hs'⟩ := pats_at HBr.out.p2 i h
     injection e1 with e1 _ e1c
     injection e2 with e2 _ e2c
     subst e1 e2 e1c e2c
     have HTq := hide (fun m => HT.out _ _ _ (wr.drewN m) (old_own (drewN_gr m) hs) (old_own (drewN_gr m) hs'))
     clear hs hs'
     clear hi hg hgr hll
     go_upto_region 13 with (fail)
     go_quiet (first | (go_at_call 44; exact Calls.quiet_of (HTq.out _)))
     go_wp2_with fail
     go_roundg (gk - 1)
     case rel => exact ⟨i + 1, by rw [Int.natCast_add]; rfl, h, by have := HGi.out; omega, none_trans HGR.out (drewN_gr _)⟩
     case measure => have := HGi.out; omega
    ·have q : decide ((i : Int) < (n.pats.length : Int)) = false := decide_eq_false (by omega)
     clear hi hg hgr hll
     go_wp2_with fail
     go_meet
     exact HGR.out
  case rest =>
   have HB := hide (HB.out.grown hcut)
   have HG := hide (none_trans HG.out hcut)
   clear hcut x0 x1 x2 x3 x4 x5 x6 x7 lA y0 y1 y2 y3 y4 y5 y6 y7 lB
   obtain ⟨x0, x1, x2, x3, x4, x5, x6, x7, lA⟩ := box8 HB.out.ba
   obtain ⟨y0, y1, y2, y3, y4, y5, y6, y7, lB⟩ := box8 HB.out.bb
   obtain ⟨W5, hW⟩ : ∃ x, x = wc := ⟨_, rfl⟩
   subst hW
   go_upto_block 4 with (fail)
   go_cut [] (fun wx => W5.grownBy wx none)
   case first =>
    go_wp2_with fail
    go_loopg [10] (n.kids.length + 1) (fun g vv wr => ∃ i : Nat, vv = .int .i64 i ∧ i ≤ n.kids.length ∧ g + i = n.kids.length + 1 ∧ W5.grownBy wr none)
    case atStart => exact ⟨0, rfl, Nat.zero_le _, rfl, only_refl _ none⟩
    case round =>
     obtain ⟨i, rfl, hi, hg, hgr⟩ := hrel
     have HGi := hide (And.intro hi hg)
     have HGR := hide hgr
     have HBr := hide (HB.out.grown hgr)
     clear x0 x1 x2 x3 x4 x5 x6 x7 lA y0 y1 y2 y3 y4 y5 y6 y7 lB
     obtain ⟨x0, x1, x2, x3, x4, x5, x6, x7, lA⟩ := box8 HBr.out.ba
     obtain ⟨y0, y1, y2, y3, y4, y5, y6, y7, lB⟩ := box8 HBr.out.bb
     have hll := HLS.out
     by_cases h : i < n.kids.length
     ·have q : decide ((i : Int) < (n.kids.length : Int)) = true := decide_eq_true (by omega)
      have hib : (0 : Int) ≤ (i : Int) ∧ (i : Int) < ((n.kids.length : Nat) : Int) := by omega
      have hs1 : (i : Int) + 1 ≤ 9223372036854775807 := by omega
      obtain ⟨g1, o1, c1, e1, lg1, t0⟩ := ints_at HBr.out.k1 i h
      obtain ⟨g2, o2, c2, e2, lg2, s0⟩ := ints_at HBr.out.k2 i h
      injection e1 with e1 _ e1c
      injection e2 with e2 _ e2c
      subst e1 e2 e1c e2c
      clear hi hg hgr hll
      go_upto_region 19 with (fail)
      go_quiet (fail)
      go_wp2_with fail
      go_roundg (gk - 1)
      case rel => exact ⟨i + 1, by rw [Int.natCast_add]; rfl, h, by have := HGi.out; omega, none_trans HGR.out (drewN_gr _)⟩
      case measure => have := HGi.out; omega
     ·have q : decide ((i : Int) < (n.kids.length : Int)) = false := decide_eq_false (by omega)
      clear hi hg hgr hll
      go_wp2_with fail
      go_meet
      exact HGR.out
   case rest =>
    have HB := hide (HB.out.grown hcut)
    have HG := hide (none_trans HG.out hcut)
    clear hcut x0 x1 x2 x3 x4 x5 x6 x7 lA y0 y1 y2 y3 y4 y5 y6 y7 lB
    obtain ⟨x0, x1, x2, x3, x4, x5, x6, x7, lA⟩ := box8 HB.out.ba
    obtain ⟨y0, y1, y2, y3, y4, y5, y6, y7, lB⟩ := box8 HB.out.bb
    obtain ⟨W6, hW⟩ : ∃ x, x = wc := ⟨_, rfl⟩
    subst hW
    go_wp2_with fail
    go_ret
    exact ⟨rfl, HG.out⟩
set_option maxHeartbeats 8000000 in
theorem dsame_same (av1 av2 : Nat → Prop) (ns : List Nd) (v u : Value) (w : World) (h1 : NdS av1 w v ns) (h2 : NdS av2 w u ns) : Calls Try.prog 12 #[v, u] w fun e w' => e = .returned (.bool true) ∧ w.grownBy w' none := by
 have HO := hide (fun n a b r p k a' b' r' p' k' W h1 h2 => done_same av1 av2 n a b r p k a' b' r' p' k' W h1 h2)
 obtain ⟨a1, a3, rfl⟩ : ∃ a c, v = .slice a ns.length c := by obtain ⟨a, c, e, _⟩ := h1.form; exact ⟨a, c, e⟩
 obtain ⟨b1, b3, rfl⟩ : ∃ a c, u = .slice a ns.length c := by obtain ⟨a, c, e, _⟩ := h2.form; exact ⟨a, c, e⟩
 have hL : (ns.length : Int) ≤ 9223372036854775807 := by obtain ⟨cs, h3, _⟩ := h1; obtain ⟨_, _, _, h4⟩ := srcForm h3; exact h4
 have H1 := hide h1
 have H2 := hide h2
 clear h1 h2
 unfold ndCells sv at HO
 go_enter Try.func12, Try.ntmps12
 go_wp2_with fail
 go_loopg [5] (ns.length + 1) (fun g v5 wr => ∃ i : Nat, v5 = .int .i64 i ∧ i ≤ ns.length ∧ g + i = ns.length + 1 ∧ w.grownBy wr none)
 case atStart => exact ⟨0, rfl, Nat.zero_le _, rfl, only_refl w none⟩
 case round =>
  obtain ⟨i, rfl, hi, hg, hgr⟩ := hrel
  have HGi := hide (And.intro hi hg)
  have HGR := hide hgr
  by_cases h : i < ns.length
  ·have q : decide ((i : Int) < (ns.length : Int)) = true := decide_eq_true (by omega)
   have hib : (0 : Int) ≤ (i : Int) ∧ (i : Int) < ((ns.length : Nat) : Int) := by omega
   have hs1 : (i : Int) + 1 ≤ 9223372036854775807 := by omega
   obtain ⟨g1, o1, c1, xa, xb, xr, xp, xk, e1, lg1, hn1, u0, u1, u2, u3, u4, u5, u6, u7⟩ := (H1.out.grown hgr).at_ i h
   obtain ⟨g2, o2, c2, ya, yb, yr, yp, yk, e2, lg2, hn2, v0, v1, v2, v3, v4, v5, v6, v7⟩ := (H2.out.grown hgr).at_ i h
   injection e1 with e1 _ e1c
   injection e2 with e2 _ e2c
   subst e1 e2 e1c e2c
   have HQ := hide (fun m => HO.out _ _ _ _ _ _ _ _ _ _ _ (wr.drewN m) (NdAt.fr (base := fun _ => False) (Fr.of_grown (drewN_gr m)) hn1) (NdAt.fr (base := fun _ => False) (Fr.of_grown (drewN_gr m)) hn2))
   have hf1 := ndForms hn1
   have hf2 := ndForms hn2
   obtain ⟨f1, f2, f3, f4, f5, f6, f7, f8, f9, f10, f11, f12, f13, f15, rfl, rfl, rfl, rfl, rfl⟩ := hf1
   obtain ⟨j1, j2, j3, j4, j5, j6, j7, j8, j9, j10, j11, j12, j13, j15, rfl, rfl, rfl, rfl, rfl⟩ := hf2
   unfold sv at u1 v1
   clear hi hg hgr hn1 hn2
   go_upto_region 6 with (fail)
   refine wp_region_qtail 8 (by kernel_rfl) (by kernel_rfl) ?_
   simp only [List.take_succ_cons, List.take_zero, List.drop_succ_cons, List.drop_zero]
   repeat (go_big_quiet_step (fail))
   refine wpQuiet_nil ?_
   rintro _ ⟨nq, rfl⟩
   clear u0 u1 u2 u3 u4 u5 u6 u7 v0 v1 v2 v3 v4 v5 v6 v7
   go_wp2_with fail
   refine (HQ.out nq).mono ?_
   rintro e w5 ⟨rfl, g5⟩
   have HG5 := hide (none_trans HGR.out (none_trans (drewN_gr nq) g5))
   clear g5
   go_wp2_with fail
   go_roundg (gk - 1)
   case rel => exact ⟨i + 1, by rw [Int.natCast_add]; rfl, h, by have := HGi.out; omega, HG5.out⟩
   case measure => have := HGi.out; omega
  ·have q : decide ((i : Int) < (ns.length : Int)) = false := decide_eq_false (by omega)
   clear hi hg hgr
   go_wp2_with fail
   go_ret
   exact ⟨rfl, HGR.out⟩
end Go.Proofs.Ytgpfjcogaheopaa

end
section
/- The walk of ParseAll. -/
namespace Go.Proofs.Ytgpfjcogaheopaa
open Go.RowKit Lx
set_option maxRecDepth 100000
/-- A slice of cells of this type, whatever they hold. -/
def Sh (w : World) (e : TypeId) (v : Value) : Prop := ∃ n xs, Own w e 1 v n xs 0
/-- Nodes from the i-th on, in new blocks: their words and kids may be written. -/
def LSh (w0 w : World) (v : Value) (n i : Nat) : Prop := ∃ cs, Own w 33 8 v n cs 0 ∧ (∀ g, v.ownBlock = some g → w0.heap.size ≤ g) ∧ ∀ j, i ≤ j → j < n → ∃ b k, cs[j * 8 + 4]? = some b ∧ Sh w 9 b ∧ Av (low w0) b ∧ cs[j * 8 + 7]? = some k ∧ Sh w 3 k ∧ Av (low w0) k
section
variable {w0 w : World} {e : TypeId} {v : Value} {n i : Nat}
theorem Sh.set (h : Sh w e v) (b o : Nat) (u : Value) : Sh (w.setCell ⟨b, o, none⟩ u) e v := by
 obtain ⟨n, xs, h⟩ := h
 by_cases hb : v.ownBlock = some b
 ·rcases h.2 with ⟨rfl, _⟩ | ⟨g, off, cap, cur, fz, rfl, hg, h1, h2, h3, h4, h5⟩
  ·cases hb
  ·obtain rfl : g = b := Option.some.inj hb
   refine ⟨n, ((cur.setIfInBounds o u).toList.drop off).take (n * 1), ?_, .inr ⟨_, _, _, cur.setIfInBounds o u, fz, rfl, by simp [World.setCell, Array.getElem?_modify, hg], h1, h2, h3, by simpa using h4, fun j hj => ?_⟩⟩
   ·simp
    omega
   ·rw [List.getElem?_take, if_pos hj, List.getElem?_drop, Array.getElem?_toList]
 ·exact ⟨n, xs, h.far (p := ⟨b, o, none⟩) hb u⟩
theorem LSh.of {ns : List Nd} (h : NdS (low w0) w v ns) (hn : ∀ g, v.ownBlock = some g → w0.heap.size ≤ g) : LSh w0 w v ns.length 0 := by
 obtain ⟨cs, h1, h2⟩ := h
 refine ⟨cs, h1, hn, fun j _ hj => ?_⟩
 obtain ⟨a, b, r, p, k, e, hd⟩ := h2 j hj
 have hc : ∀ m, m < 8 → cs[j * 8 + m]? = (ndCells ns[j] a b r p k)[m]? := fun m hm => by rw [← e, List.getElem?_take, if_pos hm, List.getElem?_drop]
 exact ⟨b, k, hc 4 (by omega), ⟨_, _, hd.words⟩, hd.hb, hc 7 (by omega), ⟨_, _, hd.kids⟩, hd.hk⟩
theorem LSh.setE (h : LSh w0 w v n i) {b : Nat} (hT : HasT w b e) (he : e ≠ 33) (o : Nat) (u : Value) : LSh w0 (w.setCell ⟨b, o, none⟩ u) v n i := by
 obtain ⟨cs, h1, h2, h3⟩ := h
 refine ⟨cs, h1.far (p := ⟨b, o, none⟩) (fun x => he ((Own.hasT h1 x).uniq hT).symm) u, h2, fun j hj hn => ?_⟩
 obtain ⟨x, y, q1, q2, q3, q4, q5, q6⟩ := h3 j hj hn
 exact ⟨x, y, q1, q2.set b o u, q3, q4, q5.set b o u, q6⟩
theorem LSh.at_ (h : LSh w0 w v n i) (hi : i < n) : ∃ g off cap b k, v = .slice (some ⟨g, off, none⟩) n cap ∧ w0.heap.size ≤ g ∧ g < w.heap.size ∧ HasT w g 33 ∧ w.cell? ⟨g, off + i * 8 + 4, none⟩ = some b ∧ w.cell? ⟨g, off + i * 8 + 7, none⟩ = some k ∧ (∃ a m c, b = .slice a m c) ∧ (∃ a m c, k = .slice a m c) := by
 obtain ⟨cs, h1, h2, h3⟩ := h
 obtain ⟨b, k, q1, q2, _, q4, q5, _⟩ := h3 i (Nat.le_refl _) hi
 have hT : ∀ g, v.ownBlock = some g → HasT w g 33 := fun g hg => Own.hasT h1 hg
 obtain ⟨g, off, cap, rfl, _, _, hg, hcs⟩ := h1.some_ (by omega)
 refine ⟨g, off, cap, b, k, rfl, h2 g rfl, hg, hT g rfl, ?_, ?_, ?_, ?_⟩
 ·rw [Nat.add_assoc, hcs _ (by omega)]; exact q1
 ·rw [Nat.add_assoc, hcs _ (by omega)]; exact q4
 ·obtain ⟨m, xs, ho⟩ := q2
  obtain ⟨a, c, e, _⟩ := ho.form
  exact ⟨a, m, c, e⟩
 ·obtain ⟨m, xs, ho⟩ := q5
  obtain ⟨a, c, e, _⟩ := ho.form
  exact ⟨a, m, c, e⟩
theorem LSh.shape {g off cap : Nat} {b : Value} (h : LSh w0 w (.slice (some ⟨g, off, none⟩) n cap) n i) (hi : i < n) (hc : w.cell? ⟨g, off + i * 8 + 4, none⟩ = some b) : Sh w 9 b ∧ Av (low w0) b := by
 obtain ⟨cs, h1, h2, h3⟩ := h
 obtain ⟨b', k, q1, q2, q3, _⟩ := h3 i (Nat.le_refl _) hi
 obtain ⟨g', off', cap', e, _, _, _, hcs⟩ := h1.some_ (by omega)
 injection e with e1 _ _
 injection e1 with e1
 injection e1 with e2 e3
 subst e2 e3
 rw [Nat.add_assoc, hcs _ (by omega), q1] at hc
 obtain rfl := Option.some.inj hc
 exact ⟨q2, q3⟩
theorem LSh.shapeK {g off cap : Nat} {b : Value} (h : LSh w0 w (.slice (some ⟨g, off, none⟩) n cap) n i) (hi : i < n) (hc : w.cell? ⟨g, off + i * 8 + 7, none⟩ = some b) : Sh w 3 b ∧ Av (low w0) b := by
 obtain ⟨cs, h1, h2, h3⟩ := h
 obtain ⟨_, b', _, _, _, q1, q2, q3⟩ := h3 i (Nat.le_refl _) hi
 obtain ⟨g', off', cap', e, _, _, _, hcs⟩ := h1.some_ (by omega)
 injection e with e1 _ _
 injection e1 with e1
 injection e1 with e2 e3
 subst e2 e3
 rw [Nat.add_assoc, hcs _ (by omega), q1] at hc
 obtain rfl := Option.some.inj hc
 exact ⟨q2, q3⟩
/-- A place of such a slice may be written. -/
theorem Sh.at_ {a : Option Addr} {m c : Nat} (h : Sh w e (.slice a m c)) (k : Nat) (hk : k < m) : ∃ g o u, a = some ⟨g, o, none⟩ ∧ g < w.heap.size ∧ w.cell? ⟨g, o + k, none⟩ = some u ∧ w.frozen? ⟨g, o + k, none⟩ = false ∧ HasT w g e := by
 obtain ⟨n, xs, h⟩ := h
 obtain ⟨a', c', e', _, _⟩ := h.form
 injection e' with e1 e2 e3
 subst e1 e2 e3
 obtain ⟨g, off, cap, e', _, _, hg, hcs⟩ := h.some_ (by omega)
 injection e' with e1 _ e3
 subst e1 e3
 have hl := h.len
 refine ⟨g, off, xs[k]'(by omega), rfl, hg, ?_, Own.frozen0 h k, Own.hasT h rfl⟩
 rw [hcs k (by omega), List.getElem?_eq_getElem (by omega)]
theorem Sh.lenI {a : Option Addr} {m c : Nat} (h : Sh w e (.slice a m c)) : (m : Int) ≤ 9223372036854775807 := by
 obtain ⟨n, xs, h⟩ := h
 obtain ⟨a', c', e', h1, h2⟩ := h.form
 injection e' with e1 e2 e3
 subst e2
 unfold maxLen at h2
 omega
/-- The i-th node struck. -/
theorem LSh.clear {g off cap : Nat} (h : LSh w0 w (.slice (some ⟨g, off, none⟩) n cap) n i) (hi : i < n) : LSh w0 ((((((((w.setCell ⟨g, off + i * 8, none⟩ (.int .i64 0)).setCell ⟨g, off + i * 8 + 1, none⟩ (.string ⟨#[]⟩)).setCell ⟨g, off + i * 8 + 2, none⟩ (.bool false)).setCell ⟨g, off + i * 8 + 3, none⟩ (.slice none 0 0)).setCell ⟨g, off + i * 8 + 4, none⟩ (.slice none 0 0)).setCell ⟨g, off + i * 8 + 5, none⟩ (.slice none 0 0)).setCell ⟨g, off + i * 8 + 6, none⟩ (.slice none 0 0)).setCell ⟨g, off + i * 8 + 7, none⟩ (.slice none 0 0)) (.slice (some ⟨g, off, none⟩) n cap) n (i + 1) := by
 obtain ⟨cs, h1, h2, h3⟩ := h
 have o1 := h1.set (i * 8) (by omega) (.int .i64 0)
 have o2 := o1.set (i * 8 + 1) (by omega) (.string ⟨#[]⟩)
 have o3 := o2.set (i * 8 + 2) (by omega) (.bool false)
 have o4 := o3.set (i * 8 + 3) (by omega) (.slice none 0 0)
 have o5 := o4.set (i * 8 + 4) (by omega) (.slice none 0 0)
 have o6 := o5.set (i * 8 + 5) (by omega) (.slice none 0 0)
 have o7 := o6.set (i * 8 + 6) (by omega) (.slice none 0 0)
 have o8 := o7.set (i * 8 + 7) (by omega) (.slice none 0 0)
 refine ⟨_, o8, h2, fun j hj hn => ?_⟩
 obtain ⟨b, k, q1, q2, q3, q4, q5, q6⟩ := h3 j (by omega) hn
 refine ⟨b, k, ?_, ?_, q3, ?_, ?_, q6⟩
 ·rw [List.getElem?_set_ne (by omega), List.getElem?_set_ne (by omega), List.getElem?_set_ne (by omega), List.getElem?_set_ne (by omega), List.getElem?_set_ne (by omega), List.getElem?_set_ne (by omega), List.getElem?_set_ne (by omega), List.getElem?_set_ne (by omega)]
  exact q1
 ·exact ((((((((q2.set g _ _).set g _ _).set g _ _).set g _ _).set g _ _).set g _ _).set g _ _).set g _ _)
 ·rw [List.getElem?_set_ne (by omega), List.getElem?_set_ne (by omega), List.getElem?_set_ne (by omega), List.getElem?_set_ne (by omega), List.getElem?_set_ne (by omega), List.getElem?_set_ne (by omega), List.getElem?_set_ne (by omega), List.getElem?_set_ne (by omega)]
  exact q4
 ·exact ((((((((q5.set g _ _).set g _ _).set g _ _).set g _ _).set g _ _).set g _ _).set g _ _).set g _ _)
theorem gr8 {g o : Nat} (h : w0.grownBy w none) (hg : w0.heap.size ≤ g) : w0.grownBy ((((((((w.setCell ⟨g, o, none⟩ (.int .i64 0)).setCell ⟨g, o + 1, none⟩ (.string ⟨#[]⟩)).setCell ⟨g, o + 2, none⟩ (.bool false)).setCell ⟨g, o + 3, none⟩ (.slice none 0 0)).setCell ⟨g, o + 4, none⟩ (.slice none 0 0)).setCell ⟨g, o + 5, none⟩ (.slice none 0 0)).setCell ⟨g, o + 6, none⟩ (.slice none 0 0)).setCell ⟨g, o + 7, none⟩ (.slice none 0 0)) none :=
 none_setCell (none_setCell (none_setCell (none_setCell (none_setCell (none_setCell (none_setCell (none_setCell h (p := ⟨g, o, none⟩) hg _) (p := ⟨g, o + 1, none⟩) hg _) (p := ⟨g, o + 2, none⟩) hg _) (p := ⟨g, o + 3, none⟩) hg _) (p := ⟨g, o + 4, none⟩) hg _) (p := ⟨g, o + 5, none⟩) hg _) (p := ⟨g, o + 6, none⟩) hg _) (p := ⟨g, o + 7, none⟩) hg _
theorem LSh.cells {g off cap : Nat} (h : LSh w0 w (.slice (some ⟨g, off, none⟩) n cap) n i) (hi : i < n) : ∀ m, m < 8 → ∃ u, w.cell? ⟨g, off + i * 8 + m, none⟩ = some u ∧ w.frozen? ⟨g, off + i * 8 + m, none⟩ = false := by
 obtain ⟨cs, h1, h2, h3⟩ := h
 intro m hm
 have hl := h1.len
 have hf := Own.frozen0 h1 (i * 8 + m)
 obtain ⟨g', off', cap', e, _, _, _, hcs⟩ := h1.some_ (by omega)
 injection e with e1 _ _
 injection e1 with e1
 injection e1 with e2 e3
 subst e2 e3
 rw [← Nat.add_assoc] at hf
 refine ⟨cs[i * 8 + m]'(by omega), ?_, hf⟩
 rw [Nat.add_assoc, hcs _ (by omega), List.getElem?_eq_getElem (by omega)]
end
theorem cell_far {w : World} {b l : Nat} (h : b ≠ l) (o q : Nat) (u : Value) : (w.setCell ⟨b, o, none⟩ u).cell? ⟨l, q, none⟩ = w.cell? ⟨l, q, none⟩ := World.cell?_of_block (Below.heap_setCell w ⟨b, o, none⟩ u l (fun e => h e.symm))
set_option maxHeartbeats 16000000 in
theorem all_any (l : List UInt8) (w : World) (hm : l.length ≤ 9223372036854775807) : Calls Try.prog 3 #[sv l] w fun e w' => e = .returned (.bool true) ∧ w.grownBy w' none := by
 have HSh := hide (fun W => shown_any W)
 have HD := hide (fun W => dparse_any l W hm)
 have HP := hide (fun W => parse_any l W hm)
 have HSm := hide (fun av1 av2 ns v u W h1 h2 => dsame_same av1 av2 ns v u W h1 h2)
 obtain ⟨R, hR⟩ : ∃ R, parseF l = R := ⟨_, rfl⟩
 rw [hR] at HD HP
 unfold ParsePost sv at HD HP
 clear hR hm
 unfold sv
 go_enter Try.func3, Try.ntmps3
 go_wp2_with fail
 refine (HSh.out _).mono ?_
 rintro e w1 ⟨rfl, g1⟩
 have HG1 := hide g1
 clear g1
 go_wp2_with fail
 refine (HD.out w1).mono ?_
 rintro e w2 ⟨dv, rfl, hdn, hdb, g2⟩
 have HDN := hide hdn
 have HG2 := hide (none_trans HG1.out g2)
 obtain ⟨d1, d3, rfl⟩ : ∃ a c, dv = .slice a R.ns.length c := by obtain ⟨a, c, e, _⟩ := hdn.form; exact ⟨a, c, e⟩
 clear hdn hdb g2
 go_wp2_with fail
 go_loopg [7, 8, 9, 10, 11, 12, 13, 14] 3 (fun g v7 v8 v9 v10 v11 v12 v13 v14 wr => ∃ i : Nat, v7 = .int .i64 i ∧ i ≤ 2 ∧ g + i = 3 ∧ w2.grownBy wr none)
 case atStart => exact ⟨0, rfl, by omega, rfl, only_refl w2 none⟩
 case round =>
  obtain ⟨i, rfl, hi, hg, hgr⟩ := hrel
  obtain ⟨wo, hwo⟩ : ∃ x, x = wr := ⟨_, rfl⟩
  subst hwo
  have HGi := hide (And.intro hi hg)
  have HGR := hide hgr
  by_cases h : i < 2
  ·have q : decide ((i : Int) < 2) = true := decide_eq_true (by omega)
   have HI := hide h
   have hi9 : (i : Int) ≤ 2 := by omega
   clear hi hg hgr h
   go_wp2_with fail
   refine (HP.out wo).mono ?_
   rintro e w3 ⟨pv, rfl, hpn, hpb, g3⟩
   obtain ⟨p1, p3, rfl⟩ : ∃ a c, pv = .slice a R.ns.length c := by obtain ⟨a, c, e, _⟩ := hpn.form; exact ⟨a, c, e⟩
   have HPN := hide hpn
   have HG3 := hide (none_trans HGR.out g3)
   have HSq := hide (HSm.out _ _ _ _ _ w3 hpn (HDN.out.grown HG3.out))
   have HLS0 := hide (LSh.of (w0 := wo) hpn hpb)
   have HG3b := hide g3
   clear hpn hpb g3
   go_wp2_with fail
   refine HSq.out.mono ?_
   rintro e w4 ⟨rfl, g4⟩
   have HLS := hide (LSh.of (w0 := wo) (HPN.out.grown g4) (by obtain ⟨_, _, hb, _⟩ := HLS0.out; exact hb))
   have HG4 := hide (none_trans HG3.out g4)
   have HG4b := hide (none_trans HG3b.out g4)
   clear g4
   have hn9 : (R.ns.length : Int) ≤ 9223372036854775807 := by obtain ⟨cs, h1, _⟩ := HLS.out; obtain ⟨_, _, _, _, h2⟩ := h1.form; unfold maxLen at h2; omega
   obtain ⟨n, hn⟩ : ∃ n, R.ns.length = n := ⟨_, rfl⟩
   rw [hn] at HLS hn9 ⊢
   have HN9 := hide hn9
   have HNN := hide hn
   clear hn hn9
   obtain ⟨g0, hg0⟩ : ∃ x, x = gk := ⟨_, rfl⟩
   subst hg0
   go_wp2_with fail
   go_loopg [12, 13, 14] (n + 1) (fun g v12 v13 v14 wx => ∃ j : Nat, v12 = .int .i64 j ∧ j ≤ n ∧ g + j = n + 1 ∧ LSh wo wx (.slice p1 n p3) n j ∧ wo.grownBy wx none)
   case atStart => exact ⟨0, rfl, Nat.zero_le _, rfl, HLS.out, HG4b.out⟩
   case round =>
    obtain ⟨j, rfl, hj, hg, hls, hgr⟩ := hrel
    obtain ⟨wx, hwx⟩ : ∃ x, x = wr := ⟨_, rfl⟩
    subst hwx
    have HGj := hide (And.intro hj hg)
    have HLj := hide hls
    have HRj := hide hgr
    have hn9 := HN9.out
    by_cases h : j < n
    ·have q : decide ((j : Int) < (n : Int)) = true := decide_eq_true (by omega)
     have q9 : decide (j < n) = true := decide_eq_true h
     have HJ := hide h
     obtain ⟨lg, lo, lc, b, k, ep, hlo, hlt, hT, c4, c7, ⟨b1, bm, bc, rfl⟩, ⟨k1, km, kc, rfl⟩⟩ := hls.at_ h
     injection ep with ep1 _ ep3
     subst ep1 ep3
     have HLO := hide (And.intro hlo hT)
     have HC4 := hide c4
     have HC7 := hide c7
     have HX5 := hide hlt
     clear hj hg hgr hls hlo hT h hlt c4 c7
     obtain ⟨w5, hw5⟩ : ∃ x, x = wx := ⟨_, rfl⟩
     go_upto_block 4 with (fail)
     go_cut [13] (fun v13 wy => LSh wo wy (.slice (some ⟨lg, lo, none⟩) n p3) n j ∧ wo.grownBy wy none ∧ lg < wy.heap.size ∧ wy.cell? ⟨lg, lo + j * 8 + 7, none⟩ = some (.slice k1 km kc))
     case first =>
      go_wp2_with fail
      go_loopg [13] (bm + 1) (fun g vv wy => ∃ i2 : Nat, vv = .int .i64 i2 ∧ i2 ≤ bm ∧ g + i2 = bm + 1 ∧ LSh wo wy (.slice (some ⟨lg, lo, none⟩) n p3) n j ∧ wo.grownBy wy none ∧ lg < wy.heap.size ∧ wy.cell? ⟨lg, lo + j * 8 + 4, none⟩ = some (.slice b1 bm bc) ∧ wy.cell? ⟨lg, lo + j * 8 + 7, none⟩ = some (.slice k1 km kc))
      case atStart => exact ⟨0, rfl, Nat.zero_le _, rfl, HLj.out, HRj.out, HX5.out, HC4.out, HC7.out⟩
      case round =>
       obtain ⟨i2, rfl, hi2, hg2, hl2, hgr2, hlt2, hc2, hk2⟩ := hrel
       obtain ⟨wy, hwy⟩ : ∃ x, x = wr := ⟨_, rfl⟩
       subst hwy
       have HGk := hide (And.intro hi2 hg2)
       have HLk := hide hl2
       have HRk := hide hgr2
       have HCk := hide hc2
       have HK7 := hide hk2
       have HLT := hide hlt2
       have HSk := hide (hl2.shape HJ.out hc2)
       have hm9 := HSk.out.1.lenI
       have hib : (0 : Int) ≤ (j : Int) ∧ (j : Int) < ((n : Nat) : Int) := by have := HJ.out; omega
       by_cases h2 : i2 < bm
       ·have q2 : decide ((i2 : Int) < (bm : Int)) = true := decide_eq_true (by omega)
        have q3 : decide (i2 < bm) = true := decide_eq_true h2
        have hib2 : (0 : Int) ≤ (i2 : Int) ∧ (i2 : Int) < ((bm : Nat) : Int) := by omega
        have HI2 := hide h2
        obtain ⟨bg, bo, bu, rfl, lbg, cb, zb, hTb⟩ := HSk.out.1.at_ i2 h2
        have hne : bg ≠ lg := fun e => by subst e; exact absurd (hTb.uniq (by obtain ⟨cs, h9, _⟩ := hl2; exact Own.hasT h9 rfl)) (by decide)
        have hbw : wo.heap.size ≤ bg := Nat.not_lt.1 (HSk.out.2 bg rfl)
        have HF := hide (fun u => And.intro (hl2.setE hTb (by decide) (bo + i2) u) (And.intro (none_setCell hgr2 (p := ⟨bg, bo + i2, none⟩) hbw u) (And.intro (show lg < (wy.setCell ⟨bg, bo + i2, none⟩ u).heap.size by rw [World.size_setCell]; exact hlt2) (And.intro (show (wy.setCell ⟨bg, bo + i2, none⟩ u).cell? ⟨lg, lo + j * 8 + 4, none⟩ = some (.slice (some ⟨bg, bo, none⟩) bm bc) from (cell_far hne _ _ _).trans hc2) (show (wy.setCell ⟨bg, bo + i2, none⟩ u).cell? ⟨lg, lo + j * 8 + 7, none⟩ = some (.slice k1 km kc) from (cell_far hne _ _ _).trans hk2)))))
        clear hi2 hg2 hl2 hgr2 h2 hTb hbw hk2
        go_wp2_with fail
        go_roundg (gk - 1)
        case rel => exact ⟨i2 + 1, by rw [Int.natCast_add]; rfl, HI2.out, by have := HGk.out; omega, (HF.out _).1, (HF.out _).2.1, (HF.out _).2.2.1, (HF.out _).2.2.2.1, (HF.out _).2.2.2.2⟩
        case measure => have := HGk.out; omega
       ·have q2 : decide ((i2 : Int) < (bm : Int)) = false := decide_eq_false (by omega)
        have q3 : decide (i2 < bm) = false := decide_eq_false (by omega)
        clear hi2 hg2 hl2 hgr2 h2 hk2
        go_wp2_with fail
        go_meet
        exact ⟨HLk.out, HRk.out, HLT.out, HK7.out⟩
     case rest =>
      obtain ⟨hl6, hg6, hlt6, hc6⟩ := hcut
      have HL6 := hide hl6
      have HG6 := hide hg6
      have HX6 := hide (And.intro hlt6 hc6)
      clear hl6 hg6 hlt6 hc6
      obtain ⟨w6, hw6⟩ : ∃ x, x = wc := ⟨_, rfl⟩
      subst hw6
      go_upto_block 6 with (fail)
      go_cut [14] (fun v14 wy => LSh wo wy (.slice (some ⟨lg, lo, none⟩) n p3) n j ∧ wo.grownBy wy none ∧ lg < wy.heap.size)
      case first =>
       go_wp2_with fail
       go_loopg [14] (km + 1) (fun g vv wy => ∃ i2 : Nat, vv = .int .i64 i2 ∧ i2 ≤ km ∧ g + i2 = km + 1 ∧ LSh wo wy (.slice (some ⟨lg, lo, none⟩) n p3) n j ∧ wo.grownBy wy none ∧ lg < wy.heap.size ∧ wy.cell? ⟨lg, lo + j * 8 + 7, none⟩ = some (.slice k1 km kc))
       case atStart => exact ⟨0, rfl, Nat.zero_le _, rfl, HL6.out, HG6.out, HX6.out.1, HX6.out.2⟩
       case round =>
        obtain ⟨i2, rfl, hi2, hg2, hl2, hgr2, hlt2, hc2⟩ := hrel
        obtain ⟨wy, hwy⟩ : ∃ x, x = wr := ⟨_, rfl⟩
        subst hwy
        have HGk := hide (And.intro hi2 hg2)
        have HLk := hide hl2
        have HRk := hide hgr2
        have HCk := hide hc2
        have HLT := hide hlt2
        have HSk := hide (hl2.shapeK HJ.out hc2)
        have hm9 := HSk.out.1.lenI
        have hib : (0 : Int) ≤ (j : Int) ∧ (j : Int) < ((n : Nat) : Int) := by have := HJ.out; omega
        by_cases h2 : i2 < km
        ·have q2 : decide ((i2 : Int) < (km : Int)) = true := decide_eq_true (by omega)
         have q3 : decide (i2 < km) = true := decide_eq_true h2
         have hib2 : (0 : Int) ≤ (i2 : Int) ∧ (i2 : Int) < ((km : Nat) : Int) := by omega
         have HI2 := hide h2
         obtain ⟨bg, bo, bu, rfl, lbg, cb, zb, hTb⟩ := HSk.out.1.at_ i2 h2
         have hne : bg ≠ lg := fun e => by subst e; exact absurd (hTb.uniq (by obtain ⟨cs, h9, _⟩ := hl2; exact Own.hasT h9 rfl)) (by decide)
         have hbw : wo.heap.size ≤ bg := Nat.not_lt.1 (HSk.out.2 bg rfl)
         have HF := hide (fun u => And.intro (hl2.setE hTb (by decide) (bo + i2) u) (And.intro (none_setCell hgr2 (p := ⟨bg, bo + i2, none⟩) hbw u) (And.intro (show lg < (wy.setCell ⟨bg, bo + i2, none⟩ u).heap.size by rw [World.size_setCell]; exact hlt2) (And.intro (show (wy.setCell ⟨bg, bo + i2, none⟩ u).cell? ⟨lg, lo + j * 8 + 7, none⟩ = some (.slice (some ⟨bg, bo, none⟩) km kc) from (cell_far hne _ _ _).trans hc2) trivial))))
         clear hi2 hg2 hl2 hgr2 h2 hTb hbw
         go_wp2_with fail
         go_roundg (gk - 1)
         case rel => exact ⟨i2 + 1, by rw [Int.natCast_add]; rfl, HI2.out, by have := HGk.out; omega, (HF.out _).1, (HF.out _).2.1, (HF.out _).2.2.1, (HF.out _).2.2.2.1⟩
         case measure => have := HGk.out; omega
        ·have q2 : decide ((i2 : Int) < (km : Int)) = false := decide_eq_false (by omega)
         have q3 : decide (i2 < km) = false := decide_eq_false (by omega)
         clear hi2 hg2 hl2 hgr2 h2
         go_wp2_with fail
         go_meet
         exact ⟨HLk.out, HRk.out, HLT.out⟩
      case rest =>
       obtain ⟨hl7, hg7, hlt7⟩ := hcut
       have hcs := hl7.cells HJ.out
       obtain ⟨u0, c0, z0⟩ := hcs 0 (by omega)
       rw [Nat.add_zero] at c0 z0
       obtain ⟨u1, c1, z1⟩ := hcs 1 (by omega)
       obtain ⟨u2, c2, z2⟩ := hcs 2 (by omega)
       obtain ⟨u3, c3, z3⟩ := hcs 3 (by omega)
       obtain ⟨u4, c4, z4⟩ := hcs 4 (by omega)
       obtain ⟨u5, c5, z5⟩ := hcs 5 (by omega)
       obtain ⟨u6, c6, z6⟩ := hcs 6 (by omega)
       obtain ⟨u7, c7, z7⟩ := hcs 7 (by omega)
       have HL8 := hide (hl7.clear HJ.out)
       have HG8 := hide (gr8 (o := lo + j * 8) hg7 HLO.out.1)
       have hib : (0 : Int) ≤ (j : Int) ∧ (j : Int) < ((n : Nat) : Int) := by have := HJ.out; omega
       clear hcs hl7 hg7
       go_wp2_with fail
       go_roundg (gk - 1)
       case rel => exact ⟨j + 1, by rw [Int.natCast_add]; rfl, HJ.out, by have := HGj.out; omega, HL8.out, HG8.out⟩
       case measure => have := HGj.out; omega
    ·have q : decide ((j : Int) < (n : Int)) = false := decide_eq_false (by omega)
     have q9 : decide (j < n) = false := decide_eq_false h
     clear hj hg hgr hls
     go_wp2_with fail
     have hnn := HNN.out
     subst hnn
     go_roundg (g0 - 1)
     case rel => exact ⟨i + 1, by rw [Int.natCast_add]; rfl, HI.out, by have := HGi.out; omega, none_trans HGR.out HRj.out⟩
     case measure => have := HGi.out; omega
  ·have hi2 : i = 2 := by omega
   subst hi2
   clear hi hg hgr
   go_wp2_with fail
   go_ret
   exact ⟨rfl, none_trans HG2.out HGR.out⟩
end Go.Proofs.Ytgpfjcogaheopaa

end
