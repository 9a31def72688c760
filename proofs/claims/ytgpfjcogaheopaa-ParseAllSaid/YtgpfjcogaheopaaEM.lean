/- Where the document's reader is; its ifs. -/
import Derived.Test.YtgpfjcogaheopaaEL
import Derived.Deep.LoopGhost
set_option linter.all false
namespace Go.Proofs.Ytgpfjcogaheopaa
open Go.RowKit Lx
set_option maxRecDepth 100000
/-- The plain reader answers R: it is at tokens from which C goes on, or it has met its error. -/
def Sim {α : Type} (R : PR α) (d n tot : Nat) (C : List Tok → PR α) : DS → Prop
 | .ok Z d2 => d2 = d ∧ R = C Z ∧ tot + 10 * Z.length ≤ 5000 ∧ Z.length ≤ n ∧ Good Z ∧ Wl Z
 | .er a k => R = .bad a k
section
variable {α β : Type} {R : PR α} {d n tot : Nat}
theorem Sim.next {C : List Tok → PR α} {t : Tok} {r : List Tok} {d2 : Nat} {C2 : List Tok → PR α} (h : Sim R d n tot C (.ok (t :: r) d2)) (hk : t.k ≠ 4) (hc : C (t :: r) = C2 r) : Sim R d n tot C2 (.ok r d2) :=
 ⟨h.1, h.2.1.trans hc, by have := h.2.2.1; simp only [List.length_cons] at this; omega, by have := h.2.2.2.1; simp only [List.length_cons] at this; omega, h.2.2.2.2.1.tail hk, h.2.2.2.2.2.tail⟩
theorem Sim.need {s : List UInt8} {ns : List Nd} {f : Unit → List Tok → List Nd → PR α} {st : DS} (h : Sim R d n tot (fun Z => (needR s Z ns).bind f) st) : Sim R d n tot (fun Z => f () Z ns) (needD s st) := by
 cases st with
 | er a k => exact h
 | ok Z d2 =>
  obtain ⟨h1, h2, h3, h4, h5, h6⟩ := h
  obtain ⟨t, r, rfl⟩ := h5.ne
  show Sim R d n tot _ (if isB (t :: r) s = true then _ else _)
  cases hb : isB (t :: r) s with
  | true =>
   rw [if_pos rfl]
   refine Sim.next (C := fun Z => (needR s Z ns).bind f) ⟨h1, h2, h3, h4, h5, h6⟩ (is_k hb).1 ?_
   show (needR s (t :: r) ns).bind f = f () r ns
   unfold needR
   rw [if_pos hb]
   rfl
  | false =>
   rw [if_neg (by decide)]
   show R = PR.bad t.a _
   rw [h2]
   show (needR s (t :: r) ns).bind f = _
   unfold needR
   rw [if_neg (by rw [hb]; decide)]
   rfl
theorem Sim.breaks {C : List Tok → PR α} {st : DS} (h : Sim R d n tot (fun Z => C (breaksF Z)) st) : Sim R d n tot C (breaksD st) := by
 cases st with
 | er a k => exact h
 | ok Z d2 =>
  obtain ⟨h1, h2, h3, h4, h5, h6⟩ := h
  have hb := breaks_good h5
  refine ⟨h1, h2, by omega, by omega, hb.1, ?_⟩
  have : ∀ Z : List Tok, Wl Z → Wl (breaksF Z) := by
   intro Z
   induction Z with
   | nil => intro h; exact h
   | cons t r ih =>
    intro h
    rw [breaksF]
    split
    ·exact ih h.2.2.2
    ·exact h
  exact this Z h6
theorem Sim.wrd {C : List Tok → PR α} {st : DS} (h : Sim R d n tot C st) {s : List UInt8} (hs : s ∉ sgs) : (∃ Z d2, st = .ok Z d2 ∧ wrdD st s = isB Z s) ∨ (∃ a k, st = .er a k ∧ wrdD st s = false) := by
 cases st with
 | er a k => exact .inr ⟨a, k, rfl, rfl⟩
 | ok Z d2 => exact .inl ⟨Z, d2, rfl, (h.2.2.2.2.2.wrd hs).symm⟩
end
/-- The document's list, wherever the reader is. -/
def ListAny (lst : Drd) (n : Nat) : Prop := ∀ (α : Type) (R : PR α) (rb : Nat) (T : List Tok) (d tot : Nat) (ps : List (List Nd)) (f : Int → List Tok → List Nd → PR α) (st : DS) (w : World), DIs w rb T st → Sim R d n tot (fun Z => (lst d Z (joinP ps).1).bind f) st →
  Calls Try.prog 18 #[.pointer (some ⟨rb, 0, none⟩)] w fun e w' => ∃ v ms st', e = .returned v ∧ vNd w w' ms v ∧ DIs w' rb T st' ∧ w.grownBy w' (some rb) ∧ Sim R d n (tot + ms.length) (fun Z => f ((((joinP ps).1.length + ms.length : Nat) : Int) - 1) Z (joinP (ps ++ [ms])).1) st' ∧ (∀ Z d2, st' = .ok Z d2 → ms ≠ []) ∧ ms.length ≤ 5000 ∧ (∀ Z d2 Z' d3, st = .ok Z d2 → st' = .ok Z' d3 → Z'.length + 1 ≤ Z.length) ∧ (∀ a k, st = .er a k → st' = .er a k)
theorem list_any {lst : Drd} {n : Nat} (hd : DecD 2 lst) (he : EqvD lst) (hp : Okn bNil 18 lst n) : ListAny lst n := by
 intro α R rb T d tot ps f st w h hs
 cases st with
 | er a k =>
  refine (dlist_er rb T a k w h).mono ?_
  rintro e w' ⟨rfl, h1, g1⟩
  exact ⟨_, [], .er a k, rfl, vNd.nil w w', h1, g1, hs, (fun Z d2 e => by cases e), by simp, (fun Z d2 Z' d3 e => by cases e), fun a k e => e⟩
 | ok Z d2 =>
  obtain ⟨rfl, h2, h3, h4, h5, h6⟩ := hs
  refine (hp rb T d2 Z w h h4).mono ?_
  intro e w' hq
  have hev := eqv_at (he d2) Z (joinP ps).1
  cases hr : lst d2 Z [] with
  | bad a k =>
   rw [hr] at hq hev
   obtain ⟨v, h7, h8, h9, g9⟩ := hq
   subst h7 h8
   refine ⟨_, [], .er a k, rfl, vNd.nil w w', h9, g9, ?_, (fun Z d2 e => by cases e), by simp, (fun Z d2 Z' d3 _ e => by cases e), fun a k e => by cases e⟩
   show R = PR.bad a k
   rw [h2]
   show (lst d2 Z (joinP ps).1).bind f = _
   rw [hev]
   rfl
  | ok x Z' ms =>
   rw [hr] at hq hev
   obtain ⟨v, h7, h8, h9, g9⟩ := hq
   subst h7
   have hl := hd d2 _ _ _ _ _ h5 hr
   obtain ⟨l1, l2, l3, l4⟩ := hl.ne
   have hg9 := h9.good
   refine ⟨v, ms, .ok Z' d2, rfl, h8, h9, g9, ⟨rfl, ?_, by omega, by have := hl.len; omega, hg9.1, hg9.2.1⟩, fun _ _ _ => l1, by omega, fun Za da Zb db ea eb => ?_, fun a k e => by cases e⟩
   ·rw [h2]
    show (lst d2 Z (joinP ps).1).bind f = _
    rw [hev, joinP_step l1]
    show f (kdS (joinP ps).1.length x) Z' (shN (joinP ps).1 ms) = _
    rw [kdS_add _ _ (by omega), l2]
    have : (ms.length : Int) - 1 + ((joinP ps).1.length : Int) = (((joinP ps).1.length + ms.length : Nat) : Int) - 1 := by omega
    rw [this]
   ·injection ea with ea _
    injection eb with eb _
    subst ea eb
    exact hl.len
theorem needD_len {s : List UInt8} {Z1 Z2 : List Tok} {d1 d2 : Nat} (h : needD s (.ok Z1 d1) = .ok Z2 d2) : Z2.length ≤ Z1.length ∧ d2 = d1 := by
 unfold needD at h
 simp only [] at h
 split at h
 ·injection h with h1 h2
  rw [← h1, ← h2, List.length_tail]
  exact ⟨by omega, rfl⟩
 ·cases Z1 with
  | nil => injection h with h1 h2; rw [← h1, ← h2]; exact ⟨Nat.le_refl _, rfl⟩
  | cons t r => cases h
theorem fiW_no : wFi ∉ sgs ∧ wElif ∉ sgs ∧ wElse ∉ sgs ∧ wThen ∉ sgs ∧ wDo ∉ sgs ∧ wDone ∉ sgs ∧ wClose ∉ sgs ∧ wIn ∉ sgs ∧ wEsac ∉ sgs := by decide
theorem joinP_two {a b : List Nd} (ha : a ≠ []) (hb : b ≠ []) : joinP [a, b] = ((joinP ([a] ++ [b])).1, [(((joinP []).1.length + a.length : Nat) : Int) - 1, (((joinP [a]).1.length + b.length : Nat) : Int) - 1]) := by
 have h1 := joinP_step (ps := []) ha
 have h2 := joinP_step (ps := [a]) hb
 show joinP ([a] ++ [b]) = _
 rw [h2]
 have h3 : (joinP [a]).2 = [(((joinP []).1.length + a.length : Nat) : Int) - 1] := by
  show (joinP ([] ++ [a])).2 = _
  rw [h1]
  rfl
 rw [h3]
 rfl
set_option maxHeartbeats 16000000 in
theorem difs_ok (n : Nat) (lst : Drd) (hd : DecD 2 lst) (he : EqvD lst) (Hp : ListAny lst n) : ∀ (F : Nat) (rb : Nat) (T : List Tok) (d : Nat) (ts : List Tok) (w : World), DIs w rb T (.ok ts d) → ts.length ≤ n → ts.length < F → Calls Try.prog 84 #[.pointer (some ⟨rb, 0, none⟩)] w (NPost (vNd w) bNil rb T d w (ifsF (lst d) F ts [])) := by
 intro F
 induction F with
 | zero => intro rb T d ts w _ _ h; omega
 | succ F ih =>
  intro rb T d ts w h hn hF
  have HP := hide (fun tot ps f st W hW hs => Hp Int (ifsF (lst d) (F + 1) ts []) rb T d tot ps f st W hW hs)
  have HI := hide (fun ts W hW h1 h2 => ih rb T d ts W hW h1 h2)
  have HNd := hide (fun W st s (hW : DIs W rb T st) => dneed_any rb T st s W hW)
  have HWd := hide (fun W st s (hW : DIs W rb T st) => dword_any rb T st s W hW)
  have HJ := hide (fun ps n vp W (hW : w.heap.size ≤ W.heap.size) hP hn hk hb ht hl => djoin_any (low w) ps n vp (.slice none 0 0) (.slice none 0 0) (.slice none 0 0) (.slice none 0 0) W (fun k hk => Nat.lt_of_lt_of_le hk hW) hP hn hk hb ht hl)
  have HD := hide (ifs_dec (hd d) F)
  have HEv := hide (ifs_v (he d) F)
  unfold Qb at HWd
  unfold Qu at HNd
  have HRB := hide h.lb
  have HGD := hide h.good
  have HFF := hide hF
  obtain ⟨R, hR⟩ : ∃ R, ifsF (lst d) (F + 1) ts [] = R := ⟨_, rfl⟩
  rw [hR] at HP ⊢
  have hs0 : Sim R d n 0 (fun Z => (lst d Z (joinP []).1).bind fun a ts ns => (needR wThen ts ns).bind fun _ ts ns => (lst d ts ns).bind fun b ts ns =>
    if isB ts wElif = true then (ifsF (lst d) F ts.tail ns).bind fun c ts ns => layR { kind := 10, kids := [a, b, c] } ts ns
    else if isB ts wElse = true then (lst d ts.tail ns).bind fun c ts ns => (needR wFi ts ns).bind fun _ ts ns => layR { kind := 10, kids := [a, b, c] } ts ns
    else (needR wFi ts ns).bind fun _ ts ns => layR { kind := 10, kids := [a, b] } ts ns) (.ok ts d) :=
   ⟨rfl, hR.symm, by have := HGD.out.2.2.2.1; omega, hn, HGD.out.1, HGD.out.2.1⟩
  have HL1 := hide (HP.out 0 [] _ _ w h hs0)
  have HZ0 := hide (show ∀ Z d2, DS.ok ts d = .ok Z d2 → Z = ts from fun Z d2 e => by injection e with e _; exact e.symm)
  clear hR hs0 h hn hF ih Hp hd he
  go_enter Try.func84, Try.ntmps84
  go_wp2_with fail
  refine HL1.out.mono ?_
  rintro e w1 ⟨v1, m1, st1, rfl, hv1, hs1, g1, hsim1, hne1, hml1, hlt1, her1⟩
  obtain ⟨p1, q1, rfl⟩ := hv1.form
  have HV1 := hide hv1
  have HS1 := hide hs1
  have HG1 := hide g1
  have HN1 := hide (And.intro hne1 (And.intro hml1 (And.intro hlt1 her1)))
  have HM1 := hide hsim1
  have HNd1 := hide (HNd.out w1 st1 wThen hs1)
  unfold wThen sv at HNd1
  clear hv1 hs1 g1 hsim1 hne1 hml1 hlt1 her1
  go_wp2_with fail
  refine HNd1.out.mono ?_
  rintro e w2 ⟨rfl, h2, g2⟩
  have HV1 := hide (HV1.out.rb g2 HS1.out.hasT)
  have HG2 := hide (only_trans HG1.out g2)
  have HS2 := hide h2
  have HM2 := hide (show Sim R d n (0 + m1.length) _ (needD wThen st1) from Sim.need HM1.out)
  obtain ⟨st2, hst2⟩ : ∃ s, needD wThen st1 = s := ⟨_, rfl⟩
  have HST2 := hide hst2
  rw [show needD [116, 104, 101, 110] st1 = st2 from hst2] at HS2
  rw [hst2] at HM2
  have HL2 := hide (HP.out (0 + m1.length) ([] ++ [m1]) _ st2 w2 HS2.out HM2.out)
  clear h2 g2 hst2
  go_wp2_with fail
  refine HL2.out.mono ?_
  rintro e w3 ⟨v2, m2, st3, rfl, hv2, hs3, g3, hsim3, hne2, hml2, hlt2, her2⟩
  obtain ⟨p2, q2, rfl⟩ := hv2.form
  have HV1 := hide (HV1.out.rb g3 HS2.out.hasT)
  have HV2 := hide (hv2.low HG2.out.size)
  have HG3 := hide (only_trans HG2.out g3)
  have HS3 := hide hs3
  have HN2 := hide (And.intro hne2 (And.intro hml2 (And.intro hlt2 her2)))
  have HM3 := hide hsim3
  have HPA := hide (parts2N (w0 := w) HV1.out.1 HV2.out.1 HV1.out.2.2.2 HV2.out.2.2.2)
  have HSA := hide (hs3.grown (only_alloc (only_refl w3 none) (.cells #[.slice p1 m1.length q1, .slice p2 m2.length q2] 23)))
  have HGA := hide (only_alloc HG3.out (.cells #[.slice p1 m1.length q1, .slice p2 m2.length q2] 23))
  have HBN := hide (show ∀ g, (Value.slice (some ⟨w3.heap.size, 0, none⟩) 2 2).ownBlock = some g → w.heap.size ≤ g from fun g hg => by simp [Value.ownBlock] at hg; have := HG3.out.size; omega)
  have HKB := hide (show ∀ m ∈ [m1, m2], KB m from fun m hm => by
   rcases List.mem_cons.1 hm with rfl | hm
   ·exact HV1.out.2.1
   ·rw [List.mem_singleton] at hm; subst hm; exact HV2.out.2.1)
  have HWe := hide (fun W hW => HWd.out W st3 wElif hW)
  have HWl := hide (fun W hW => HWd.out W st3 wElse hW)
  have hw1 := Sim.wrd hsim3 fiW_no.2.1
  have hw2 := Sim.wrd hsim3 fiW_no.2.2.1
  obtain ⟨be, hbe⟩ : ∃ b, wrdD st3 wElif = b := ⟨_, rfl⟩
  obtain ⟨bo, hbo⟩ : ∃ b, wrdD st3 wElse = b := ⟨_, rfl⟩
  rw [hbe] at hw1 HWe
  rw [hbo] at hw2 HWl
  have HW12 := hide (And.intro hw1 hw2)
  unfold wElif sv at HWe
  unfold wElse sv at HWl
  clear hv2 hs3 g3 hsim3 hne2 hml2 hlt2 her2 hw1 hw2 hbe hbo
  go_upto_region 5 with (fail)
  generalize w3.alloc (.cells #[.slice p1 m1.length q1, .slice p2 m2.length q2] 23) = w4, w3.heap.size = pb at HPA HSA HGA HBN ⊢
  go_wp2_with fail
  refine (HWe.out w4 HSA.out).mono ?_
  rintro e w5 ⟨rfl, g5⟩
  have HPA := hide (HPA.out.grown g5)
  have HSA := hide (HSA.out.grown g5)
  have HGA := hide (only_trans HGA.out (gr_rb g5))
  clear g5
  go_wp2_with fail
  refine (HWl.out w5 HSA.out).mono ?_
  rintro e w6 ⟨rfl, g6⟩
  have HPA := hide (HPA.out.grown g6)
  have HSA := hide (HSA.out.grown g6)
  have HGA := hide (only_trans HGA.out (gr_rb g6))
  clear g6
  cases st3 with
  | er ea ek =>
   obtain ⟨rfl, rfl⟩ : be = false ∧ bo = false := by
    obtain ⟨h1, h2⟩ := HW12.out
    refine ⟨?_, ?_⟩
    ·rcases h1 with ⟨_, _, e, _⟩ | ⟨_, _, _, e⟩
     ·cases e
     ·exact e
    ·rcases h2 with ⟨_, _, e, _⟩ | ⟨_, _, _, e⟩
     ·cases e
     ·exact e
   have HRE := hide (show R = .bad ea ek from HM3.out)
   have HNf := hide (HNd.out w6 (.er ea ek) wFi HSA.out)
   unfold wFi needD sv at HNf
   simp only [] at HNf
   go_wp2_with fail
   refine HNf.out.mono ?_
   rintro e w7 ⟨rfl, h7, g7⟩
   have HTS := hide h7
   have HTG := hide (only_trans HGA.out g7)
   clear h7 g7
   obtain ⟨vt, i, dd, h, hk0⟩ := HTS.out
   obtain ⟨c0, c1, c2, c3, c4⟩ := h.cells
   have lb := h.lb
   have qk2 : (ek != 0) = true := bne_iff_ne.2 hk0
   clear h hk0
   go_wp2_with fail
   rw [HRE.out]
   go_ret
   exact ⟨_, rfl, rfl, HTS.out, HTG.out⟩
  | ok Z d3 =>
   obtain ⟨hd3, hRZ, hfew, hZn, hZg, hZw⟩ := HM3.out
   subst hd3
   have hbe : be = isB Z wElif := by
    rcases HW12.out.1 with ⟨_, _, e, h⟩ | ⟨_, _, e, _⟩
    ·injection e with e _; rw [h, e]
    ·cases e
   have hbo : bo = isB Z wElse := by
    rcases HW12.out.2 with ⟨_, _, e, h⟩ | ⟨_, _, e, _⟩
    ·injection e with e _; rw [h, e]
    ·cases e
   have HNE1 := hide (show m1 ≠ [] by
    cases st1 with
    | ok Z1 d1 => exact HN1.out.1 Z1 d1 rfl
    | er a k =>
     have h2 : st2 = .er a k := by rw [← HST2.out]; rfl
     have := HN2.out.2.2.2 a k h2
     cases this)
   have HNE2 := hide (HN2.out.1 Z d3 rfl)
   have HZL := hide (show Z.length ≤ ts.length by
    cases hst2 : st2 with
    | er a k =>
     have := HN2.out.2.2.2 a k hst2
     cases this
    | ok Z2 d2 =>
     have h1 := HN2.out.2.2.1 Z2 d2 Z d3 hst2 rfl
     have h3 := HST2.out
     cases hst1 : st1 with
     | er a k => rw [hst1, hst2] at h3; cases h3
     | ok Z1 d1 =>
      have h2 := HN1.out.2.2.1 ts d3 Z1 d1 rfl hst1
      rw [hst1, hst2] at h3
      have := (needD_len h3).1
      omega)
   have HJ2 := hide (joinP_two HNE1.out HNE2.out)
   have HSM := hide (show sumL [m1, m2] + 10 * Z.length ≤ 5000 by show _ + (_ + 0) + _ ≤ _; omega)
   have HPD := hide (⟨HSA.out, HPA.out, HBN.out, HKB.out, HGA.out, HRB.out⟩ : PtD w w6 rb T (.ok Z d3) (.slice (some ⟨pb, 0, none⟩) 2 2) [m1, m2])
   have HZn := hide (And.intro hZn hZg)
   have HRZ := hide (show R = (if isB Z wElif = true then (ifsF (lst d3) F Z.tail (joinP [m1, m2]).1).bind fun c ts ns => layR { kind := 10, kids := [(((joinP []).1.length + m1.length : Nat) : Int) - 1, (((joinP [m1]).1.length + m2.length : Nat) : Int) - 1, c] } ts ns
    else if isB Z wElse = true then (lst d3 Z.tail (joinP [m1, m2]).1).bind fun c ts ns => (needR wFi ts ns).bind fun _ ts ns => layR { kind := 10, kids := [(((joinP []).1.length + m1.length : Nat) : Int) - 1, (((joinP [m1]).1.length + m2.length : Nat) : Int) - 1, c] } ts ns
    else (needR wFi Z (joinP [m1, m2]).1).bind fun _ ts ns => layR { kind := 10, kids := [(((joinP []).1.length + m1.length : Nat) : Int) - 1, (((joinP [m1]).1.length + m2.length : Nat) : Int) - 1] } ts ns) from hRZ)
   have HJ2b := hide (show (joinP [m1, m2]).2 = [(((joinP []).1.length + m1.length : Nat) : Int) - 1, (((joinP [m1]).1.length + m2.length : Nat) : Int) - 1] by rw [HJ2.out])
   cases be with
   | true =>
    have HBE := hide hbe.symm
    obtain ⟨t, r, hZ⟩ := hZg.ne
    have htk : t.k ≠ 4 := (is_k (hZ ▸ HBE.out)).1
    have hrt : Z.tail = r := by rw [hZ]; rfl
    obtain ⟨vt, a, fr, h, hdd, hd26⟩ := HSA.out
    obtain ⟨c0, c1, c2, c3, c4⟩ := h.cells
    have lb := h.lb
    have z1 := Blk.frozen h.blk 1
    have hal : (a : Int) ≤ 500 := by have := h.lt; have := h.tg.len; omega
    have HNX := hide (DIs.next h hdd hd26 hZ htk)
    have hgr : Good r := (hZ ▸ hZg : Good (t :: r)).tail htk
    have HRL := hide (show r.length + 1 = Z.length by rw [hZ]; rfl)
    have HRI := hide (show R = ((ifsF (lst d3) F r (joinP [m1, m2]).1).bind fun c ts ns => layR { kind := 10, kids := (joinP [m1, m2]).2 ++ [c] } ts ns) by rw [HRZ.out, if_pos HBE.out, hrt, HJ2b.out]; rfl)
    have HGR := hide hgr
    clear h hdd hd26 hZ htk hrt hRZ hfew hZn hZg hZw hbe hbo hgr
    go_upto_region 10 with (fail)
    have hg4 := only_setCell (only_refl w6 (some rb)) (p := ⟨rb, 1, none⟩) (.inl rfl) (.int .i64 ((a : Int) + 1))
    have HPD7 := hide (HPD.out.step hg4 HNX.out)
    generalize w6.setCell ⟨rb, 1, none⟩ (.int .i64 ((a : Int) + 1)) = W7 at HPD7 ⊢
    clear hg4 c0 c1 c2 c3 c4 lb z1 hal
    have HIc := hide (HI.out r W7 HPD7.out.st (by have := HRL.out; have := HZn.out.1; omega) (by have := HRL.out; have := HFF.out; have := HZL.out; omega))
    obtain ⟨PQ, hpq⟩ : ∃ P, ifsF (lst d3) F r [] = P := ⟨_, rfl⟩
    rw [hpq] at HIc
    have HPQ := hide hpq
    have HRJ := hide (show R = ((PQ.mv (joinP [m1, m2]).1 (kdS (joinP [m1, m2]).1.length)).bind fun c ts ns => layR { kind := 10, kids := (joinP [m1, m2]).2 ++ [c] } ts ns) by rw [HRI.out, eqv_at HEv.out, hpq])
    clear hpq
    go_wp2_with fail
    refine HIc.out.mono ?_
    cases PQ with
    | bad ea ek =>
     rintro e w8 ⟨v, rfl, rfl, h8, g8⟩
     obtain ⟨cs, q1, q2⟩ := HPD7.out.parts.drb g8 HPD7.out.st.hasT
     have HQ1 := hide (show Own w8 23 1 (.slice (some ⟨pb, 0, none⟩) 2 2) 2 cs 0 from q1)
     have HS8 := hide h8
     have HG8 := hide (only_trans HPD7.out.gr g8)
     have HRE := hide (show R = .bad ea ek from HRJ.out)
     clear h8 g8 q1 q2
     go_upto_region 15 with (at_builtin; refine wpList_appAt 23 (.slice none 0 0) 1 24 Try.underlying63 infoNds rfl (.slice (some ⟨pb, 0, none⟩) 2 2) 2 cs 0 _ 1 [.slice none 0 0] rfl rfl (Own.alloc HQ1.out _) (by omega) (srcPn _ _ none 0 0 rfl) (by unfold maxLen; omega) (by omega) ?_; intro vA wA ho hc hn2 _; (have HTS := hide ((HS8.out.grown (only_alloc (only_refl _ none) _)).chg hc (fun k e => by have := HPD7.out.new k e; have := HRB.out; omega))); (have HTG := hide (gr_app HG8.out _ hc HPD7.out.new)); (obtain ⟨aA, cA, rfl, _, _⟩ := Own.form ho); clear ho hc hn2)
     obtain ⟨vt, i, dd, h, hk0⟩ := HTS.out
     obtain ⟨c0, c1, c2, c3, c4⟩ := h.cells
     have lb := h.lb
     have qk2 : (ek != 0) = true := bne_iff_ne.2 hk0
     clear h hk0
     go_wp2_with fail
     rw [HRE.out]
     go_ret
     exact ⟨_, rfl, rfl, HTS.out, HTG.out⟩
    | ok x Z2 m3 =>
     rintro e w8 ⟨v, rfl, hv8, h8, g8⟩
     obtain ⟨y1, y2, rfl⟩ := hv8.form
     have hl := HD.out _ _ _ _ _ HGR.out HPQ.out
     obtain ⟨l1, l2, l3, l4⟩ := hl.ne
     have HPD8 := hide (HPD7.out.step g8 h8)
     have HV8 := hide (hv8.low HPD7.out.gr.size)
     have HSM2 := hide (show sumL ([m1, m2] ++ [m3]) ≤ 5000 by rw [sumL_snoc]; have := HSM.out; have := HRL.out; omega)
     have HRE := hide (show R = .ok (joinP ([m1, m2] ++ [m3])).1.length Z2 (joinR ([m1, m2] ++ [m3]) { kind := 10 }) by
      rw [HRJ.out]
      have h5 := joinP_step (ps := [m1, m2]) l1
      unfold joinR
      rw [h5]
      show PR.ok _ _ _ = PR.ok _ _ _
      rw [kdS_add _ _ (by omega), l2]
      have : (m3.length : Int) - 1 + ((joinP [m1, m2]).1.length : Int) = (((joinP [m1, m2]).1.length + m3.length : Nat) : Int) - 1 := by omega
      rw [this]
      rfl)
     obtain ⟨cs, q1, q2⟩ := HPD8.out.parts
     have HQ1 := hide (show Own w8 23 1 (.slice (some ⟨pb, 0, none⟩) 2 2) 2 cs 0 from q1)
     have HQ2 := hide q2
     clear h8 g8 hl l1 l2 l3 l4 hv8 q1 q2
     go_upto_region 15 with (at_builtin; refine wpList_appAt 23 (.slice none 0 0) 1 24 Try.underlying63 infoNds rfl (.slice (some ⟨pb, 0, none⟩) 2 2) 2 cs 0 _ 1 [.slice y1 m3.length y2] rfl rfl (Own.alloc HQ1.out _) (by omega) (srcPn _ _ y1 m3.length y2 rfl) (by unfold maxLen; omega) (by omega) ?_; intro vA wA ho hc hn2 _; (have HPT := hide (PtD.app HPD8.out HQ1.out HQ2.out _ HV8.out.1 HV8.out.2.1 HV8.out.2.2.2 ho hc hn2)); (obtain ⟨aA, cA, rfl, _, _⟩ := Own.form ho); clear ho hc hn2)
     obtain ⟨PS, hPS⟩ : ∃ P, [m1, m2] ++ [m3] = P := ⟨_, rfl⟩
     have HTN := hide (show PS.length ≤ 1000 by rw [← hPS]; show 3 ≤ 1000; omega)
     rw [hPS] at HPT HRE HSM2
     clear hPS
     have HTS := hide HPT.out.st
     have HTG := hide HPT.out.gr
     have HTP := hide HPT.out.parts
     have HTK := hide HPT.out.kb
     have HTL := hide (show sumL PS ≤ 60000 by have := HSM2.out; omega)
     have HTM := hide (show sumL PS ≤ 10000 by have := HSM2.out; omega)
     obtain ⟨vt, a, fr, h, hdd, hd26⟩ := HTS.out
     obtain ⟨c0, c1, c2, c3, c4⟩ := h.cells
     have lb := h.lb
     have HJ10 := hide (HJ.out PS { kind := 10 } _ _ HTG.out.size HTP.out.S (nd0_at 10) rfl HTK.out HTL.out (by have := HTN.out; omega))
     unfold JPost ndCells sv at HJ10
     simp only [] at HJ10
     have HJK := hide (joinR_kb (ps := PS) (n := { kind := 10 }) HTK.out (by have := HTN.out; omega) rfl)
     have HJL := hide (show (joinR PS { kind := 10 }).length ≤ 50000 by rw [joinR_len]; have := HTM.out; omega)
     clear h hdd hd26
     go_wp2_with fail
     refine HJ10.out.mono ?_
     rintro e wz ⟨v, rfl, hnz, hnew, gz⟩
     obtain ⟨y1, y2, rfl, _⟩ := hnz.form
     have HNZ := hide hnz
     have HNW := hide (fun g hg => Nat.le_trans HTG.out.size (hnew g hg))
     have HSZ := hide (HTS.out.grown gz)
     have HGZ := hide (only_trans HTG.out (gr_rb gz))
     clear hnz hnew gz
     go_wp2_with fail
     rw [HRE.out]
     go_ret
     exact ⟨_, rfl, ⟨HNZ.out, HJK.out, HJL.out, HNW.out⟩, HSZ.out, HGZ.out⟩
   | false =>
    cases bo with
    | true =>
     have HBO := hide hbo.symm
     obtain ⟨t, r, hZ⟩ := hZg.ne
     have htk : t.k ≠ 4 := (is_k (hZ ▸ HBO.out)).1
     have hrt : Z.tail = r := by rw [hZ]; rfl
     obtain ⟨vt, a, fr, h, hdd, hd26⟩ := HSA.out
     obtain ⟨c0, c1, c2, c3, c4⟩ := h.cells
     have lb := h.lb
     have z1 := Blk.frozen h.blk 1
     have hal : (a : Int) ≤ 500 := by have := h.lt; have := h.tg.len; omega
     have HNX := hide (DIs.next h hdd hd26 hZ htk)
     have hgr : Good r := (hZ ▸ hZg : Good (t :: r)).tail htk
     have hwr : Wl r := (hZ ▸ hZw : Wl (t :: r)).tail
     have HRL := hide (show r.length + 1 = Z.length by rw [hZ]; rfl)
     have HRI := hide (show R = ((lst d3 r (joinP [m1, m2]).1).bind fun c ts ns => (needR wFi ts ns).bind fun _ ts ns => layR { kind := 10, kids := (joinP [m1, m2]).2 ++ [c] } ts ns) by rw [HRZ.out, if_neg (by rw [← hbe]; decide), if_pos HBO.out, hrt, HJ2b.out]; rfl)
     have hsim : Sim R d3 n (sumL [m1, m2]) (fun Z => (lst d3 Z (joinP [m1, m2]).1).bind fun c ts ns => (needR wFi ts ns).bind fun _ ts ns => layR { kind := 10, kids := (joinP [m1, m2]).2 ++ [c] } ts ns) (.ok r d3) := ⟨rfl, HRI.out, by have := HSM.out; have := HRL.out; omega, by have := HZn.out.1; have := HRL.out; omega, hgr, hwr⟩
     have HSIM := hide hsim
     clear h hdd hd26 hZ htk hrt hRZ hfew hZn hZg hZw hbe hbo hgr hwr hsim
     go_upto_region 13 with (fail)
     have hg4 := only_setCell (only_refl w6 (some rb)) (p := ⟨rb, 1, none⟩) (.inl rfl) (.int .i64 ((a : Int) + 1))
     have HPD7 := hide (HPD.out.step hg4 HNX.out)
     generalize w6.setCell ⟨rb, 1, none⟩ (.int .i64 ((a : Int) + 1)) = W7 at HPD7 ⊢
     clear hg4 c0 c1 c2 c3 c4 lb z1 hal
     have HLc := hide (HP.out (sumL [m1, m2]) [m1, m2] _ _ W7 HPD7.out.st HSIM.out)
     go_wp2_with fail
     refine HLc.out.mono ?_
     rintro e w8 ⟨v, m3, st5, rfl, hv8, h8, g8, hs5, hne5, hml5, _, _⟩
     obtain ⟨y1, y2, rfl⟩ := hv8.form
     have HPD8 := hide (HPD7.out.step g8 h8)
     have HV8 := hide (hv8.low HPD7.out.gr.size)
     have HN5 := hide (And.intro hne5 hml5)
     have HS5 := hide hs5
     obtain ⟨cs, q1, q2⟩ := HPD8.out.parts
     have HQ1 := hide (show Own w8 23 1 (.slice (some ⟨pb, 0, none⟩) 2 2) 2 cs 0 from q1)
     have HQ2 := hide q2
     clear h8 g8 hv8 hs5 hne5 hml5 q1 q2
     go_upto_region 14 with (at_builtin; refine wpList_appAt 23 (.slice none 0 0) 1 24 Try.underlying63 infoNds rfl (.slice (some ⟨pb, 0, none⟩) 2 2) 2 cs 0 _ 1 [.slice y1 m3.length y2] rfl rfl (Own.alloc HQ1.out _) (by omega) (srcPn _ _ y1 m3.length y2 rfl) (by unfold maxLen; omega) (by omega) ?_; intro vA wA ho hc hn2 _; (have HPT := hide (PtD.app HPD8.out HQ1.out HQ2.out _ HV8.out.1 HV8.out.2.1 HV8.out.2.2.2 ho hc hn2)); (obtain ⟨aA, cA, rfl, _, _⟩ := Own.form ho); clear ho hc hn2)
     have HMF := hide (Sim.need HS5.out)
     obtain ⟨st6, hst6⟩ : ∃ x, needD wFi st5 = x := ⟨_, rfl⟩
     have HNf := hide (HNd.out wA st5 wFi HPT.out.st)
     rw [hst6] at HNf HMF
     have HST6 := hide hst6
     unfold wFi sv at HNf
     clear hst6
     go_wp2_with fail
     refine HNf.out.mono ?_
     rintro e w9 ⟨rfl, h9, g9⟩
     have HTS := hide h9
     have HTG := hide (only_trans HPT.out.gr g9)
     have HTP := hide (HPT.out.parts.drb g9 HPT.out.st.hasT)
     clear h9 g9
     cases st6 with
     | er ea ek =>
      have HRE := hide (show R = .bad ea ek from HMF.out)
      obtain ⟨vt, i, dd, h, hk0⟩ := HTS.out
      obtain ⟨c0, c1, c2, c3, c4⟩ := h.cells
      have lb := h.lb
      have qk2 : (ek != 0) = true := bne_iff_ne.2 hk0
      clear h hk0
      go_wp2_with fail
      rw [HRE.out]
      go_ret
      exact ⟨_, rfl, rfl, HTS.out, HTG.out⟩
     | ok Z6 d6 =>
      have HN3 := hide (show m3 ≠ [] by
       cases hst5 : st5 with
       | ok Z5 d5 => exact HN5.out.1 Z5 d5 hst5
       | er a k => have := HST6.out; rw [hst5] at this; cases this)
      obtain ⟨hd6, hR6, hf6, _⟩ := HMF.out
      subst hd6
      have HRE := hide (show R = .ok (joinP ([m1, m2] ++ [m3])).1.length Z6 (joinR ([m1, m2] ++ [m3]) { kind := 10 }) by
       rw [hR6]
       have h5 := joinP_step (ps := [m1, m2]) HN3.out
       unfold joinR
       rw [h5]
       rfl)
      have HSM2 := hide (show sumL ([m1, m2] ++ [m3]) ≤ 5000 by rw [sumL_snoc]; omega)
      have HTK := hide HPT.out.kb
      obtain ⟨PS, hPS⟩ : ∃ P, [m1, m2] ++ [m3] = P := ⟨_, rfl⟩
      have HTN := hide (show PS.length ≤ 1000 by rw [← hPS]; show 3 ≤ 1000; omega)
      rw [hPS] at HTP HRE HSM2 HTK
      clear hPS hR6 hf6
      have HTL := hide (show sumL PS ≤ 60000 by have := HSM2.out; omega)
      have HTM := hide (show sumL PS ≤ 10000 by have := HSM2.out; omega)
      obtain ⟨vt, a, fr, h, hdd, hd26⟩ := HTS.out
      obtain ⟨c0, c1, c2, c3, c4⟩ := h.cells
      have lb := h.lb
      have HJ10 := hide (HJ.out PS { kind := 10 } _ _ HTG.out.size HTP.out.S (nd0_at 10) rfl HTK.out HTL.out (by have := HTN.out; omega))
      unfold JPost ndCells sv at HJ10
      simp only [] at HJ10
      have HJK := hide (joinR_kb (ps := PS) (n := { kind := 10 }) HTK.out (by have := HTN.out; omega) rfl)
      have HJL := hide (show (joinR PS { kind := 10 }).length ≤ 50000 by rw [joinR_len]; have := HTM.out; omega)
      clear h hdd hd26
      go_wp2_with fail
      refine HJ10.out.mono ?_
      rintro e wz ⟨v, rfl, hnz, hnew, gz⟩
      obtain ⟨y1, y2, rfl, _⟩ := hnz.form
      have HNZ := hide hnz
      have HNW := hide (fun g hg => Nat.le_trans HTG.out.size (hnew g hg))
      have HSZ := hide (HTS.out.grown gz)
      have HGZ := hide (only_trans HTG.out (gr_rb gz))
      clear hnz hnew gz
      go_wp2_with fail
      rw [HRE.out]
      go_ret
      exact ⟨_, rfl, ⟨HNZ.out, HJK.out, HJL.out, HNW.out⟩, HSZ.out, HGZ.out⟩
    | false =>
     have hsim : Sim R d3 n (sumL [m1, m2]) (fun Z => (needR wFi Z (joinP [m1, m2]).1).bind fun _ ts ns => layR { kind := 10, kids := (joinP [m1, m2]).2 } ts ns) (.ok Z d3) := ⟨rfl, by rw [HRZ.out, if_neg (by rw [← hbe]; decide), if_neg (by rw [← hbo]; decide), HJ2b.out], HSM.out, HZn.out.1, hZg, hZw⟩
     have HMF := hide (Sim.need hsim)
     clear hRZ hfew hZn hZg hZw hbe hbo hsim
     obtain ⟨st6, hst6⟩ : ∃ x, needD wFi (.ok Z d3) = x := ⟨_, rfl⟩
     have HNf := hide (HNd.out w6 (.ok Z d3) wFi HPD.out.st)
     rw [hst6] at HNf HMF
     have HST6 := hide hst6
     unfold wFi sv at HNf
     clear hst6
     go_wp2_with fail
     refine HNf.out.mono ?_
     rintro e w9 ⟨rfl, h9, g9⟩
     have HTS := hide h9
     have HTG := hide (only_trans HPD.out.gr g9)
     have HTP := hide (HPD.out.parts.drb g9 HPD.out.st.hasT)
     clear h9 g9
     cases st6 with
     | er ea ek =>
      have HRE := hide (show R = .bad ea ek from HMF.out)
      obtain ⟨vt, i, dd, h, hk0⟩ := HTS.out
      obtain ⟨c0, c1, c2, c3, c4⟩ := h.cells
      have lb := h.lb
      have qk2 : (ek != 0) = true := bne_iff_ne.2 hk0
      clear h hk0
      go_wp2_with fail
      rw [HRE.out]
      go_ret
      exact ⟨_, rfl, rfl, HTS.out, HTG.out⟩
     | ok Z6 d6 =>
      obtain ⟨hd6, hR6, hf6, _⟩ := HMF.out
      subst hd6
      have HRE := hide (show R = .ok (joinP [m1, m2]).1.length Z6 (joinR [m1, m2] { kind := 10 }) from hR6)
      have HTK := hide HPD.out.kb
      obtain ⟨PS, hPS⟩ : ∃ P, [m1, m2] = P := ⟨_, rfl⟩
      have HTN := hide (show PS.length ≤ 1000 by rw [← hPS]; show 2 ≤ 1000; omega)
      have HSM2 := hide (show sumL PS ≤ 5000 by rw [← hPS]; have := HSM.out; omega)
      have HPL := hide (show PS.length = 2 by rw [← hPS]; rfl)
      rw [hPS] at HTP HRE HTK
      clear hPS hR6 hf6
      have HTL := hide (show sumL PS ≤ 60000 by have := HSM2.out; omega)
      have HTM := hide (show sumL PS ≤ 10000 by have := HSM2.out; omega)
      obtain ⟨vt, a, fr, h, hdd, hd26⟩ := HTS.out
      obtain ⟨c0, c1, c2, c3, c4⟩ := h.cells
      have lb := h.lb
      have HJ10 := hide (HJ.out PS { kind := 10 } _ _ HTG.out.size HTP.out.S (nd0_at 10) rfl HTK.out HTL.out (by have := HTN.out; omega))
      unfold JPost ndCells sv at HJ10
      simp only [] at HJ10
      have HJK := hide (joinR_kb (ps := PS) (n := { kind := 10 }) HTK.out (by have := HTN.out; omega) rfl)
      have HJL := hide (show (joinR PS { kind := 10 }).length ≤ 50000 by rw [joinR_len]; have := HTM.out; omega)
      clear h hdd hd26
      go_wp2_with fail
      refine HJ10.out.mono ?_
      rintro e wz ⟨v, rfl, hnz, hnew, gz⟩
      obtain ⟨y1, y2, rfl, _⟩ := hnz.form
      have HNZ := hide hnz
      have HNW := hide (fun g hg => Nat.le_trans HTG.out.size (hnew g hg))
      have HSZ := hide (HTS.out.grown gz)
      have HGZ := hide (only_trans HTG.out (gr_rb gz))
      clear hnz hnew gz
      go_wp2_with fail
      rw [HRE.out]
      go_ret
      exact ⟨_, rfl, ⟨HNZ.out, HJK.out, HJL.out, HNW.out⟩, HSZ.out, HGZ.out⟩
end Go.Proofs.Ytgpfjcogaheopaa
