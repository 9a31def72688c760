/- Several texts in one. -/
import Derived.Test.YtgpfjcogaheopaaEI
import Derived.Deep.LoopGhost
set_option linter.all false
section
/- The document's item. -/
namespace Go.Proofs.Ytgpfjcogaheopaa
open Go.RowKit Lx
set_option maxRecDepth 100000
/-- A call of the document's reader that answers a reader's nodes, from a place from which at most n tokens are left. -/
def Okn (bad : World → Value → Prop) (fn : FuncId) (r : Drd) (n : Nat) : Prop := ∀ rb T d ts w, DIs w rb T (.ok ts d) → ts.length ≤ n → Calls Try.prog fn #[.pointer (some ⟨rb, 0, none⟩)] w (NPost (vNd w) bad rb T d w (r d ts []))
def bNil : World → Value → Prop := fun _ v => v = .slice none 0 0
def bNd (w0 : World) : World → Value → Prop := fun w v => ∃ ns, vNd w0 w ns v
theorem vNd.rb {w0 w w' : World} {rb : Nat} {ns : List Nd} {v : Value} (h : vNd w0 w ns v) (hg : w.grownBy w' (some rb)) (ht : HasT w rb 50) : vNd w0 w' ns v := ⟨h.1.drb hg ht, h.2⟩
theorem vNd.low {w0 w1 w : World} {ns : List Nd} {v : Value} (h : vNd w1 w ns v) (hs : w0.heap.size ≤ w1.heap.size) : vNd w0 w ns v := ⟨h.1.mono (fun k hk => Nat.lt_of_lt_of_le hk hs), h.2.1, h.2.2.1, fun g hg => Nat.le_trans hs (h.2.2.2 g hg)⟩
theorem vNd.grown {w0 w w' : World} {ns : List Nd} {v : Value} (h : vNd w0 w ns v) (hg : w.grownBy w' none) : vNd w0 w' ns v := ⟨h.1.grown hg, h.2⟩
theorem vNd.form {w0 w : World} {ns : List Nd} {v : Value} (h : vNd w0 w ns v) : ∃ a c, v = .slice a ns.length c := by
 obtain ⟨a, c, e, _⟩ := h.1.form
 exact ⟨a, c, e⟩
theorem vNd.nil (w0 w : World) : vNd w0 w [] (.slice none 0 0) := ⟨NdS.nil _ _, fun x hx => (by cases hx), by simp, fun g hg => (by cases hg)⟩
theorem nd0_at {av : Nat → Prop} {w : World} (kind : Int) : NdAt av w (.slice none 0 0) (.slice none 0 0) (.slice none 0 0) (.slice none 0 0) (.slice none 0 0) { kind := kind } :=
 ⟨Own.nil _ _ _ _, Own.nil _ _ _ _, Own.nil _ _ _ _, ⟨[], Own.nil _ _ _ _, fun b hb => (by cases hb), fun i hi => absurd hi (by simp)⟩, Own.nil _ _ _ _, fun k hk e => (by cases hk), fun k hk e => (by cases hk), fun k hk e => (by cases hk), fun k hk e => (by cases hk)⟩
/-- Parts in a slice just made. -/
theorem parts1 {av : Nat → Prop} {w : World} {v : Value} {ms : List Nd} (h : NdS av w v ms) : PartsS av (w.alloc (.cells #[v] 23)) (.slice (some ⟨w.heap.size, 0, none⟩) 1 1) [ms] := by
 refine ⟨[v], ⟨rfl, .inr ⟨w.heap.size, 0, 1, _, (0, 0), rfl, Blk.new w 23 _, Nat.le_refl _, Nat.le_refl _, by unfold maxLen; omega, by show 0 + 1 * 1 ≤ 1; omega, fun j hj => (by (have hj1 : j < 1 := hj); (have h0 : j = 0 := by omega); subst h0; rfl)⟩⟩, fun i hi => ?_⟩
 have h0 : i = 0 := by simpa using hi
 subst h0
 exact ⟨v, rfl, h.grown (only_alloc (only_refl w none) _)⟩
theorem parts2 {av : Nat → Prop} {w : World} {v u : Value} {ms ms2 : List Nd} (h : NdS av w v ms) (h2 : NdS av w u ms2) : PartsS av (w.alloc (.cells #[v, u] 23)) (.slice (some ⟨w.heap.size, 0, none⟩) 2 2) [ms, ms2] := by
 refine ⟨[v, u], ⟨rfl, .inr ⟨w.heap.size, 0, 2, _, (0, 0), rfl, Blk.new w 23 _, Nat.le_refl _, Nat.le_refl _, by unfold maxLen; omega, by show 0 + 2 * 1 ≤ 2; omega, fun j hj => ?_⟩⟩, fun i hi => ?_⟩
 ·have hj2 : j < 2 := hj
  match j, hj2 with
  | 0, _ => rfl
  | 1, _ => rfl
 ·have hi2 : i < 2 := hi
  match i, hi2 with
  | 0, _ => exact ⟨v, rfl, h.grown (only_alloc (only_refl w none) _)⟩
  | 1, _ => exact ⟨u, rfl, h2.grown (only_alloc (only_refl w none) _)⟩
theorem shN_nil (ms : List Nd) (h : KB ms) : shN [] ms = ms := by
 show [] ++ ms.map (Nd.sh 0) = ms
 rw [h.zero]
 rfl
theorem joinP_one {ms : List Nd} (h : KB ms) (hne : ms ≠ []) : joinP [ms] = (ms, [(ms.length : Int) - 1]) := by
 show joinStep ([], []) ms = _
 unfold joinStep
 rw [if_neg hne]
 simp only [shN_nil ms h, List.length_nil, Nat.zero_add, List.nil_append]
theorem joinR_one {ms : List Nd} (h : KB ms) (hne : ms ≠ []) (kind : Int) : joinR [ms] { kind := kind } = ms ++ [{ kind := kind, kids := [(ms.length : Int) - 1] }] := by
 unfold joinR
 rw [joinP_one h hne]
 rfl
theorem joinR_two {ms ms2 : List Nd} (h : KB ms) (hne : ms ≠ []) (hne2 : ms2 ≠ []) (kind : Int) : joinR [ms, ms2] { kind := kind } = shN ms ms2 ++ [{ kind := kind, kids := [(ms.length : Int) - 1, ((ms.length + ms2.length : Nat) : Int) - 1] }] := by
 unfold joinR
 have : joinP [ms, ms2] = joinStep (joinP [ms]) ms2 := joinP_snoc [ms] ms2
 rw [this, joinP_one h hne]
 unfold joinStep
 rw [if_neg hne2]
 rfl
theorem Left.ne {c : Nat} {ts ts' : List Tok} {ns' : List Nd} {x : Int} (h : Left c ts [] x ts' ns') : ns' ≠ [] ∧ x = (ns'.length : Int) - 1 ∧ 1 ≤ ns'.length ∧ ns'.length + 10 * ts'.length + c ≤ 10 * ts.length := by
 have h1 := h.more
 have h2 := h.few
 simp only [List.length_nil] at h1 h2
 exact ⟨fun e => by rw [e] at h1; simp at h1, h.last, by omega, by omega⟩
theorem sAnd_in : sAnd ∈ sgs ∧ sOr ∈ sgs ∧ sAmp ∈ sgs ∧ sSemi ∈ sgs ∧ sLf ∈ sgs ∧ sBar ∈ sgs ∧ sPar ∈ sgs ∧ sRap ∈ sgs ∧ sSemi2 ∈ sgs := by decide
set_option maxHeartbeats 16000000 in
theorem ditem_ok (n : Nat) (pipe : Drd) (hd : ∀ d, Dec 3 (pipe d)) (he : ∀ d, Eqv (pipe d)) (Hp : Okn bNil 48 pipe n) : Okn bSl 30 (fun d => itemF (pipe d)) n := by
 intro rb T d ts w h hn
 have HP := hide (fun W ts hW hl => Hp rb T d ts W hW hl)
 have HD := hide (hd d)
 have HE := hide (he d)
 have HS := hide (fun W ts s (hW : DIs W rb T (.ok ts d)) => dsign_any rb T (.ok ts d) s W hW)
 have HB := hide (fun W ts (hW : DIs W rb T (.ok ts d)) => dbreaks_any rb T (.ok ts d) W hW)
 have HJ := hide (fun ps n vp W (hW : w.heap.size ≤ W.heap.size) hP hn hk hb ht hl => djoin_any (low w) ps n vp (.slice none 0 0) (.slice none 0 0) (.slice none 0 0) (.slice none 0 0) W (fun k hk => Nat.lt_of_lt_of_le hk hW) hP hn hk hb ht hl)
 unfold Qb sgnD at HS
 unfold Qu breaksD at HB
 simp only [] at HS HB
 have HGD := hide h.good
 have HRB := hide h.lb
 have HN := hide hn
 have HP0 := hide (HP.out w ts h hn)
 show Calls Try.prog 30 #[.pointer (some ⟨rb, 0, none⟩)] w (NPost (vNd w) bSl rb T d w (itemF (pipe d) ts []))
 obtain ⟨R, hR⟩ : ∃ R, itemF (pipe d) ts [] = R := ⟨_, rfl⟩
 rw [hR]
 obtain ⟨P0, hP0⟩ : ∃ P, pipe d ts [] = P := ⟨_, rfl⟩
 rw [hP0] at HP0
 have HR := hide (show P0.bind (fun x tt ns => itemL (pipe d) (tt.length + 1) x tt ns) = R by rw [← hR, ← hP0]; rfl)
 have HPE := hide hP0
 clear hR hP0 h hn Hp hd he
 go_enter Try.func30, Try.ntmps30
 go_wp2_with fail
 refine HP0.out.mono ?_
 intro e w1 hp1
 -- what the first pipe left
 have hst : ∃ (v : Value) (st : DS), e = .returned v ∧ DIs w1 rb T st ∧ w.grownBy w1 (some rb) ∧ ((∃ f Z ms, st = .ok Z d ∧ itemL (pipe d) f ((ms.length : Int) - 1) Z ms = R ∧ Z.length < f ∧ Z.length ≤ ts.length ∧ vNd w w1 ms v ∧ ms ≠ [] ∧ ms.length + 10 * Z.length ≤ 5000) ∨ (∃ a k, st = .er a k ∧ R = .bad a k ∧ ∃ x y z, v = .slice x y z)) := by
  cases hP : P0 with
  | ok x Z ms =>
   rw [hP] at hp1
   obtain ⟨v, h1, h2, h3, h4⟩ := hp1
   have hl := HD.out _ _ _ _ _ HGD.out.1 (HPE.out.trans hP)
   obtain ⟨l1, l2, l3, l4⟩ := hl.ne
   have hl5 := hl.len
   have h500 := HGD.out.2.2.2.1
   refine ⟨v, .ok Z d, h1, h3, h4, .inl ⟨Z.length + 1, Z, ms, rfl, ?_, by omega, by omega, h2, l1, by omega⟩⟩
   rw [← HR.out, hP, ← l2]
   rfl
  | bad a k =>
   rw [hP] at hp1
   obtain ⟨v, h1, h2, h3, h4⟩ := hp1
   exact ⟨v, .er a k, h1, h3, h4, .inr ⟨a, k, rfl, by rw [← HR.out, hP]; rfl, none, 0, 0, h2⟩⟩
 clear hp1
 obtain ⟨v, st, rfl, hst1, hg1, hor⟩ := hst
 have HS1 := hide hst1
 have HG1 := hide hg1
 have HO1 := hide hor
 obtain ⟨va, vn, vc, rfl⟩ : ∃ a n c, v = .slice a n c := by
  rcases hor with ⟨f, Z, ms, _, _, _, _, h, _⟩ | ⟨a, k, _, _, h⟩
  ·obtain ⟨a, c, e⟩ := h.form
   exact ⟨_, _, _, e⟩
  ·exact h
 clear hst1 hg1 hor HP0
 go_wp2_with fail
 go_loopg [3, 4, 5, 6, 7] (ts.length + 1) (fun g v3 v4 v5 v6 v7 wr => ∃ st : DS, DIs wr rb T st ∧ w.grownBy wr (some rb) ∧ ((∃ f Z ms, st = .ok Z d ∧ itemL (pipe d) f ((ms.length : Int) - 1) Z ms = R ∧ Z.length < f ∧ Z.length < g ∧ Z.length ≤ ts.length ∧ vNd w wr ms v3 ∧ ms ≠ [] ∧ ms.length + 10 * Z.length ≤ 5000) ∨ (∃ a k, st = .er a k ∧ R = .bad a k ∧ (∃ x y z, v3 = .slice x y z) ∧ 0 ≤ g)))
 case atStart =>
  refine ⟨st, HS1.out, HG1.out, ?_⟩
  rcases HO1.out with ⟨f, Z, ms, e, h1, h2, h3, h4, h5, h6⟩ | ⟨a, k, e, h1, h2⟩
  ·exact .inl ⟨f, Z, ms, e, h1, h2, by omega, h3, h4, h5, h6⟩
  ·exact .inr ⟨a, k, e, h1, h2, Nat.zero_le _⟩
 case round =>
  obtain ⟨st, hst, hgr, hor⟩ := hrel
  have HG := hide hgr
  have HST := hide hst
  rcases hor with ⟨f, Z, ms, rfl, hR, hf, hg, hZn, hnd, hne, hfew⟩ | ⟨a, k, rfl, hR, ⟨x, y, z, rfl⟩, _⟩
  ·have HRr := hide hR
   have HND := hide hnd
   have HNE := hide hne
   have HF := hide (And.intro hf (And.intro hg (And.intro hZn hfew)))
   have hgd := hst.good
   have HZG := hide hgd.1
   have HWL := hide hgd.2.1
   obtain ⟨a3, c3, rfl⟩ := hnd.form
   obtain ⟨f, rfl⟩ : ∃ f', f = f' + 1 := ⟨f - 1, by omega⟩
   have HSa := hide (HS.out wr Z sAnd hst)
   obtain ⟨ba, hba⟩ : ∃ b, sgnB Z sAnd = b := ⟨_, rfl⟩
   rw [hba] at HSa
   have HBA := hide (show isB Z sAnd = ba from (HWL.out.sgn sAnd_in.1).trans hba)
   obtain ⟨bo, hbo⟩ : ∃ b, sgnB Z sOr = b := ⟨_, rfl⟩
   have HSo := hide (fun W hW => by have := HS.out W Z sOr hW; rw [hbo] at this; exact this)
   have HBO := hide (show isB Z sOr = bo from (HWL.out.sgn sAnd_in.2.1).trans hbo)
   unfold sAnd sv at HSa
   unfold sOr sv at HSo
   obtain ⟨vt, a, fr, h, hdd, hd26⟩ := hst
   obtain ⟨c0, c1, c2, c3', c4⟩ := h.cells
   have lb := h.lb
   clear h hdd hd26 hba hbo hgd hR hf hg hZn hnd hne hfew hgr
   go_wp2_with fail
   refine HSa.out.mono ?_
   rintro e w2 ⟨rfl, g2⟩
   have HST2 := hide (HST.out.grown g2)
   have HND2 := hide (HND.out.grown g2)
   have HG2 := hide (only_trans HG.out (gr_rb g2))
   clear g2 c0 c1 c2 c3' c4 lb
   go_wp2_with fail
   refine (HSo.out w2 HST2.out).mono ?_
   rintro e w3 ⟨rfl, g3⟩
   have HST3 := hide (HST2.out.grown g3)
   have HND3 := hide (HND2.out.grown g3)
   have HG3 := hide (only_trans HG2.out (gr_rb g3))
   clear g3
   cases ba with
   | true =>
    have hbf : bo = false := by
      obtain ⟨t, r, hZ⟩ := HZG.out.ne
      have h1 := (is_k (hZ ▸ HBA.out)).2
      cases bo with
      | false => rfl
      | true =>
        have h2 := (is_k (hZ ▸ HBO.out)).2
        exact absurd (h1.symm.trans h2) (by decide)
    subst hbf
    have hgt := HZG.out
    have hbt : isB Z sAnd = true := HBA.out
    obtain ⟨hgt2, htl⟩ := is_tail HZG.out hbt
    obtain ⟨t, r, hZ⟩ := HZG.out.ne
    have htk : t.k ≠ 4 := (is_k (hZ ▸ hbt)).1
    have hrt : Z.tail = r := by rw [hZ]; rfl
    rw [hrt] at hgt2 htl
    obtain ⟨vt, a, fr, h, hdd, hd26⟩ := HST3.out
    obtain ⟨c0, c1, c2, c3', c4⟩ := h.cells
    have lb := h.lb
    have z1 := Blk.frozen h.blk 1
    have hal : (a : Int) ≤ 500 := by have := h.lt; have := h.tg.len; omega
    have HNX := hide (DIs.next h hdd hd26 hZ htk)
    have HBG := hide (breaks_good hgt2)
    have HTL := hide htl
    have HRx := hide (show R = ((pipe d (breaksF r) ms).bind fun y ts2 ns2 => itemL (pipe d) f ns2.length ts2 (ns2 ++ [{ kind := 4, kids := [(ms.length : Int) - 1, y] }])) by
      rw [← HRr.out, itemL, if_pos HBA.out, hrt])
    clear h hdd hd26 hgt hbt hgt2 htl hZ htk hrt
    go_upto_region 10 with (fail)
    have hg4 := only_setCell (only_refl w3 (some rb)) (p := ⟨rb, 1, none⟩) (.inl rfl) (.int .i64 ((a : Int) + 1))
    have HND4 := hide (HND3.out.rb hg4 HST3.out.hasT)
    have HG4 := hide (only_trans HG3.out hg4)
    have HST4 := hide HNX.out
    generalize w3.setCell ⟨rb, 1, none⟩ (.int .i64 ((a : Int) + 1)) = W4 at HND4 HG4 HST4 ⊢
    clear hg4 c0 c1 c2 c3' c4 lb z1 hal
    have HBk := hide (HB.out W4 r HST4.out)
    go_wp2_with fail
    refine HBk.out.mono ?_
    rintro e w5 ⟨rfl, h5, g5⟩
    have HND5 := hide (HND4.out.rb g5 HST4.out.hasT)
    have HG5 := hide (only_trans HG4.out g5)
    have HP5 := hide (HP.out w5 (breaksF r) h5 (by have := HBG.out.2; have := HTL.out; have := HF.out; have := HN.out; omega))
    have HT5 := hide h5.hasT
    clear h5 g5
    obtain ⟨PQ, hpq⟩ : ∃ P, pipe d (breaksF r) [] = P := ⟨_, rfl⟩
    rw [hpq] at HP5
    have HPQ := hide hpq
    have HRy := hide (show R = ((PQ.mv ms (kdS ms.length)).bind fun y ts2 ns2 => itemL (pipe d) f ns2.length ts2 (ns2 ++ [{ kind := 4, kids := [(ms.length : Int) - 1, y] }])) by rw [HRx.out, eqv_at HE.out, hpq])
    clear hpq
    go_wp2_with fail
    refine HP5.out.mono ?_
    cases PQ with
    | bad ea ek =>
      rintro e w6 ⟨v, rfl, rfl, h6, g6⟩
      have HST6 := hide h6
      have HND6 := hide (HND5.out.rb g6 HT5.out)
      have HG6 := hide (only_trans HG5.out g6)
      clear h6 g6
      have HJ6 := hide (HJ.out [ms, []] { kind := 4 } _ _ (by rw [World.size_alloc]; have := HG6.out.size; omega) (parts2 HND6.out.1 (NdS.nil _ w6)) (nd0_at 4) rfl (by intro q hq; rcases List.mem_cons.1 hq with rfl | hq; exact HND6.out.2.1; rw [List.mem_singleton] at hq; subst hq; intro x hx; cases hx) (by show _ + (_ + 0) ≤ _; have := HND6.out.2.2; simp only [List.length_nil]; omega) (by show 2 ≤ 1000; omega))
      unfold JPost ndCells sv at HJ6
      simp only [] at HJ6
      go_wp2_with fail
      refine HJ6.out.mono ?_
      rintro e w7 ⟨v, rfl, hn7, hnw7, g7⟩
      obtain ⟨v1, v2, rfl, _⟩ := hn7.form
      have hg7 := none_trans (only_alloc (only_refl w6 none) _) g7
      have HST7 := hide (HST6.out.grown hg7)
      have HG7 := hide (only_trans HG6.out (gr_rb hg7))
      have HR7 := hide (show R = .bad ea ek from HRy.out)
      clear hn7 hnw7 g7 hg7
      go_wp2_with fail
      go_roundg (gk - 1)
      case rel => exact ⟨.er ea ek, HST7.out, HG7.out, .inr ⟨ea, ek, rfl, HR7.out, ⟨_, _, _, rfl⟩, Nat.zero_le _⟩⟩
      case measure => have := HF.out; omega
    | ok y Z2 ms2 =>
      rintro e w6 ⟨v, rfl, hv2, h6, g6⟩
      obtain ⟨v1, v2, rfl⟩ := hv2.form
      have hl := HD.out _ _ _ _ _ HBG.out.1 HPQ.out
      obtain ⟨l1, l2, l3, l4⟩ := hl.ne
      have HL := hide (And.intro l1 (And.intro l2 (And.intro l3 (And.intro l4 hl.len))))
      have HST6 := hide h6
      have HND6 := hide (HND5.out.rb g6 HT5.out)
      have HNE6 := hide (hv2.low HG5.out.size)
      have HG6 := hide (only_trans HG5.out g6)
      have HFW := hide (show ms.length + ms2.length + 1 + 10 * Z2.length ≤ 5000 by have := HBG.out.2; have := HTL.out; have := HF.out; omega)
      clear h6 g6 hl l1 l2 l3 l4 hv2
      have HJ6 := hide (HJ.out [ms, ms2] { kind := 4 } _ _ (by rw [World.size_alloc]; have := HG6.out.size; omega) (parts2 HND6.out.1 HNE6.out.1) (nd0_at 4) rfl (by intro q hq; rcases List.mem_cons.1 hq with rfl | hq; exact HND6.out.2.1; rw [List.mem_singleton] at hq; subst hq; exact HNE6.out.2.1) (by show _ + (_ + 0) ≤ _; have := HFW.out; omega) (by show 2 ≤ 1000; omega))
      unfold JPost ndCells sv at HJ6
      simp only [] at HJ6
      go_wp2_with fail
      refine HJ6.out.mono ?_
      rintro e w7 ⟨v, rfl, hn7, hnw7, g7⟩
      have hg7 := none_trans (only_alloc (only_refl w6 none) _) g7
      have hkb := joinR_kb (ps := [ms, ms2]) (n := { kind := 4 }) (by intro q hq; rcases List.mem_cons.1 hq with rfl | hq; exact HND6.out.2.1; rw [List.mem_singleton] at hq; subst hq; exact HNE6.out.2.1) (by show 2 ≤ 1000; omega) rfl
      have hjr := joinR_two HND6.out.2.1 HNE.out HL.out.1 4
      have hjl : (joinR [ms, ms2] { kind := 4 }).length = ms.length + ms2.length + 1 := by rw [hjr, List.length_append, shN_len, List.length_singleton]
      obtain ⟨J, hJ⟩ : ∃ J, joinR [ms, ms2] { kind := 4 } = J := ⟨_, rfl⟩
      rw [hJ] at hn7 hkb hjr hjl
      obtain ⟨u1, u2, rfl, _⟩ := hn7.form
      have HNDJ := hide (⟨hn7, hkb, by have := HFW.out; omega, fun g hg => by have h1 := hnw7 g hg; rw [World.size_alloc] at h1; have := HG6.out.size; omega⟩ : vNd w w7 J _)
      have HST7 := hide (HST6.out.grown hg7)
      have HG7 := hide (only_trans HG6.out (gr_rb hg7))
      have HJL := hide hjl
      have HR7 := hide (show itemL (pipe d) f ((J.length : Int) - 1) Z2 J = R by
        rw [HRy.out]
        show _ = itemL (pipe d) f ((shN ms ms2).length : Int) Z2 (shN ms ms2 ++ [{ kind := 4, kids := [(ms.length : Int) - 1, kdS ms.length y] }])
        have hy : kdS ms.length y = ((ms.length + ms2.length : Nat) : Int) - 1 := by
          have h1 := HL.out.2.1
          have h2 := HL.out.2.2.1
          rw [kdS_add _ _ (by omega), h1]
          omega
        rw [hy, ← hjr, hjl, shN_len]
        congr 1
        omega)
      have HJN := hide (show J ≠ [] from fun e => by rw [e] at hjl; simp at hjl)
      clear hn7 hnw7 g7 hg7 hkb hjr hjl hJ
      go_wp2_with fail
      go_roundg (gk - 1)
      case rel => exact ⟨.ok Z2 d, HST7.out, HG7.out, .inl ⟨f, Z2, J, rfl, HR7.out, by have := HL.out.2.2.2.2; have := HBG.out.2; have := HTL.out; have := HF.out; omega, by have := HL.out.2.2.2.2; have := HBG.out.2; have := HTL.out; have := HF.out; omega, by have := HL.out.2.2.2.2; have := HBG.out.2; have := HTL.out; have := HF.out; omega, HNDJ.out, HJN.out, by have := HFW.out; have := HJL.out; omega⟩⟩
      case measure => have := HF.out; omega
   | false =>
    cases bo with
    | true =>
     have hgt := HZG.out
     have hbt : isB Z sOr = true := HBO.out
     obtain ⟨hgt2, htl⟩ := is_tail HZG.out hbt
     obtain ⟨t, r, hZ⟩ := HZG.out.ne
     have htk : t.k ≠ 4 := (is_k (hZ ▸ hbt)).1
     have hrt : Z.tail = r := by rw [hZ]; rfl
     rw [hrt] at hgt2 htl
     obtain ⟨vt, a, fr, h, hdd, hd26⟩ := HST3.out
     obtain ⟨c0, c1, c2, c3', c4⟩ := h.cells
     have lb := h.lb
     have z1 := Blk.frozen h.blk 1
     have hal : (a : Int) ≤ 500 := by have := h.lt; have := h.tg.len; omega
     have HNX := hide (DIs.next h hdd hd26 hZ htk)
     have HBG := hide (breaks_good hgt2)
     have HTL := hide htl
     have HRx := hide (show R = ((pipe d (breaksF r) ms).bind fun y ts2 ns2 => itemL (pipe d) f ns2.length ts2 (ns2 ++ [{ kind := 5, kids := [(ms.length : Int) - 1, y] }])) by
       rw [← HRr.out, itemL, if_neg (by rw [HBA.out]; decide), if_pos HBO.out, hrt])
     clear h hdd hd26 hgt hbt hgt2 htl hZ htk hrt
     go_upto_region 10 with (fail)
     have hg4 := only_setCell (only_refl w3 (some rb)) (p := ⟨rb, 1, none⟩) (.inl rfl) (.int .i64 ((a : Int) + 1))
     have HND4 := hide (HND3.out.rb hg4 HST3.out.hasT)
     have HG4 := hide (only_trans HG3.out hg4)
     have HST4 := hide HNX.out
     generalize w3.setCell ⟨rb, 1, none⟩ (.int .i64 ((a : Int) + 1)) = W4 at HND4 HG4 HST4 ⊢
     clear hg4 c0 c1 c2 c3' c4 lb z1 hal
     have HBk := hide (HB.out W4 r HST4.out)
     go_wp2_with fail
     refine HBk.out.mono ?_
     rintro e w5 ⟨rfl, h5, g5⟩
     have HND5 := hide (HND4.out.rb g5 HST4.out.hasT)
     have HG5 := hide (only_trans HG4.out g5)
     have HP5 := hide (HP.out w5 (breaksF r) h5 (by have := HBG.out.2; have := HTL.out; have := HF.out; have := HN.out; omega))
     have HT5 := hide h5.hasT
     clear h5 g5
     obtain ⟨PQ, hpq⟩ : ∃ P, pipe d (breaksF r) [] = P := ⟨_, rfl⟩
     rw [hpq] at HP5
     have HPQ := hide hpq
     have HRy := hide (show R = ((PQ.mv ms (kdS ms.length)).bind fun y ts2 ns2 => itemL (pipe d) f ns2.length ts2 (ns2 ++ [{ kind := 5, kids := [(ms.length : Int) - 1, y] }])) by rw [HRx.out, eqv_at HE.out, hpq])
     clear hpq
     go_wp2_with fail
     refine HP5.out.mono ?_
     cases PQ with
     | bad ea ek =>
       rintro e w6 ⟨v, rfl, rfl, h6, g6⟩
       have HST6 := hide h6
       have HND6 := hide (HND5.out.rb g6 HT5.out)
       have HG6 := hide (only_trans HG5.out g6)
       clear h6 g6
       have HJ6 := hide (HJ.out [ms, []] { kind := 5 } _ _ (by rw [World.size_alloc]; have := HG6.out.size; omega) (parts2 HND6.out.1 (NdS.nil _ w6)) (nd0_at 5) rfl (by intro q hq; rcases List.mem_cons.1 hq with rfl | hq; exact HND6.out.2.1; rw [List.mem_singleton] at hq; subst hq; intro x hx; cases hx) (by show _ + (_ + 0) ≤ _; have := HND6.out.2.2; simp only [List.length_nil]; omega) (by show 2 ≤ 1000; omega))
       unfold JPost ndCells sv at HJ6
       simp only [] at HJ6
       go_wp2_with fail
       refine HJ6.out.mono ?_
       rintro e w7 ⟨v, rfl, hn7, hnw7, g7⟩
       obtain ⟨v1, v2, rfl, _⟩ := hn7.form
       have hg7 := none_trans (only_alloc (only_refl w6 none) _) g7
       have HST7 := hide (HST6.out.grown hg7)
       have HG7 := hide (only_trans HG6.out (gr_rb hg7))
       have HR7 := hide (show R = .bad ea ek from HRy.out)
       clear hn7 hnw7 g7 hg7
       go_wp2_with fail
       go_roundg (gk - 1)
       case rel => exact ⟨.er ea ek, HST7.out, HG7.out, .inr ⟨ea, ek, rfl, HR7.out, ⟨_, _, _, rfl⟩, Nat.zero_le _⟩⟩
       case measure => have := HF.out; omega
     | ok y Z2 ms2 =>
       rintro e w6 ⟨v, rfl, hv2, h6, g6⟩
       obtain ⟨v1, v2, rfl⟩ := hv2.form
       have hl := HD.out _ _ _ _ _ HBG.out.1 HPQ.out
       obtain ⟨l1, l2, l3, l4⟩ := hl.ne
       have HL := hide (And.intro l1 (And.intro l2 (And.intro l3 (And.intro l4 hl.len))))
       have HST6 := hide h6
       have HND6 := hide (HND5.out.rb g6 HT5.out)
       have HNE6 := hide (hv2.low HG5.out.size)
       have HG6 := hide (only_trans HG5.out g6)
       have HFW := hide (show ms.length + ms2.length + 1 + 10 * Z2.length ≤ 5000 by have := HBG.out.2; have := HTL.out; have := HF.out; omega)
       clear h6 g6 hl l1 l2 l3 l4 hv2
       have HJ6 := hide (HJ.out [ms, ms2] { kind := 5 } _ _ (by rw [World.size_alloc]; have := HG6.out.size; omega) (parts2 HND6.out.1 HNE6.out.1) (nd0_at 5) rfl (by intro q hq; rcases List.mem_cons.1 hq with rfl | hq; exact HND6.out.2.1; rw [List.mem_singleton] at hq; subst hq; exact HNE6.out.2.1) (by show _ + (_ + 0) ≤ _; have := HFW.out; omega) (by show 2 ≤ 1000; omega))
       unfold JPost ndCells sv at HJ6
       simp only [] at HJ6
       go_wp2_with fail
       refine HJ6.out.mono ?_
       rintro e w7 ⟨v, rfl, hn7, hnw7, g7⟩
       have hg7 := none_trans (only_alloc (only_refl w6 none) _) g7
       have hkb := joinR_kb (ps := [ms, ms2]) (n := { kind := 5 }) (by intro q hq; rcases List.mem_cons.1 hq with rfl | hq; exact HND6.out.2.1; rw [List.mem_singleton] at hq; subst hq; exact HNE6.out.2.1) (by show 2 ≤ 1000; omega) rfl
       have hjr := joinR_two HND6.out.2.1 HNE.out HL.out.1 5
       have hjl : (joinR [ms, ms2] { kind := 5 }).length = ms.length + ms2.length + 1 := by rw [hjr, List.length_append, shN_len, List.length_singleton]
       obtain ⟨J, hJ⟩ : ∃ J, joinR [ms, ms2] { kind := 5 } = J := ⟨_, rfl⟩
       rw [hJ] at hn7 hkb hjr hjl
       obtain ⟨u1, u2, rfl, _⟩ := hn7.form
       have HNDJ := hide (⟨hn7, hkb, by have := HFW.out; omega, fun g hg => by have h1 := hnw7 g hg; rw [World.size_alloc] at h1; have := HG6.out.size; omega⟩ : vNd w w7 J _)
       have HST7 := hide (HST6.out.grown hg7)
       have HG7 := hide (only_trans HG6.out (gr_rb hg7))
       have HJL := hide hjl
       have HR7 := hide (show itemL (pipe d) f ((J.length : Int) - 1) Z2 J = R by
         rw [HRy.out]
         show _ = itemL (pipe d) f ((shN ms ms2).length : Int) Z2 (shN ms ms2 ++ [{ kind := 5, kids := [(ms.length : Int) - 1, kdS ms.length y] }])
         have hy : kdS ms.length y = ((ms.length + ms2.length : Nat) : Int) - 1 := by
           have h1 := HL.out.2.1
           have h2 := HL.out.2.2.1
           rw [kdS_add _ _ (by omega), h1]
           omega
         rw [hy, ← hjr, hjl, shN_len]
         congr 1
         omega)
       have HJN := hide (show J ≠ [] from fun e => by rw [e] at hjl; simp at hjl)
       clear hn7 hnw7 g7 hg7 hkb hjr hjl hJ
       go_wp2_with fail
       go_roundg (gk - 1)
       case rel => exact ⟨.ok Z2 d, HST7.out, HG7.out, .inl ⟨f, Z2, J, rfl, HR7.out, by have := HL.out.2.2.2.2; have := HBG.out.2; have := HTL.out; have := HF.out; omega, by have := HL.out.2.2.2.2; have := HBG.out.2; have := HTL.out; have := HF.out; omega, by have := HL.out.2.2.2.2; have := HBG.out.2; have := HTL.out; have := HF.out; omega, HNDJ.out, HJN.out, by have := HFW.out; have := HJL.out; omega⟩⟩
       case measure => have := HF.out; omega
    | false =>
     have HRT := hide (show R = .ok ((ms.length : Int) - 1) Z ms by rw [← HRr.out, itemL, if_neg (by rw [HBA.out]; decide), if_neg (by rw [HBO.out]; decide)])
     obtain ⟨vt, a, fr, h, hdd, hd26⟩ := HST3.out
     clear h hdd hd26
     go_wp2_with fail
     rw [HRT.out]
     go_ret
     exact ⟨_, rfl, HND3.out, HST3.out, HG3.out⟩
  ·have HRr := hide hR
   obtain ⟨vt, i, dd, h, hk0⟩ := hst
   obtain ⟨c0, c1, c2, c3, c4⟩ := h.cells
   have lb := h.lb
   have qk : (k == 0) = false := beq_eq_false_iff_ne.2 hk0
   clear h hk0 hR hgr
   go_wp2_with fail
   rw [HRr.out]
   go_ret
   exact ⟨_, rfl, ⟨x, y, z, rfl⟩, HST.out, HG.out⟩
end Go.Proofs.Ytgpfjcogaheopaa

end
section
/- The document's pipe. -/
namespace Go.Proofs.Ytgpfjcogaheopaa
open Go.RowKit Lx
set_option maxRecDepth 100000
theorem infoNds : (Try.prog.info? 23).map (fun i => (i.zero, i.size, i.bytes)) = some (some (.slice none 0 0), 1, 24) := by kernel_rfl
theorem srcPn (W : World) (b : Nat) (a : Option Addr) (m c : Nat) (hb : W.heap.size = b) : Src Try.prog 1 63 (.slice (some ⟨b, 0, none⟩) 1 1) 1 [.slice a m c] (W.alloc (.cells #[.slice a m c] 23)) := by
 subst hb
 exact Own.src (P := Try.prog) (tx := 63) (e' := 23) (n := 1) (xs := [.slice a m c]) (k := 0) (e := 23) ⟨rfl, .inr ⟨W.heap.size, 0, 1, _, (0, 0), rfl, Blk.new W 23 _, Nat.le_refl _, Nat.le_refl _, by unfold maxLen; omega, by show 0 + 1 * 1 ≤ 1; omega, fun j hj => (by (have h0 : j = 0 := by omega); subst h0; rfl)⟩⟩ (by kernel_rfl) (by intro u hu; simp at hu; subst hu; rfl)
theorem NdS.chgP {av : Nat → Prop} {w w' : World} {v : Value} {ns : List Nd} {S : Nat → Prop} (h : NdS av w v ns) (hc : Chg S w w') (hT : ∀ k, S k → HasT w k 23) : NdS av w' v ns := by
 obtain ⟨cs, h1, h2⟩ := h
 have key : ∀ {e : TypeId} {s n k : Nat} {v : Value} {xs : List Value}, Own w e s v n xs k → e ≠ 23 → Own w' e s v n xs k := fun ho hne => ho.chg hc fun g hg e => hne ((ho.hasT hg).uniq (hT g e))
 refine ⟨cs, key h1 (by decide), fun i hi => ?_⟩
 obtain ⟨a, b, r, p, k, e, hn⟩ := h2 i hi
 obtain ⟨ps, p1, p3, p2⟩ := hn.pats
 exact ⟨a, b, r, p, k, e, key hn.sets (by decide), key hn.words (by decide), key hn.rds (by decide), ⟨ps, key p1 (by decide), p3, fun i hi => by obtain ⟨u, hu, hs, hv⟩ := p2 i hi; exact ⟨u, hu, key hs (by decide), hv⟩⟩, key hn.kids (by decide), hn.ha, hn.hb, hn.hr, hn.hk⟩
/-- Parts in memory, each in a block newer than w0. -/
def PartsN (w0 w : World) (v : Value) (ps : List (List Nd)) : Prop := ∃ cs, Own w 23 1 v ps.length cs 0 ∧ ∀ i (h : i < ps.length), ∃ u, cs[i]? = some u ∧ NdS (low w0) w u ps[i] ∧ ∀ g, u.ownBlock = some g → w0.heap.size ≤ g
theorem PartsN.S {w0 w : World} {v : Value} {ps : List (List Nd)} (h : PartsN w0 w v ps) : PartsS (low w0) w v ps := by
 obtain ⟨cs, h1, h2⟩ := h
 exact ⟨cs, h1, fun i hi => by obtain ⟨u, e, hn, _⟩ := h2 i hi; exact ⟨u, e, hn⟩⟩
theorem PartsN.drb {w0 w w' : World} {rb : Nat} {v : Value} {ps : List (List Nd)} (h : PartsN w0 w v ps) (hg : w.grownBy w' (some rb)) (ht : HasT w rb 50) : PartsN w0 w' v ps := by
 obtain ⟨cs, h1, h2⟩ := h
 exact ⟨cs, own_rb hg ht h1 (by decide), fun i hi => by obtain ⟨u, hu, hn, h3⟩ := h2 i hi; exact ⟨u, hu, hn.drb hg ht, h3⟩⟩
theorem PartsN.grown {w0 w w' : World} {v : Value} {ps : List (List Nd)} (h : PartsN w0 w v ps) (hg : w.grownBy w' none) : PartsN w0 w' v ps := by
 obtain ⟨cs, h1, h2⟩ := h
 exact ⟨cs, old_own hg h1, fun i hi => by obtain ⟨u, hu, hn, h3⟩ := h2 i hi; exact ⟨u, hu, hn.grown hg, h3⟩⟩
theorem PartsN.at_ {w0 w : World} {v : Value} {ps : List (List Nd)} (h : PartsN w0 w v ps) (i : Nat) (hi : i < ps.length) : ∃ g off cap a c, v = .slice (some ⟨g, off, none⟩) ps.length cap ∧ g < w.heap.size ∧ w.cell? ⟨g, off + i, none⟩ = some (.slice a ps[i].length c) ∧ NdS (low w0) w (.slice a ps[i].length c) ps[i] ∧ ∀ g, (Value.slice a ps[i].length c).ownBlock = some g → w0.heap.size ≤ g := by
 obtain ⟨cs, h1, h2⟩ := h
 obtain ⟨g, off, cap, rfl, _, _, hg, hcs⟩ := h1.some_ (by omega)
 obtain ⟨u, hu, hn, h3⟩ := h2 i hi
 obtain ⟨a, c, rfl, _⟩ := hn.form
 refine ⟨g, off, cap, a, c, rfl, hg, ?_, hn, h3⟩
 have := hcs i (by omega)
 rw [this, hu]
theorem parts1N {w0 w : World} {v : Value} {ms : List Nd} (h : NdS (low w0) w v ms) (hu : ∀ g, v.ownBlock = some g → w0.heap.size ≤ g) : PartsN w0 (w.alloc (.cells #[v] 23)) (.slice (some ⟨w.heap.size, 0, none⟩) 1 1) [ms] := by
 refine ⟨[v], ⟨rfl, .inr ⟨w.heap.size, 0, 1, _, (0, 0), rfl, Blk.new w 23 _, Nat.le_refl _, Nat.le_refl _, by unfold maxLen; omega, by show 0 + 1 * 1 ≤ 1; omega, fun j hj => (by (have hj1 : j < 1 := hj); (have h0 : j = 0 := by omega); subst h0; rfl)⟩⟩, fun i hi => ?_⟩
 have h0 : i = 0 := by simpa using hi
 subst h0
 exact ⟨v, rfl, h.grown (only_alloc (only_refl w none) _), hu⟩
theorem parts2N {w0 w : World} {v u : Value} {ms ms2 : List Nd} (h : NdS (low w0) w v ms) (h2 : NdS (low w0) w u ms2) (hv : ∀ g, v.ownBlock = some g → w0.heap.size ≤ g) (hu : ∀ g, u.ownBlock = some g → w0.heap.size ≤ g) : PartsN w0 (w.alloc (.cells #[v, u] 23)) (.slice (some ⟨w.heap.size, 0, none⟩) 2 2) [ms, ms2] := by
 refine ⟨[v, u], ⟨rfl, .inr ⟨w.heap.size, 0, 2, _, (0, 0), rfl, Blk.new w 23 _, Nat.le_refl _, Nat.le_refl _, by unfold maxLen; omega, by show 0 + 2 * 1 ≤ 2; omega, fun j hj => ?_⟩⟩, fun i hi => ?_⟩
 ·have hj2 : j < 2 := hj
  match j, hj2 with
  | 0, _ => rfl
  | 1, _ => rfl
 ·have hi2 : i < 2 := hi
  match i, hi2 with
  | 0, _ => exact ⟨v, rfl, h.grown (only_alloc (only_refl w none) _), hv⟩
  | 1, _ => exact ⟨u, rfl, h2.grown (only_alloc (only_refl w none) _), hu⟩
/-- Parts under way. -/
structure PtD (w W : World) (rb : Nat) (T : List Tok) (st : DS) (v : Value) (ps : List (List Nd)) : Prop where
 st : DIs W rb T st
 parts : PartsN w W v ps
 new : ∀ g, v.ownBlock = some g → w.heap.size ≤ g
 kb : ∀ ms ∈ ps, KB ms
 gr : w.grownBy W (some rb)
 rbl : rb < w.heap.size
section
variable {w W W' wA : World} {rb : Nat} {T : List Tok} {st st' : DS} {v vA : Value} {ps : List (List Nd)}
theorem PtD.step (h : PtD w W rb T st v ps) (hg : W.grownBy W' (some rb)) (ht : DIs W' rb T st') : PtD w W' rb T st' v ps := ⟨ht, h.parts.drb hg h.st.hasT, h.new, h.kb, only_trans h.gr hg, h.rbl⟩
theorem PtD.grown (h : PtD w W rb T st v ps) (hg : W.grownBy W' none) : PtD w W' rb T st v ps := h.step (gr_rb hg) (h.st.grown hg)
theorem PtD.form (h : PtD w W rb T st v ps) : ∃ a c, v = .slice a ps.length c := by
 obtain ⟨cs, h1, _⟩ := h.parts
 obtain ⟨a, c, e, _⟩ := h1.form
 exact ⟨a, c, e⟩
theorem PtD.nil (h : DIs W rb T st) (hg : w.grownBy W (some rb)) (hb : rb < w.heap.size) : PtD w W rb T st (.slice none 0 0) [] := ⟨h, ⟨[], Own.nil _ _ _ _, fun i hi => absurd hi (by simp)⟩, fun g hg => (by cases hg), fun ms hm => (by cases hm), hg, hb⟩
theorem PtD.first (h : DIs W rb T st) (hg : w.grownBy W (some rb)) (hb : rb < w.heap.size) {u : Value} {ms : List Nd} (hn : NdS (low w) W u ms) (hk : KB ms) (hu : ∀ g, u.ownBlock = some g → w.heap.size ≤ g) : PtD w (W.alloc (.cells #[u] 23)) rb T st (.slice (some ⟨W.heap.size, 0, none⟩) 1 1) [ms] :=
 ⟨h.grown (only_alloc (only_refl W none) _), parts1N hn hu, fun g hg2 => by simp [Value.ownBlock] at hg2; have := hg.size; omega, fun m hm => by rw [List.mem_singleton] at hm; subst hm; exact hk, only_alloc hg _, hb⟩
theorem PtD.app (h : PtD w W rb T st v ps) {cs : List Value} (h1 : Own W 23 1 v ps.length cs 0) (h2 : ∀ i (h : i < ps.length), ∃ u, cs[i]? = some u ∧ NdS (low w) W u ps[i] ∧ ∀ g, u.ownBlock = some g → w.heap.size ≤ g) (o : Obj) {u : Value} {ms : List Nd} (hu : NdS (low w) W u ms) (hk : KB ms) (hun : ∀ g, u.ownBlock = some g → w.heap.size ≤ g)
  (ho : Own wA 23 1 vA (ps.length + 1) (cs ++ [u]) 0) (hc : Chg (fun g => v.ownBlock = some g) (W.alloc o) wA) (hn : ∀ g, vA.ownBlock = some g → v.ownBlock = some g ∨ (W.alloc o).heap.size ≤ g) : PtD w wA rb T st vA (ps ++ [ms]) := by
 have hgW := only_alloc (only_refl W none) o
 have hT : ∀ k, v.ownBlock = some k → HasT (W.alloc o) k 23 := fun k e => Own.hasT (old_own hgW h1) e
 refine ⟨(h.st.grown hgW).chg hc (fun k e => by have := h.new k e; have := h.rbl; omega), ⟨cs ++ [u], by rw [List.length_append, List.length_singleton]; exact ho, fun i hi => ?_⟩, fun g hg => ?_, fun m hm => ?_, gr_app h.gr o hc h.new, h.rbl⟩
 ·rw [List.length_append, List.length_singleton] at hi
  have hl := h1.len
  by_cases hin : i < ps.length
  ·obtain ⟨u', hu', hn', h3'⟩ := h2 i hin
   refine ⟨u', by rw [List.getElem?_append_left (by omega)]; exact hu', ?_⟩
   rw [List.getElem_append_left hin]
   exact ⟨(hn'.grown hgW).chgP hc hT, h3'⟩
  ·obtain rfl : i = ps.length := by omega
   refine ⟨u, by rw [List.getElem?_append_right (by omega), show ps.length - cs.length = 0 by omega]; rfl, ?_⟩
   rw [List.getElem_append_right (Nat.le_refl _)]
   simp only [Nat.sub_self, List.getElem_cons_zero]
   exact ⟨(hu.grown hgW).chgP hc hT, hun⟩
 ·rcases hn g hg with e | e
  ·exact h.new g e
  ·rw [World.size_alloc] at e
   have := h.gr.size
   omega
 ·rw [List.mem_append, List.mem_singleton] at hm
  rcases hm with hm | rfl
  ·exact h.kb m hm
  ·exact hk
end
def tailP (nb : Bool) (kids : List Int) (tt : List Tok) (ns : List Nd) : PR Int := if 1 < kids.length then notR nb ns.length tt (ns ++ [{ kind := 3, kids := kids }]) else notR nb (kids.headD 0) tt ns
def pipeX (ps : List (List Nd)) : List Nd := if 1 < ps.length then joinR ps { kind := 3 } else ps.headD []
theorem tailP_eq {nb : Bool} {ps : List (List Nd)} {tt : List Tok} (hk : ∀ ms ∈ ps, KB ms) (hne : ∀ ms ∈ ps, ms ≠ []) (hp : ps ≠ []) : tailP nb (joinP ps).2 tt (joinP ps).1 = if nb = true then .ok (pipeX ps).length tt (pipeX ps ++ [{ kind := 2, kids := [((pipeX ps).length : Int) - 1] }]) else .ok (((pipeX ps).length : Int) - 1) tt (pipeX ps) := by
 unfold tailP pipeX
 rw [joinP_len]
 by_cases h : 1 < ps.length
 ·rw [if_pos h, if_pos h]
  have hj : joinR ps { kind := 3 } = (joinP ps).1 ++ [{ kind := 3, kids := (joinP ps).2 }] := rfl
  rw [hj]
  have hl : (((joinP ps).1 ++ [({ kind := 3, kids := (joinP ps).2 } : Nd)]).length : Int) - 1 = ((joinP ps).1.length : Int) := by rw [List.length_append, List.length_singleton]; omega
  rw [hl]
  unfold notR layR
  rfl
 ·rw [if_neg h, if_neg h]
  match ps, hp with
  | [ms], _ =>
   have hm := hk ms (List.mem_singleton.2 rfl)
   rw [joinP_one hm (hne ms (List.mem_singleton.2 rfl))]
   unfold notR layR
   rfl
  | a :: b :: c, _ => exact absurd (by simp) h
theorem joinR_len (ps : List (List Nd)) (n : Nd) : (joinR ps n).length = sumL ps + 1 := by simp [joinR, joinP_sum]
theorem sumL_snoc (ps : List (List Nd)) (ms : List Nd) : sumL (ps ++ [ms]) = sumL ps + ms.length := by simp [sumL]
theorem joinP_step {ps : List (List Nd)} {ms : List Nd} (h : ms ≠ []) : joinP (ps ++ [ms]) = (shN (joinP ps).1 ms, (joinP ps).2 ++ [(((joinP ps).1.length + ms.length : Nat) : Int) - 1]) := by rw [joinP_snoc]; unfold joinStep; rw [if_neg h]
theorem wBang_no : wBang ∉ sgs := by decide
set_option maxHeartbeats 16000000 in
theorem dpipe_ok (n : Nat) (cmd : Drd) (hd : ∀ d, Dec 5 (cmd d)) (he : ∀ d, Eqv (cmd d)) (Hp : Okn bSl 61 cmd n) : Okn bNil 48 (fun d => pipeF (cmd d)) n := by
 intro rb T d ts w h hn
 have HP := hide (fun W ts hW hl => Hp rb T d ts W hW hl)
 have HD := hide (hd d)
 have HE := hide (he d)
 have HS := hide (fun W ts s (hW : DIs W rb T (.ok ts d)) => dsign_any rb T (.ok ts d) s W hW)
 have HWd := hide (fun W ts s (hW : DIs W rb T (.ok ts d)) => dword_any rb T (.ok ts d) s W hW)
 have HB := hide (fun W ts (hW : DIs W rb T (.ok ts d)) => dbreaks_any rb T (.ok ts d) W hW)
 have HJ := hide (fun ps n vp W (hW : w.heap.size ≤ W.heap.size) hP hn hk hb ht hl => djoin_any (low w) ps n vp (.slice none 0 0) (.slice none 0 0) (.slice none 0 0) (.slice none 0 0) W (fun k hk => Nat.lt_of_lt_of_le hk hW) hP hn hk hb ht hl)
 unfold Qb sgnD at HS
 unfold Qb wrdD at HWd
 unfold Qu breaksD at HB
 simp only [] at HS HB HWd
 have HGD := hide h.good
 have HRB := hide h.lb
 have HN := hide hn
 have HST := hide h
 show Calls Try.prog 48 #[.pointer (some ⟨rb, 0, none⟩)] w (NPost (vNd w) bNil rb T d w (pipeF (cmd d) ts []))
 obtain ⟨nb, hnb⟩ : ∃ b, isB ts wBang = b := ⟨_, rfl⟩
 obtain ⟨TB, hTB⟩ : ∃ t, takeT ts wBang = t := ⟨_, rfl⟩
 obtain ⟨R, hR⟩ : ∃ R, pipeF (cmd d) ts [] = R := ⟨_, rfl⟩
 rw [hR]
 have HNB := hide hnb
 have hgt := take_good (s := wBang) h.good.1
 rw [hTB] at hgt
 have HGT := hide hgt
 obtain ⟨P0, hP0⟩ : ∃ P, cmd d TB [] = P := ⟨_, rfl⟩
 have HPE := hide hP0
 have HR := hide (show (P0.bind fun x tt ns => (pipeL (cmd d) (tt.length + 1) [x] tt ns).bind (tailP nb)) = R by
  rw [← hR, ← hP0, ← hTB, ← hnb]
  rfl)
 have HW0 := hide (HWd.out w ts wBang h)
 rw [show wrdB ts wBang = nb from (h.good.2.1.wrd wBang_no).symm.trans hnb] at HW0
 unfold wBang sv at HW0
 have HTB := hide hTB
 clear hR hP0 hgt hnb hTB h hn Hp hd he
 go_enter Try.func48, Try.ntmps48
 go_wp2_with fail
 refine HW0.out.mono ?_
 rintro e w1 ⟨rfl, g1⟩
 have HS1 := hide (HST.out.grown g1)
 have HG1 := hide (gr_rb (rb := rb) g1)
 clear g1
 go_upto_if 9 with (fail)
 go_cut [] (fun wx => DIs wx rb T (.ok TB d) ∧ w.grownBy wx (some rb))
 case first =>
  cases nb with
  | false =>
   have HTx := hide (show ts = TB by rw [← HTB.out]; unfold takeT; rw [HNB.out]; rfl)
   go_wp2_with fail
   go_meet
   exact ⟨by rw [← HTx.out]; exact HS1.out, HG1.out⟩
  | true =>
   obtain ⟨t, r, hZ⟩ := HGD.out.1.ne
   have hTx : TB = r := by rw [← HTB.out]; unfold takeT; rw [HNB.out, hZ]; rfl
   obtain ⟨vt, a, fr, h, hdd, hd26⟩ := HS1.out
   obtain ⟨c0, c1, c2, c3, c4⟩ := h.cells
   have lb := h.lb
   have z1 := Blk.frozen h.blk 1
   have hal : (a : Int) ≤ 500 := by have := h.lt; have := h.tg.len; omega
   have HNX := hide (DIs.next h hdd hd26 hZ (is_k (hZ ▸ HNB.out)).1)
   have HTx := hide hTx
   clear h hdd hd26 hZ hTx
   go_wp2_with fail
   go_meet
   exact ⟨by rw [HTx.out]; exact HNX.out, only_setCell HG1.out (p := ⟨rb, 1, none⟩) (.inl rfl) _⟩
 case rest =>
  obtain ⟨hst, hgr⟩ := hcut
  have HS2 := hide hst
  have HG2 := hide hgr
  have HP0 := hide (HP.out wc TB hst (by have := HGT.out.2; have := HN.out; omega))
  rw [HPE.out] at HP0
  clear hst hgr
  go_wp2_with fail
  refine HP0.out.mono ?_
  intro e w3 hp3
  have hst : ∃ (v : Value) (st : DS), e = .returned v ∧ DIs w3 rb T st ∧ wc.grownBy w3 (some rb) ∧ (∃ x y z, v = .slice x y z) ∧ ((∃ f Z ms, st = .ok Z d ∧ (pipeL (cmd d) f (joinP [ms]).2 Z (joinP [ms]).1).bind (tailP nb) = R ∧ Z.length < f ∧ Z.length ≤ ts.length ∧ vNd w w3 ms v ∧ ms ≠ [] ∧ ms.length + 10 * Z.length ≤ 5000) ∨ (∃ a k, st = .er a k ∧ R = .bad a k)) := by
   cases hP : P0 with
   | ok x Z ms =>
    rw [hP] at hp3
    obtain ⟨v, h1, h2, h3, h4⟩ := hp3
    have hl := HD.out _ _ _ _ _ HGT.out.1 (HPE.out.trans hP)
    obtain ⟨l1, l2, l3, l4⟩ := hl.ne
    have hl5 := hl.len
    have h500 := HGD.out.2.2.2.1
    have h501 := HGT.out.2
    obtain ⟨a, c, ef⟩ := h2.form
    refine ⟨v, .ok Z d, h1, h3, h4, ⟨_, _, _, ef⟩, .inl ⟨Z.length + 1, Z, ms, rfl, ?_, by omega, by omega, h2.low HG2.out.size, l1, by omega⟩⟩
    rw [← HR.out, hP, joinP_one h2.2.1 l1, ← l2]
    rfl
   | bad a k =>
    rw [hP] at hp3
    obtain ⟨v, h1, h2, h3, h4⟩ := hp3
    exact ⟨v, .er a k, h1, h3, h4, h2, .inr ⟨a, k, rfl, by rw [← HR.out, hP]; rfl⟩⟩
  clear hp3
  obtain ⟨v, st, rfl, hst3, hg3, ⟨va, vn, vc, rfl⟩, hor⟩ := hst
  have HS3 := hide hst3
  have HG3 := hide (only_trans HG2.out hg3)
  have HO3 := hide hor
  clear hst3 hg3 hor HP0
  go_wp2_with fail
  go_loopg [4, 5] (ts.length + 1) (fun g v4 v5 wr => ∃ st : DS, (∃ x y z, v4 = .slice x y z) ∧ DIs wr rb T st ∧ w.grownBy wr (some rb) ∧ ((∃ f Z ps, st = .ok Z d ∧ (pipeL (cmd d) f (joinP ps).2 Z (joinP ps).1).bind (tailP nb) = R ∧ Z.length < f ∧ Z.length < g ∧ Z.length ≤ ts.length ∧ PtD w wr rb T (.ok Z d) v4 ps ∧ ps ≠ [] ∧ (∀ ms ∈ ps, ms ≠ []) ∧ sumL ps + 10 * Z.length ≤ 5000 ∧ ps.length + Z.length ≤ 600) ∨ (∃ a k, st = .er a k ∧ R = .bad a k)))
  case atStart =>
   refine ⟨st, ⟨_, _, _, rfl⟩, HS3.out.grown (only_alloc (only_refl w3 none) _), only_alloc HG3.out _, ?_⟩
   rcases HO3.out with ⟨f, Z, ms, e, h1, h2, h3, h4, h5, h6⟩ | ⟨a, k, e, h1⟩
   ·refine .inl ⟨f, Z, [ms], e, h1, h2, by omega, h3, PtD.first (e ▸ HS3.out) HG3.out HRB.out h4.1 h4.2.1 h4.2.2.2, by simp, ?_, by simpa [sumL] using h6, ?_⟩
    ·intro m hm
     rw [List.mem_singleton] at hm
     subst hm
     exact h5
    ·have := HGD.out.2.2.2.1
     simp only [List.length_singleton]
     omega
   ·exact .inr ⟨a, k, e, h1⟩
  case round =>
   obtain ⟨st, ⟨x, y, z, hv⟩, hst, hgr, hor⟩ := hrel
   have HG := hide hgr
   have HST := hide hst
   rcases hor with ⟨f, Z, ps, rfl, hR, hf, hg, hZn, hpt, hne, hnem, hfew, hlen⟩ | ⟨a, k, rfl, hR⟩
   ·have HRr := hide hR
    have HPT := hide hpt
    have HNE := hide (And.intro hne hnem)
    have HF := hide (And.intro hf (And.intro hg (And.intro hZn (And.intro hfew hlen))))
    have HZG := hide hst.good.1
    have HWL := hide hst.good.2.1
    obtain ⟨a4, c4, e4⟩ := hpt.form
    subst e4
    clear hv
    obtain ⟨f, rfl⟩ : ∃ f', f = f' + 1 := ⟨f - 1, by omega⟩
    obtain ⟨bb, hbb⟩ : ∃ b, sgnB Z sBar = b := ⟨_, rfl⟩
    have HSb := hide (HS.out wr Z sBar hst)
    rw [hbb] at HSb
    have HBB := hide (show isB Z sBar = bb from (HWL.out.sgn sAnd_in.2.2.2.2.2.1).trans hbb)
    unfold sBar sv at HSb
    obtain ⟨vt, a, fr, h, hdd, hd26⟩ := hst
    obtain ⟨c0, c1, c2, c3, cc4⟩ := h.cells
    have lb := h.lb
    have hpl : ps.length ≤ 600 := by omega
    clear h hdd hd26 hbb hR hf hg hZn hpt hne hnem hfew hlen hgr
    go_wp2_with fail
    refine HSb.out.mono ?_
    rintro e w2 ⟨rfl, g2⟩
    have HPT2 := hide (HPT.out.grown g2)
    clear g2 c0 c1 c2 c3 cc4 lb
    cases bb with
    | true =>
     obtain ⟨hgt2, htl⟩ := is_tail HZG.out HBB.out
     obtain ⟨t, r, hZ⟩ := HZG.out.ne
     have htk : t.k ≠ 4 := (is_k (hZ ▸ HBB.out)).1
     have hrt : Z.tail = r := by rw [hZ]; rfl
     rw [hrt] at hgt2 htl
     obtain ⟨vt, a, fr, h, hdd, hd26⟩ := HPT2.out.st
     obtain ⟨c0, c1, c2, c3, cc4⟩ := h.cells
     have lb := h.lb
     have z1 := Blk.frozen h.blk 1
     have hal : (a : Int) ≤ 500 := by have := h.lt; have := h.tg.len; omega
     have HNX := hide (DIs.next h hdd hd26 hZ htk)
     have HBG := hide (breaks_good hgt2)
     have HTL := hide htl
     have HRx := hide (show R = ((cmd d (breaksF r) (joinP ps).1).bind fun y ts2 ns2 => pipeL (cmd d) f ((joinP ps).2 ++ [y]) ts2 ns2).bind (tailP nb) by
      rw [← HRr.out, pipeL, if_pos HBB.out, hrt])
     clear h hdd hd26 hgt2 htl hZ htk hrt
     go_upto_region 9 with (fail)
     have hg4 := only_setCell (only_refl w2 (some rb)) (p := ⟨rb, 1, none⟩) (.inl rfl) (.int .i64 ((a : Int) + 1))
     have HPT4 := hide (HPT2.out.step hg4 HNX.out)
     generalize w2.setCell ⟨rb, 1, none⟩ (.int .i64 ((a : Int) + 1)) = W4 at HPT4 ⊢
     clear hg4 c0 c1 c2 c3 cc4 lb z1 hal
     have HBk := hide (HB.out W4 r HPT4.out.st)
     go_wp2_with fail
     refine HBk.out.mono ?_
     rintro e w5 ⟨rfl, h5, g5⟩
     have HPT5 := hide (HPT4.out.step g5 h5)
     have HP5 := hide (HP.out w5 (breaksF r) h5 (by have := HBG.out.2; have := HTL.out; have := HF.out; have := HN.out; omega))
     clear h5 g5
     obtain ⟨PQ, hpq⟩ : ∃ P, cmd d (breaksF r) [] = P := ⟨_, rfl⟩
     rw [hpq] at HP5
     have HPQ := hide hpq
     have HRy := hide (show R = ((PQ.mv (joinP ps).1 (kdS (joinP ps).1.length)).bind fun y ts2 ns2 => pipeL (cmd d) f ((joinP ps).2 ++ [y]) ts2 ns2).bind (tailP nb) by rw [HRx.out, eqv_at HE.out, hpq])
     clear hpq
     go_wp2_with fail
     refine HP5.out.mono ?_
     cases PQ with
     | bad ea ek =>
      rintro e w6 ⟨v, rfl, ⟨v1, v2, v3, rfl⟩, h6, g6⟩
      obtain ⟨cs, q1, q2⟩ := HPT5.out.parts.drb g6 HPT5.out.st.hasT
      have HQ1 := hide q1
      have HS6 := hide h6
      have HG6 := hide (only_trans HPT5.out.gr g6)
      have HR7 := hide (show R = .bad ea ek from HRy.out)
      clear h6 g6 q1 q2
      go_wp2_with (at_builtin; refine wpList_appAt 23 (.slice none 0 0) 1 24 Try.underlying63 infoNds rfl (.slice a4 ps.length c4) ps.length cs 0 _ 1 [.slice v1 v2 v3] rfl rfl (Own.alloc HQ1.out _) (by omega) (srcPn _ _ v1 v2 v3 rfl) (by unfold maxLen; omega) (by omega) ?_; intro vA wA ho hc hn2 _; (have HSA := hide ((HS6.out.grown (only_alloc (only_refl _ none) _)).chg hc (fun k e => by have := HPT5.out.new k e; have := HRB.out; omega))); (have HGA := hide (gr_app HG6.out _ hc HPT5.out.new)); (obtain ⟨aA, cA, rfl, _, _⟩ := Own.form ho); clear ho hc hn2)
      go_roundg (gk - 1)
      case rel => exact ⟨.er ea ek, ⟨_, _, _, rfl⟩, HSA.out, HGA.out, .inr ⟨ea, ek, rfl, HR7.out⟩⟩
      case measure => have := HF.out; omega
     | ok yy Z2 ms2 =>
      rintro e w6 ⟨v, rfl, hv2, h6, g6⟩
      obtain ⟨v1, v2, rfl⟩ := hv2.form
      have hl := HD.out _ _ _ _ _ HBG.out.1 HPQ.out
      obtain ⟨l1, l2, l3, l4⟩ := hl.ne
      have HL := hide (And.intro l1 (And.intro l2 (And.intro l3 (And.intro l4 hl.len))))
      have HPT6 := hide (HPT5.out.step g6 h6)
      have HNE6 := hide (hv2.low HPT5.out.gr.size)
      have HFW := hide (show sumL ps + ms2.length + 10 * Z2.length ≤ 5000 ∧ ps.length + 1 + Z2.length ≤ 600 by have := HBG.out.2; have := HTL.out; have := HF.out; have := hl.len; omega)
      clear h6 g6 hl l1 l2 l3 l4 hv2
      obtain ⟨cs, q1, q2⟩ := HPT6.out.parts
      have HQ1 := hide q1
      have HQ2 := hide q2
      clear q1 q2
      have HR7 := hide (show (pipeL (cmd d) f (joinP (ps ++ [ms2])).2 Z2 (joinP (ps ++ [ms2])).1).bind (tailP nb) = R by
       rw [HRy.out, joinP_step HL.out.1]
       show _ = (pipeL (cmd d) f ((joinP ps).2 ++ [kdS (joinP ps).1.length yy]) Z2 (shN (joinP ps).1 ms2)).bind (tailP nb)
       have hy : kdS (joinP ps).1.length yy = (((joinP ps).1.length + ms2.length : Nat) : Int) - 1 := by
        have h1 := HL.out.2.1
        have h2 := HL.out.2.2.1
        rw [kdS_add _ _ (by omega), h1]
        omega
       rw [hy])
      go_wp2_with (at_builtin; refine wpList_appAt 23 (.slice none 0 0) 1 24 Try.underlying63 infoNds rfl (.slice a4 ps.length c4) ps.length cs 0 _ 1 [.slice v1 ms2.length v2] rfl rfl (Own.alloc HQ1.out _) (by omega) (srcPn _ _ v1 ms2.length v2 rfl) (by unfold maxLen; omega) (by omega) ?_; intro vA wA ho hc hn2 _; (have HPA := hide (PtD.app HPT6.out HQ1.out HQ2.out _ HNE6.out.1 HNE6.out.2.1 HNE6.out.2.2.2 ho hc hn2)); (obtain ⟨aA, cA, rfl, _, _⟩ := Own.form ho); clear ho hc hn2)
      go_roundg (gk - 1)
      case rel => exact ⟨.ok Z2 d, ⟨_, _, _, rfl⟩, HPA.out.st, HPA.out.gr, .inl ⟨f, Z2, ps ++ [ms2], rfl, HR7.out, by have := HL.out.2.2.2.2; have := HBG.out.2; have := HTL.out; have := HF.out; omega, by have := HL.out.2.2.2.2; have := HBG.out.2; have := HTL.out; have := HF.out; omega, by have := HL.out.2.2.2.2; have := HBG.out.2; have := HTL.out; have := HF.out; omega, HPA.out, by simp, by intro m hm; rw [List.mem_append, List.mem_singleton] at hm; rcases hm with hm | rfl; exact HNE.out.2 m hm; exact HL.out.1, by rw [sumL_snoc]; exact HFW.out.1, by rw [List.length_append, List.length_singleton]; exact HFW.out.2⟩⟩
      case measure => have := HF.out; omega
    | false =>
     have hRT : R = tailP nb (joinP ps).2 Z (joinP ps).1 := by rw [← HRr.out, pipeL, if_neg (by rw [HBB.out]; decide)]; rfl
     rw [tailP_eq HPT2.out.kb HNE.out.2 HNE.out.1] at hRT
     have HRT := hide hRT
     obtain ⟨vt, a, fr, h, hdd, hd26⟩ := HPT2.out.st
     obtain ⟨c0, c1, c2, c3, cc4⟩ := h.cells
     have lb := h.lb
     have hp0 : 0 < ps.length := List.length_pos_iff.2 HNE.out.1
     obtain ⟨gp, op, cp, am, cm, e1, hgp, u0, hM⟩ := HPT2.out.parts.at_ 0 hp0
     injection e1 with e1 _ e2
     subst e1 e2
     rw [Nat.add_zero] at u0
     have hib : (0 : Int) < (ps.length : Int) := by omega
     have HM := hide hM
     have HH := hide (show ps.headD [] = ps[0] by cases ps with | nil => simp at hp0 | cons p ps => rfl)
     have HKB0 := hide (HPT2.out.kb _ (List.getElem_mem hp0))
     obtain ⟨m0, hm0⟩ : ∃ m, ps[0] = m := ⟨_, rfl⟩
     rw [hm0] at u0 HM HH HKB0
     have HXL := hide (show (pipeX ps).length ≤ 5001 ∧ KB (pipeX ps) by
      have h1 := HF.out.2.2.2.1
      unfold pipeX
      split
      ·exact ⟨by rw [joinR_len]; omega, joinR_kb HPT2.out.kb (by omega) rfl⟩
      ·rw [HH.out]
       refine ⟨?_, HKB0.out⟩
       have := sumL_take ps 0 hp0
       rw [hm0] at this
       omega)
     clear h hdd hd26 hRT hM hm0
     go_upto_if 53 with (fail)
     go_cut [6] (fun v6 wx => vNd w wx (pipeX ps) v6 ∧ DIs wx rb T (.ok Z d) ∧ w.grownBy wx (some rb))
     case first =>
      by_cases h1 : 1 < ps.length
      ·have q1 : decide ((1 : Int) < (ps.length : Int)) = true := decide_eq_true (by omega)
       have HJ3 := hide (HJ.out ps { kind := 3 } _ _ HPT2.out.gr.size HPT2.out.parts.S (nd0_at 3) rfl HPT2.out.kb (by have := HF.out.2.2.2.1; omega) (by omega))
       unfold JPost ndCells sv at HJ3
       simp only [] at HJ3
       have HXE := hide (show pipeX ps = joinR ps { kind := 3 } from if_pos h1)
       go_wp2_with fail
       refine HJ3.out.mono ?_
       rintro e w7 ⟨v, rfl, hn7, hnw7, g7⟩
       obtain ⟨u1, u2, rfl, _⟩ := hn7.form
       have HN7 := hide hn7
       have HNW := hide (fun g hg => Nat.le_trans HPT2.out.gr.size (hnw7 g hg))
       have HP7 := hide (HPT2.out.grown g7)
       clear hn7 hnw7 g7
       go_wp2_with fail
       go_meet
       exact ⟨⟨by rw [HXE.out]; exact HN7.out, HXL.out.2, by have := HXL.out.1; omega, HNW.out⟩, HP7.out.st, HP7.out.gr⟩
      ·have q1 : decide ((1 : Int) < (ps.length : Int)) = false := decide_eq_false (by omega)
       have HXE := hide (show pipeX ps = m0 by unfold pipeX; rw [if_neg h1, HH.out])
       go_wp2_with fail
       go_meet
       exact ⟨⟨by rw [HXE.out]; exact HM.out.1, HXL.out.2, by have := HXL.out.1; omega, HM.out.2⟩, HPT2.out.st, HPT2.out.gr⟩
     case rest =>
      obtain ⟨hv6, hst6, hg6⟩ := hcut
      obtain ⟨u1, u2, rfl⟩ := hv6.form
      have HV6 := hide hv6
      have HS6 := hide hst6
      have HG6 := hide hg6
      clear hv6 hst6 hg6 c0 c1 c2 c3 cc4 lb u0 hgp hib
      have HXN := hide (show pipeX ps ≠ [] by
       unfold pipeX
       split
       ·intro e
        have := congrArg List.length e
        rw [joinR_len] at this
        simp at this
       ·rw [HH.out]
        exact HNE.out.2 m0 (by rw [← HH.out]; cases ps with | nil => simp at hp0 | cons p ps => exact List.mem_cons_self ..))
      cases nb with
      | false =>
       have HRU := hide (show R = .ok (((pipeX ps).length : Int) - 1) Z (pipeX ps) from HRT.out)
       go_wp2_with fail
       rw [HRU.out]
       go_ret
       exact ⟨_, rfl, HV6.out, HS6.out, HG6.out⟩
      | true =>
       have HRU := hide (show R = .ok (pipeX ps).length Z (pipeX ps ++ [{ kind := 2, kids := [((pipeX ps).length : Int) - 1] }]) from HRT.out)
       have HJ2 := hide (HJ.out [pipeX ps] { kind := 2 } _ _ (by rw [World.size_alloc]; have := HG6.out.size; omega) (parts1 HV6.out.1) (nd0_at 2) rfl (by intro q hq; rw [List.mem_singleton] at hq; subst hq; exact HV6.out.2.1) (by show _ + 0 ≤ _; have := HXL.out.1; omega) (by show 1 ≤ 1000; omega))
       have HJE := hide (joinR_one HV6.out.2.1 HXN.out 2)
       have HJK := hide (joinR_kb (ps := [pipeX ps]) (n := { kind := 2 }) (by intro q hq; rw [List.mem_singleton] at hq; subst hq; exact HV6.out.2.1) (by show 1 ≤ 1000; omega) rfl)
       unfold JPost ndCells sv at HJ2
       simp only [] at HJ2
       go_wp2_with fail
       refine HJ2.out.mono ?_
       rintro e w7 ⟨v, rfl, hn7, hnw7, g7⟩
       obtain ⟨y1, y2, rfl, _⟩ := hn7.form
       have HN7 := hide hn7
       have HNW := hide (fun g hg => Nat.le_trans (Nat.le_trans HG6.out.size (by rw [World.size_alloc]; omega)) (hnw7 g hg))
       have hg7 := none_trans (only_alloc (only_refl _ none) _) g7
       have HS7 := hide (HS6.out.grown hg7)
       have HG7 := hide (only_trans HG6.out (gr_rb hg7))
       clear hn7 hnw7 g7 hg7
       go_wp2_with fail
       rw [HRU.out, ← HJE.out]
       go_ret
       exact ⟨_, rfl, ⟨HN7.out, HJK.out, by rw [joinR_len]; show _ + 0 + 1 ≤ _; have := HXL.out.1; omega, HNW.out⟩, HS7.out, HG7.out⟩
   ·have HRr := hide hR
    subst hv
    obtain ⟨vt, i, dd, h, hk0⟩ := hst
    obtain ⟨c0, c1, c2, c3, c4⟩ := h.cells
    have lb := h.lb
    have qk : (k == 0) = false := beq_eq_false_iff_ne.2 hk0
    have qk2 : (k != 0) = true := bne_iff_ne.2 hk0
    clear h hk0 hR hgr
    go_wp2_with fail
    rw [HRr.out]
    go_ret
    exact ⟨_, rfl, rfl, HST.out, HG.out⟩
end Go.Proofs.Ytgpfjcogaheopaa

end
