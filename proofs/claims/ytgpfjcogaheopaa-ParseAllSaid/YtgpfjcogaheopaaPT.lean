/- What stands behind a case. -/
import Derived.Test.YtgpfjcogaheopaaPS
import Derived.Deep.LoopGhost
import Derived.Deep.CutBlock
import Derived.Deep.DeepCutAuto
set_option linter.all false
namespace Go.Proofs.Ytgpfjcogaheopaa
open Go.RowKit Lx
set_option maxRecDepth 100000
def caseN (s : List UInt8) (P : List (List (List UInt8))) (K : List Int) : Nd := { kind := 14, words := [s], pats := P, kids := K }
def caseFin (n : Nd) (ts : List Tok) (ns : List Nd) : PR Nd := (needR wEsac ts ns).bind fun _ ts ns => .ok n ts ns
def caseV (lst : Rdr) (f : Nat) (n : Nd) (ts : List Tok) (ns : List Nd) : PR Nd := if isB ts sSemi2 = true then caseL lst f n (breaksF ts.tail) ns else .ok n ts ns
def caseU (lst : Rdr) (f : Nat) (s : List UInt8) (P : List (List (List UInt8))) (K : List Int) (pats : List (List UInt8)) (ts : List Tok) (ns : List Nd) : PR Nd := (if beginsB ts = true then lst ts ns else .ok (-1) ts ns).bind fun body ts ns => caseV lst f (caseN s (P ++ [pats]) (K ++ [body])) ts ns
def caseT (lst : Rdr) (f : Nat) (s : List UInt8) (P : List (List (List UInt8))) (K : List Int) (pats : List (List UInt8)) (ts : List Tok) (ns : List Nd) : PR Nd := (needR sRap ts ns).bind fun _ ts ns => caseU lst f s P K pats (breaksF ts) ns
theorem caseL_eq (lst : Rdr) (f : Nat) (s : List UInt8) (P : List (List (List UInt8))) (K : List Int) (ts : List Tok) (ns : List Nd) : caseL lst (f + 1) (caseN s P K) ts ns = if wrdB ts wEsac = true then .ok (caseN s P K) ts ns else
  (anyR (if sgnB ts sPar = true then ts.tail else ts) ns).bind fun x ts ns => (patsL (ts.length + 1) [x] ts ns).bind fun pats ts ns => caseT lst f s P K pats ts ns := rfl
theorem caseF_eq (lst : Rdr) (ts : List Tok) (ns : List Nd) : caseF lst ts ns = (anyR ts ns).bind fun s ts ns => (needR wIn (breaksF ts) ns).bind fun _ ts ns => (caseL lst (ts.length + 1) (caseN s [] []) (breaksF ts) ns).bind caseFin := rfl
section
variable {av : Nat → Prop} {base : Nat → Prop} {rb d A B : Nat} {w W : World} {vw vp vk : Value} {T : List Tok} {ns : List Nd} {s : List UInt8} {P : List (List (List UInt8))} {K : List Int}
theorem RIs.put8 (h : RIs av base W rb T ns d) (hA : ¬ base A) (hb : Blk W A 33 #[.int .i64 0, .string ⟨#[]⟩, .bool false, .slice none 0 0, .slice none 0 0, .slice none 0 0, .slice none 0 0, .slice none 0 0]) (c0 c1 c2 c3 c4 c5 c6 c7 : Value) : RIs av base (put8 W A c0 c1 c2 c3 c4 c5 c6 c7) rb T ns d := by
 have b0 := Blk.set_ hb 0 c0
 have b1 := Blk.set_ b0 1 c1
 have b2 := Blk.set_ b1 2 c2
 have b3 := Blk.set_ b2 3 c3
 have b4 := Blk.set_ b3 4 c4
 have b5 := Blk.set_ b4 5 c5
 have b6 := Blk.set_ b5 6 c6
 exact (((((((h.farB hA hb.hasT 0 c0).farB hA b0.hasT 1 c1).farB hA b1.hasT 2 c2).farB hA b2.hasT 3 c3).farB hA b3.hasT 4 c4).farB hA b4.hasT 5 c5).farB hA b5.hasT 6 c6).farB hA b6.hasT 7 c7
theorem CaseAt.fin8 (h : CaseAt av base w W rb T ns d A B s P K vw vp vk) (hav : ∀ k, av k → k < w.heap.size) :
  NdAt av (put8 W A (.int .i64 14) (.string ⟨#[]⟩) (.bool false) (.slice none 0 0) vw (.slice none 0 0) vp vk) (.slice none 0 0) vw (.slice none 0 0) vp vk (caseN s P K) ∧ RIs av base (put8 W A (.int .i64 14) (.string ⟨#[]⟩) (.bool false) (.slice none 0 0) vw (.slice none 0 0) vp vk) rb T ns d ∧
  Blk (put8 W A (.int .i64 14) (.string ⟨#[]⟩) (.bool false) (.slice none 0 0) vw (.slice none 0 0) vp vk) A 33 #[.int .i64 14, .string ⟨#[]⟩, .bool false, .slice none 0 0, vw, .slice none 0 0, vp, vk] ∧ Fr base w (put8 W A (.int .i64 14) (.string ⟨#[]⟩) (.bool false) (.slice none 0 0) vw (.slice none 0 0) vp vk) := by
 have hc := put8_chg W A (.int .i64 14) (.string ⟨#[]⟩) (.bool false) (.slice none 0 0) vw (.slice none 0 0) vp vk
 have hk : ∀ {e : TypeId} {u : Value} {n : Nat} {xs : List Value}, e ≠ 33 → Own W e 1 u n xs 0 → Own (Go.Proofs.Ytgpfjcogaheopaa.put8 W A (.int .i64 14) (.string ⟨#[]⟩) (.bool false) (.slice none 0 0) vw (.slice none 0 0) vp vk) e 1 u n xs 0 := fun {e u n xs} he ho => Own.chg ho hc (fun g hg e' => he ((Own.hasT ho hg).uniq (e' ▸ h.res.hasT)))
 refine ⟨⟨Own.nil _ _ _ _, hk (by decide) h.words, Own.nil _ _ _ _, ?_, hk (by decide) h.kids, fun k hk => (by cases hk), fun k hk e => by have := h.nw k hk; have := hav k e; omega, fun k hk => (by cases hk), fun k hk e => by have := h.nk k hk; have := hav k e; omega⟩, ?_, Blk.set_ (Blk.set_ (Blk.set_ (Blk.set_ (Blk.set_ (Blk.set_ (Blk.set_ (Blk.set_ h.res 0 _) 1 _) 2 _) 3 _) 4 _) 5 _) 6 _) 7 _, ?_⟩
 ·obtain ⟨cs, h1, h2, h3⟩ := h.pats
  exact ⟨cs, hk (by decide) h1, h2, fun i hi => by obtain ⟨u, q1, q2, q3⟩ := h3 i hi; exact ⟨u, q1, hk (by decide) q2, q3⟩⟩
 ·exact ((h.r.mono (fun k hk => .inl hk)).put8 (fun e => e.1.2 rfl) h.res _ _ _ _ _ _ _ _).unbox.unbox
 ·exact Chg.trans h.fr hc fun i hi e => absurd h.hA (by subst e; omega)
end
set_option maxHeartbeats 16000000 in
theorem cases_ok (n : Nat) (lst : Drd) (hd : DecD 2 lst) (Hp : Okc 23 lst n) (av : Nat → Prop) (base : Nat → Prop) (rb d : Nat) (ts : List Tok) (ns : List Nd) (w : World) (hav : ∀ k, av k → k < w.heap.size) (h : RIs av base w rb ts ns d) (hn : ts.length ≤ n) :
  Calls Try.prog 95 #[.pointer (some ⟨rb, 0, none⟩)] w (GPost (vNode av) av base w rb d (caseF (lst d) ts ns)) := by
 have HAV := hide hav
 have HD := hide (hd d)
 have HC := hide (fun av base w ts ns a b c => Hp av base rb d ts ns w a b c)
 have HNE := hide (fun av base w s tt ns (h : RIs av base w rb tt ns d) => need_g s h)
 have HT := hide (fun av base w s tt ns (h : RIs av base w rb tt ns d) => take_g s h)
 have HBR := hide (fun av base w tt ns (h : RIs av base w rb tt ns d) => breaks_g h)
 have HANY := hide (fun av base w tt ns (h : RIs av base w rb tt ns d) => any_g h)
 have HSG := hide (fun av base w s tt ns (h : RIs av base w rb tt ns d) => sign_g s h)
 have HWD := hide (fun av base w s tt ns (h : RIs av base w rb tt ns d) => word_g s h)
 have HNX := hide (fun av base w t r ns (h : RIs av base w rb (t :: r) ns d) hk => next_g h hk)
 have HBE := hide (fun av base w ts ns (h : RIs av base w rb ts ns d) => begins_any av base rb d ts ns w h)
 unfold GPost vBool sv at HT
 unfold sv at HNE HSG HWD
 unfold GPost vUnit at HBR
 unfold GPost vTok tokV sv at HNX
 have HLN := hide (And.intro hn h.few)
 have HGD := hide h.good
 have HH := hide h
 rw [caseF_eq]
 obtain ⟨R, hR⟩ : ∃ R, ((anyR ts ns).bind fun s ts ns => (needR wIn (breaksF ts) ns).bind fun _ ts ns => (caseL (lst d) (ts.length + 1) (caseN s [] []) (breaksF ts) ns).bind caseFin) = R := ⟨_, rfl⟩
 have HR := hide hR.symm
 rw [hR]
 obtain ⟨A, hA⟩ : ∃ A, w.heap.size = A := ⟨_, rfl⟩
 have HA0 := hide hA
 have HQ0 := hide (HANY.out av (Bx base A) (w.alloc (.cells #[.int .i64 0, .string ⟨#[]⟩, .bool false, .slice none 0 0, .slice none 0 0, .slice none 0 0, .slice none 0 0, .slice none 0 0] 33)) ts ns (RIs.box h _ hA))
 obtain ⟨PQ, hpq⟩ : ∃ PQ, anyR ts ns = PQ := ⟨_, rfl⟩
 rw [hpq] at HQ0
 have HPQ := hide hpq
 have HRS0 := hide (show Blk (w.alloc (.cells #[.int .i64 0, .string ⟨#[]⟩, .bool false, .slice none 0 0, .slice none 0 0, .slice none 0 0, .slice none 0 0, .slice none 0 0] 33)) A 33 #[.int .i64 0, .string ⟨#[]⟩, .bool false, .slice none 0 0, .slice none 0 0, .slice none 0 0, .slice none 0 0, .slice none 0 0] by rw [← hA]; exact Blk.new w 33 _)
 unfold GPost vStr sv at HQ0
 clear hR hpq h hav hn Hp hd
 go_enter Try.func95, Try.ntmps95
 go_wp2_with fail
 refine HQ0.out.mono ?_
 cases PQ with
 | bad a e =>
  rintro e wc ⟨rfl, hfc⟩
  refine post_panicP rfl ?_
  rw [HR.out, HPQ.out]
  exact (⟨rfl, ((Fr.refl base w).alloc _).trans hfc.unbox⟩ : _ ∧ _)
 | ok s T1 n1 =>
  obtain ⟨hg1, hl1, rfl, _⟩ := any_ok HGD.out HPQ.out
  have HR1 := hide (show R = (needR wIn (breaksF T1) n1).bind fun _ ts ns => (caseL (lst d) (ts.length + 1) (caseN s [] []) (breaksF ts) ns).bind caseFin by rw [HR.out, HPQ.out]; rfl)
  rintro e w1 ⟨v, rfl, rfl, hr1, hf1⟩
  obtain ⟨bs, hbs⟩ : ∃ bs, w1.heap.size = bs := ⟨_, rfl⟩
  obtain ⟨B, hB⟩ : ∃ B, (w1.alloc (.cells #[.string ⟨s.toArray⟩] 9)).heap.size = B := ⟨_, rfl⟩
  have K2 : Hid (CaseAt av base w ((w1.alloc (.cells #[.string ⟨s.toArray⟩] 9)).alloc (.cells #[.int .i64 14, .string ⟨#[]⟩, .bool false, .slice none 0 0, .slice (some ⟨bs, 0, none⟩) 1 1, .slice none 0 0, .slice none 0 0, .slice none 0 0] 33)) rb T1 n1 d A B s [] [] (.slice (some ⟨bs, 0, none⟩) 1 1) (.slice none 0 0) (.slice none 0 0)) := hide (by
   have hs0 : (w.alloc (.cells #[.int .i64 0, .string ⟨#[]⟩, .bool false, .slice none 0 0, .slice none 0 0, .slice none 0 0, .slice none 0 0, .slice none 0 0] 33)).heap.size = w.heap.size + 1 := World.size_alloc _ _
   have hs1 := hf1.size
   have hs2 : (w1.alloc (.cells #[.string ⟨s.toArray⟩] 9)).heap.size = w1.heap.size + 1 := World.size_alloc _ _
   have hA := HA0.out
   refine ⟨((hr1.grown (only_alloc (only_refl w1 none) _)).box _ hB).mono ?_, ?_, ?_, by omega, by omega, by omega, ?_, fun k hk => ?_, ⟨[], Own.nil _ _ _ _, fun b hb => (by cases hb), fun i hi => absurd hi (by simp)⟩, fun k hk => (by cases hk), Own.nil _ _ _ _, fun k hk => (by cases hk), ((((Fr.refl base w).alloc _).trans hf1.unbox).alloc _).alloc _⟩
   ·intro k hk
    rcases hk with hk | hk | hk
    ·exact hk
    ·cases hk
    ·cases hk
   ·have hbn := Blk.new (w1.alloc (.cells #[.string ⟨s.toArray⟩] 9)) 33 #[.int .i64 14, .string ⟨#[]⟩, .bool false, .slice none 0 0, .slice (some ⟨bs, 0, none⟩) 1 1, .slice none 0 0, .slice none 0 0, .slice none 0 0]
    rw [hB] at hbn
    exact hbn
   ·exact ((hf1.keep HRS0.out).alloc _).alloc _
   ·have h9 : StrS (w1.alloc (.cells #[.string ⟨s.toArray⟩] 9)) (.slice (some ⟨bs, 0, none⟩) 1 1) [s] := by
     rw [← hbs]
     exact (SdAt.first (av := av) hr1 (Fr.refl _ w1) s).own
    exact Own.alloc h9 _
   ·simp [Value.ownBlock] at hk
    omega)
  have HL1 := hide (And.intro hg1 hl1)
  clear hr1 hf1 hg1 hl1
  go_upto_region 2 with (fail)
  (try simp only [hbs, hB, hA])
  obtain ⟨W2, hW2⟩ : ∃ W2, (w1.alloc (.cells #[.string ⟨s.toArray⟩] 9)).alloc (.cells #[.int .i64 14, .string ⟨#[]⟩, .bool false, .slice none 0 0, .slice (some ⟨bs, 0, none⟩) 1 1, .slice none 0 0, .slice none 0 0, .slice none 0 0] 33) = W2 := ⟨_, rfl⟩
  rw [hW2] at K2 ⊢
  clear hW2 hbs hB hA
  -- breaks
  have HQ2 := hide (HBR.out _ _ _ _ _ K2.out.r)
  have hbk := breaks_good HL1.out.1
  obtain ⟨T2, hT2⟩ : ∃ T2, breaksF T1 = T2 := ⟨_, rfl⟩
  rw [hT2] at HQ2 hbk HR1
  have HL2 := hide (show Good T2 ∧ T2.length + 1 ≤ ts.length from ⟨hbk.1, by have := HL1.out.2; omega⟩)
  clear hbk hT2
  go_wp2_with fail
  refine HQ2.out.mono ?_
  rintro e w3 ⟨v, rfl, rfl, hr3, hf3⟩
  have K3 := hide (K2.out.step hr3 hf3)
  clear hr3 hf3
  -- need in
  have HQ3 := hide (HNE.out _ _ _ wIn _ _ K3.out.r)
  obtain ⟨b3, hb3⟩ : ∃ b3, isB T2 wIn = b3 := ⟨_, rfl⟩
  have HB3 := hide hb3
  unfold needR at HQ3
  rw [hb3] at HQ3
  unfold wIn GPost vUnit at HQ3
  clear hb3
  go_wp2_with fail
  refine HQ3.out.mono ?_
  cases b3 with
  | false =>
   obtain ⟨tz, rz, hz⟩ := HL2.out.1.ne
   have HRZ := hide (show R = wrongR T2 by rw [HR1.out, need_no HB3.out]; rw [hz]; rfl)
   rw [hz] at HRZ ⊢
   rintro e wc ⟨rfl, hfc⟩
   refine post_panicP rfl ?_
   rw [HRZ.out]
   exact (⟨rfl, K3.out.fr.trans hfc.unbox.unbox⟩ : _ ∧ _)
  | true =>
   obtain ⟨hg4, hl4⟩ := is_tail HL2.out.1 HB3.out
   have HR4 := hide (show R = (caseL (lst d) (T2.tail.length + 1) (caseN s [] []) (breaksF T2.tail) n1).bind caseFin by rw [HR1.out, need_yes HB3.out]; rfl)
   rintro e w4 ⟨v, rfl, rfl, hr4, hf4⟩
   have K4 := hide (K3.out.step hr4 hf4)
   have HQ4 := hide (HBR.out _ _ _ _ _ K4.out.r)
   have hbk := breaks_good hg4
   obtain ⟨T4, hT4⟩ : ∃ T4, breaksF T2.tail = T4 := ⟨_, rfl⟩
   rw [hT4] at HQ4 hbk HR4
   have HL4 := hide (show T4.length + 2 ≤ ts.length ∧ T4.length < T2.tail.length + 1 by have := HL2.out.2; omega)
   clear hr4 hf4 hg4 hl4 hbk hT4
   go_wp2_with fail
   refine HQ4.out.mono ?_
   rintro e w5 ⟨v, rfl, rfl, hr5, hf5⟩
   have K5 := hide (K4.out.step hr5 hf5)
   clear hr5 hf5
   go_upto_block 0 with (fail)
   go_cut [] (fun wx => ∃ (P : List (List (List UInt8))) (K : List Int) (T : List Tok) (ns2 : List Nd) (vp vk : Value), R = caseFin (caseN s P K) T ns2 ∧ CaseAt av base w wx rb T ns2 d A B s P K (.slice (some ⟨bs, 0, none⟩) 1 1) vp vk)
   case rest =>
    obtain ⟨P, K, T, ns2, vp, vk, hRx, hK⟩ := hcut
    have HRx := hide hRx
    have K6 := hide hK
    obtain ⟨k1, k3, rfl, _, _⟩ := Own.form hK.kids
    obtain ⟨cs, hcs, _, _⟩ := hK.pats
    obtain ⟨p1, p3, rfl, _, _⟩ := Own.form hcs
    clear hRx hK hcs
    have HQ7 := hide (HNE.out _ _ _ wEsac _ _ K6.out.r)
    obtain ⟨b7, hb7⟩ : ∃ b7, isB T wEsac = b7 := ⟨_, rfl⟩
    have HB7 := hide hb7
    unfold needR at HQ7
    rw [hb7] at HQ7
    unfold wEsac GPost vUnit at HQ7
    unfold caseFin at HRx
    clear hb7
    go_wp2_with fail
    refine HQ7.out.mono ?_
    cases b7 with
    | false =>
     obtain ⟨tz, rz, hz⟩ := K6.out.r.good.ne
     have HRZ := hide (show R = wrongR T by rw [HRx.out, need_no HB7.out]; rw [hz]; rfl)
     rw [hz] at HRZ ⊢
     rintro e wc ⟨rfl, hfc⟩
     refine post_panicP rfl ?_
     rw [HRZ.out]
     exact (⟨rfl, K6.out.fr.trans hfc.unbox.unbox⟩ : _ ∧ _)
    | true =>
     have HRZ := hide (show R = .ok (caseN s P K) T.tail ns2 by rw [HRx.out, need_yes HB7.out]; rfl)
     rintro e wd ⟨v, rfl, rfl, hrd, hfd⟩
     have KD := hide (K6.out.step hrd hfd)
     clear hrd hfd
     obtain ⟨x0, x1, x2, x3, x4, x5, x6, x7, lB⟩ := box8 KD.out.box
     obtain ⟨y0, y1, y2, y3, y4, y5, y6, y7, lA⟩ := box8 KD.out.res
     have zA := Blk.frozen KD.out.res 0
     have zA1 := Blk.frozen KD.out.res 1
     have zA2 := Blk.frozen KD.out.res 2
     have zA3 := Blk.frozen KD.out.res 3
     have zA4 := Blk.frozen KD.out.res 4
     have zA5 := Blk.frozen KD.out.res 5
     have zA6 := Blk.frozen KD.out.res 6
     have zA7 := Blk.frozen KD.out.res 7
     have HZ8 := hide (CaseAt.fin8 KD.out HAV.out)
     go_wp2_with fail
     rw [HRZ.out]
     obtain ⟨hz1, hz2, hz3, hz4⟩ := HZ8.out
     unfold put8 at hz1 hz2 hz3 hz4
     generalize ((((((((wd.setCell ⟨A, 0, none⟩ (.int .i64 14)).setCell ⟨A, 1, none⟩ (.string ⟨#[]⟩)).setCell ⟨A, 2, none⟩ (.bool false)).setCell ⟨A, 3, none⟩ (.slice none 0 0)).setCell ⟨A, 4, none⟩ (.slice (some ⟨bs, 0, none⟩) 1 1)).setCell ⟨A, 5, none⟩ (.slice none 0 0)).setCell ⟨A, 6, none⟩ (.slice p1 P.length p3)).setCell ⟨A, 7, none⟩ (.slice k1 K.length k3)) = W8 at hz1 hz2 hz3 hz4 ⊢
     obtain ⟨p0', p1', p2', p3', p4', p5', p6', p7', lP⟩ := box8 hz3
     refine bodyPost_ret (v := .agg #[.int .i64 14, .string ⟨#[]⟩, .bool false, .slice none 0 0, .slice (some ⟨bs, 0, none⟩) 1 1, .slice none 0 0, .slice p1 P.length p3, .slice k1 K.length k3]) (by simp [results, Try.results95, go_sem, p0', p1', p2', p3', p4', p5', p6', p7']) rfl ?_
     exact ⟨_, rfl, ⟨_, _, _, _, _, rfl, hz1⟩, hz2, hz4⟩
   go_wp2_with fail
   go_loopg [4] (T4.length + 1) (fun g v4 wr => ∃ (f : Nat) (P : List (List (List UInt8))) (K : List Int) (T : List Tok) (ns2 : List Nd) (vp vk : Value) (m : Bool), v4 = .bool m ∧ (if m = true then R = (caseL (lst d) f (caseN s P K) T ns2).bind caseFin ∧ T.length < f else R = caseFin (caseN s P K) T ns2) ∧ T.length + (if m = true then 1 else 0) ≤ g ∧ T.length ≤ n ∧ P.length + T.length ≤ 100000 ∧ K.length + T.length ≤ 100000 ∧ CaseAt av base w wr rb T ns2 d A B s P K (.slice (some ⟨bs, 0, none⟩) 1 1) vp vk)
   case atStart => exact ⟨_, [], [], T4, n1, _, _, true, rfl, ⟨HR4.out, HL4.out.2⟩, Nat.le_refl _, by have := HLN.out; have := HL4.out; omega, by have := HLN.out; have := HL4.out; simp only [List.length_nil]; omega, by have := HLN.out; have := HL4.out; simp only [List.length_nil]; omega, K5.out⟩
   case round =>
    obtain ⟨G0, rfl⟩ : ∃ G0, G0 = gk := ⟨_, rfl⟩
    obtain ⟨f, P, K, T, ns2, vp, vk, m, rfl, hm, hg, hTn, hpl, hkl, hK⟩ := hrel
    have K6 := hide hK
    obtain ⟨k1, k3, rfl, _, _⟩ := Own.form hK.kids
    obtain ⟨cs, hcs, hcv, hc3⟩ := hK.pats
    obtain ⟨p1, p3, rfl, _, _⟩ := Own.form hcs
    cases m with
    | false =>
     have HRx := hide (show R = caseFin (caseN s P K) T ns2 from hm)
     clear hm hg hK hcs
     go_wp2_with fail
     go_meet
     case rel => exact ⟨P, K, T, ns2, _, _, HRx.out, K6.out⟩
    | true =>
     rw [if_pos rfl] at hm hg
     obtain ⟨hm1, hm2⟩ := hm
     obtain ⟨f, rfl⟩ : ∃ f', f = f' + 1 := ⟨f - 1, by omega⟩
     have HRf := hide hm1
     have HB := hide (show T.length < f + 1 ∧ T.length + 1 ≤ G0 ∧ T.length ≤ n ∧ P.length + T.length ≤ 100000 ∧ K.length + T.length ≤ 100000 from ⟨hm2, hg, hTn, hpl, hkl⟩)
     clear hm1 hm2 hg hTn hpl hkl hK hcs hcv hc3
     have HQw := hide (HWD.out _ _ _ wEsac _ _ K6.out.r)
     obtain ⟨bw, hbw⟩ : ∃ bw, wrdB T wEsac = bw := ⟨_, rfl⟩
     rw [hbw] at HQw
     have HBW := hide hbw
     unfold wEsac at HQw
     clear hbw
     go_wp2_with fail
     refine HQw.out.mono ?_
     rintro e wa ⟨rfl, ga⟩
     have Ka := hide (K6.out.grown ga)
     clear ga
     cases bw with
     | true =>
      have HRx := hide (show R = caseFin (caseN s P K) T ns2 by rw [HRf.out, caseL_eq, if_pos HBW.out]; rfl)
      go_wp2_with fail
      go_meet
      case rel => exact ⟨P, K, T, ns2, _, _, HRx.out, Ka.out⟩
     | false =>
      have HR6 := hide (show R = ((anyR (if sgnB T sPar = true then T.tail else T) ns2).bind fun x ts ns => (patsL (ts.length + 1) [x] ts ns).bind fun pats ts ns => caseT (lst d) f s P K pats ts ns).bind caseFin by rw [HRf.out, caseL_eq, if_neg (by rw [HBW.out]; decide)])
      have HQs := hide (HSG.out _ _ _ sPar _ _ Ka.out.r)
      obtain ⟨bp, hbp⟩ : ∃ bp, sgnB T sPar = bp := ⟨_, rfl⟩
      rw [hbp] at HQs
      have HBP := hide hbp
      unfold sPar at HQs
      clear hbp
      have HGP := hide (par_good Ka.out.r.good)
      obtain ⟨Tp, hTp⟩ : ∃ Tp, (if sgnB T sPar = true then T.tail else T) = Tp := ⟨_, rfl⟩
      rw [hTp] at HR6 HGP
      have HTP := hide hTp
      clear hTp
      go_wp2_with fail
      refine HQs.out.mono ?_
      rintro e wb ⟨rfl, gb⟩
      have Kb := hide (Ka.out.grown gb)
      clear gb
      go_upto_if 24 with (fail)
      go_cut [] (fun wx => CaseAt av base w wx rb Tp ns2 d A B s P K (.slice (some ⟨bs, 0, none⟩) 1 1) (.slice p1 P.length p3) (.slice k1 K.length k3))
      case first =>
       cases bp with
       | true =>
        obtain ⟨tp, rp, hrp⟩ := Kb.out.r.good.ne
        subst hrp
        have hkp : tp.k ≠ 4 := by have := sgn_k HBP.out; omega
        have hTp : rp = Tp := by rw [← HTP.out, if_pos HBP.out]; rfl
        subst hTp
        have HQn := hide (HNX.out _ _ _ _ _ _ Kb.out.r hkp)
        clear hkp
        go_wp2_with fail
        refine HQn.out.mono ?_
        rintro e wc ⟨v, rfl, rfl, hrc, hfc⟩
        have Kc := hide (Kb.out.step hrc hfc)
        clear hrc hfc
        go_wp2_with fail
        go_meet
        exact Kc.out
       | false =>
        have hTp : T = Tp := by rw [← HTP.out, if_neg (by rw [HBP.out]; decide)]
        subst hTp
        go_wp2_with fail
        go_meet
        exact Kb.out
      case rest =>
       have Kc := hide hcut
       clear hcut
       have HLp := hide (show Tp.length ≤ T.length from HGP.out.2)
       have HQ9 := hide (HANY.out _ _ _ _ _ Kc.out.r)
       obtain ⟨PA, hpa⟩ : ∃ PA, anyR Tp ns2 = PA := ⟨_, rfl⟩
       rw [hpa] at HQ9
       have HPA := hide hpa
       unfold GPost vStr sv at HQ9
       clear hpa
       go_wp2_with fail
       refine HQ9.out.mono ?_
       cases PA with
       | bad a e =>
        rintro e wd ⟨rfl, hfc⟩
        refine post_panicP rfl ?_
        rw [HR6.out, HPA.out]
        exact (⟨rfl, Kc.out.fr.trans hfc.unbox.unbox⟩ : _ ∧ _)
       | ok x T9 n9 =>
        obtain ⟨hg9, hl9, rfl, _⟩ := any_ok HGP.out.1 HPA.out
        have HR9 := hide (show R = ((patsL (T9.length + 1) [x] T9 n9).bind fun pats ts ns => caseT (lst d) f s P K pats ts ns).bind caseFin by rw [HR6.out, HPA.out]; rfl)
        rintro e wd ⟨v, rfl, rfl, hrd, hfd⟩
        have Kd := hide (Kc.out.step hrd hfd)
        have SD := hide (SdAt.first hrd (Fr.refl _ wd) x)
        have HL9 := hide (show T9.length + 1 ≤ T.length by have := HLp.out; omega)
        clear hrd hfd hg9 hl9
        go_wp2_with fail
        go_loopg [5] T9.length (fun g v5 wr2 => ∃ (f2 : Nat) (L : List (List UInt8)) (T : List Tok), R = ((patsL f2 L T n9).bind fun pats ts ns => caseT (lst d) f s P K pats ts ns).bind caseFin ∧ T.length < f2 ∧ T.length ≤ g ∧ L.length + T.length ≤ T9.length + 1 ∧ SdAt (cav av (.slice p1 P.length p3) (.slice k1 K.length k3)) (Bx (Bx base A) B) wd wr2 rb T n9 d v5 L)
        case atStart => exact ⟨_, [x], T9, HR9.out, Nat.lt_succ_self _, Nat.le_refl _, by simp only [List.length_singleton]; omega, SD.out⟩
        case round =>
         obtain ⟨f2, L, T, hR2, hf2, hg2, hl2, hS⟩ := hrel
         have HR2 := hide hR2
         have SE := hide hS
         obtain ⟨f5, c5, rfl, _, _⟩ := Own.form hS.own
         obtain ⟨f2, rfl⟩ : ∃ f', f2 = f' + 1 := ⟨f2 - 1, by omega⟩
         have HB2 := hide (show T.length < f2 + 1 ∧ T.length ≤ gk ∧ L.length + T.length ≤ T9.length + 1 from ⟨hf2, hg2, hl2⟩)
         clear hR2 hf2 hg2 hl2 hS
         have HQt := hide (HT.out _ _ _ sBar _ _ SE.out.r)
         obtain ⟨bb, hbb⟩ : ∃ bb, isB T sBar = bb := ⟨_, rfl⟩
         rw [hbb] at HQt
         have HBB := hide hbb
         unfold sBar at HQt
         clear hbb
         go_wp2_with fail
         refine HQt.out.mono ?_
         rintro e we ⟨v, rfl, rfl, hre, hfe⟩
         have SF := hide (SE.out.step hre hfe)
         clear hre hfe
         cases bb with
         | true =>
          obtain ⟨hgt, hlt⟩ := is_tail SE.out.r.good HBB.out
          rw [show takeT T [124] = T.tail from if_pos (by have := HBB.out; unfold sBar at this; exact this)] at SF
          have HR3 := hide (show R = (((anyR T.tail n9).bind fun s ts ns => patsL f2 (L ++ [s]) ts ns).bind fun pats ts ns => caseT (lst d) f s P K pats ts ns).bind caseFin by rw [HR2.out, patsL, if_pos HBB.out])
          obtain ⟨Tt, hTt⟩ : ∃ Tt, T.tail = Tt := ⟨_, rfl⟩
          rw [hTt] at hgt hlt SF HR3
          have HGt := hide (And.intro hgt hlt)
          clear hgt hlt hTt
          have HQa := hide (HANY.out _ _ _ _ _ SF.out.r)
          obtain ⟨PA2, hpa2⟩ : ∃ PA, anyR Tt n9 = PA := ⟨_, rfl⟩
          rw [hpa2] at HQa
          have HPA2 := hide hpa2
          unfold GPost vStr sv at HQa
          clear hpa2
          go_wp2_with fail
          refine HQa.out.mono ?_
          cases PA2 with
          | bad a e =>
           rintro e wf ⟨rfl, hfc⟩
           refine post_panicP rfl ?_
           rw [HR3.out, HPA2.out]
           exact (⟨rfl, Kd.out.fr.trans (SF.out.fr.trans hfc).unbox.unbox⟩ : _ ∧ _)
          | ok y Ty ny =>
           obtain ⟨hgy, hly, rfl, _⟩ := any_ok HGt.out.1 HPA2.out
           have HR4' := hide (show R = ((patsL f2 (L ++ [y]) Ty ny).bind fun pats ts ns => caseT (lst d) f s P K pats ts ns).bind caseFin by rw [HR3.out, HPA2.out]; rfl)
           rintro e wf ⟨v, rfl, rfl, hrf, hff⟩
           have SG := hide (SF.out.step hrf hff)
           have HLy := hide hly
           clear hrf hff hgy hly
           have hb1 := HLN.out
           have hb2 := HB.out
           have hb3 := HB2.out
           have hb4 := HL9.out
           go_wp2_with (at_builtin; refine wpList_appAt 9 (.string ⟨#[]⟩) 1 16 Try.underlying28 infoStr rfl (.slice f5 L.length c5) L.length (L.map sv) 0 _ 1 [sv y] rfl rfl (Own.alloc SG.out.own _) (by omega) (srcS _ _ y rfl) (by unfold maxLen; omega) (by omega) ?_; intro vA wA ho hc hn2 _; (have SH := hide (SG.out.app _ ho hc hn2)); clear ho hc hn2)
           go_roundg (gk - 1)
           case rel => exact ⟨f2, _, Ty, HR4'.out, by have := HB2.out; have := HLy.out; have := HGt.out.2; omega, by have := HB2.out; have := HLy.out; have := HGt.out.2; omega, by have := HB2.out; have := HLy.out; have := HGt.out.2; simp only [List.length_append, List.length_singleton]; omega, SH.out⟩
           case measure => have := HB2.out; have := HLy.out; have := HGt.out.2; omega
         | false =>
          rw [show takeT T [124] = T from if_neg (by have := HBB.out; unfold sBar at this; rw [this]; decide)] at SF
          have HR3 := hide (show R = (caseT (lst d) f s P K L T n9).bind caseFin by rw [HR2.out, patsL, if_neg (by rw [HBB.out]; decide)]; rfl)
          have HL10 := hide (show T.length + L.length ≤ T9.length + 1 by have := HB2.out; omega)
          have HGz := hide SE.out.r.good
          unfold caseT at HR3
          have HQr := hide (HNE.out _ _ _ sRap _ _ SF.out.r)
          obtain ⟨br, hbr⟩ : ∃ br, isB T sRap = br := ⟨_, rfl⟩
          have HBr := hide hbr
          unfold needR at HQr
          rw [hbr] at HQr
          unfold sRap GPost vUnit at HQr
          clear hbr
          go_wp2_with fail
          refine HQr.out.mono ?_
          cases br with
          | false =>
           obtain ⟨tz, rz, hz⟩ := HGz.out.ne
           have HRZ := hide (show R = wrongR T by rw [HR3.out, need_no HBr.out]; rw [hz]; rfl)
           rw [hz] at HRZ ⊢
           rintro e wc ⟨rfl, hfc⟩
           refine post_panicP rfl ?_
           rw [HRZ.out]
           exact (⟨rfl, Kd.out.fr.trans (SF.out.fr.trans hfc).unbox.unbox⟩ : _ ∧ _)
          | true =>
           obtain ⟨hg11, hl11⟩ := is_tail HGz.out HBr.out
           have HR11 := hide (show R = (caseU (lst d) f s P K L (breaksF T.tail) n9).bind caseFin by rw [HR3.out, need_yes HBr.out]; rfl)
           rintro e wg ⟨v, rfl, rfl, hrg, hfg⟩
           have SG := hide (SF.out.step hrg hfg)
           have hbk := breaks_good hg11
           have HQb := hide (HBR.out _ _ _ _ _ SG.out.r)
           obtain ⟨Tb, hTb⟩ : ∃ Tb, breaksF T.tail = Tb := ⟨_, rfl⟩
           rw [hTb] at HQb hbk HR11
           have HLb := hide (show Good Tb ∧ Tb.length + 1 ≤ T9.length + 1 ∧ L.length ≤ T9.length + 1 from ⟨hbk.1, by have := HL10.out; omega, by have := HL10.out; omega⟩)
           clear hrg hfg hg11 hl11 hbk hTb
           go_wp2_with fail
           refine HQb.out.mono ?_
           rintro e wh ⟨v, rfl, rfl, hrh, hfh⟩
           have SH := hide (SG.out.step hrh hfh)
           clear hrh hfh
           have HQe := hide (HBE.out _ _ _ _ _ SH.out.r)
           obtain ⟨bg, hbg⟩ : ∃ bg, beginsB Tb = bg := ⟨_, rfl⟩
           rw [hbg] at HQe
           have HBG := hide hbg
           clear hbg
           go_wp2_with fail
           refine HQe.out.mono ?_
           rintro e wi ⟨rfl, gi⟩
           have SI := hide (SH.out.grown gi)
           clear gi
           unfold caseU at HR11
           go_upto_if 42 with (fail)
           go_cut [6] (fun v6 wx => ∃ (body : Int) (Tc : List Tok) (nc : List Nd), v6 = .int .i64 body ∧ R = (caseV (lst d) f (caseN s (P ++ [L]) (K ++ [body])) Tc nc).bind caseFin ∧ Good Tc ∧ Tc.length ≤ Tb.length ∧ SdAt (cav av (.slice p1 P.length p3) (.slice k1 K.length k3)) (Bx (Bx base A) B) wd wx rb Tc nc d (.slice f5 L.length c5) L)
           case first =>
            cases bg with
            | true =>
             have HR12 := hide (show R = ((lst d Tb n9).bind fun body ts ns => caseV (lst d) f (caseN s (P ++ [L]) (K ++ [body])) ts ns).bind caseFin by rw [HR11.out, if_pos HBG.out])
             have HQl := hide (HC.out _ _ _ Tb n9 (SI.out.lt_ (Kd.out.lt_ HAV.out)) SI.out.r (by have := HLb.out; have := HL9.out; have := HB.out; omega))
             obtain ⟨PL, hpl⟩ : ∃ PL, lst d Tb n9 = PL := ⟨_, rfl⟩
             rw [hpl] at HQl
             have HPL := hide hpl
             unfold GPost vInt at HQl
             clear hpl
             go_wp2_with fail
             refine HQl.out.mono ?_
             cases PL with
             | bad a e =>
              rintro e wj ⟨rfl, hfc⟩
              refine post_panicP rfl ?_
              rw [HR12.out, HPL.out]
              exact (⟨rfl, Kd.out.fr.trans (SI.out.fr.trans hfc).unbox.unbox⟩ : _ ∧ _)
             | ok body Tc nc =>
              have HLF := hide (HD.out _ _ _ _ _ HLb.out.1 HPL.out)
              have HR13 := hide (show R = (caseV (lst d) f (caseN s (P ++ [L]) (K ++ [body])) Tc nc).bind caseFin by rw [HR12.out, HPL.out]; rfl)
              rintro e wj ⟨v, rfl, rfl, hrj, hfj⟩
              have SJ := hide (SI.out.step hrj hfj)
              clear hrj hfj
              go_wp2_with fail
              go_meet
              case rel => exact ⟨body, Tc, nc, rfl, HR13.out, HLF.out.good, by have := HLF.out.len; omega, SJ.out⟩
            | false =>
             have HR13 := hide (show R = (caseV (lst d) f (caseN s (P ++ [L]) (K ++ [-1])) Tb n9).bind caseFin by rw [HR11.out, if_neg (by rw [HBG.out]; decide)]; rfl)
             go_wp2_with fail
             go_meet
             case rel => exact ⟨-1, Tb, n9, rfl, HR13.out, HLb.out.1, Nat.le_refl _, SI.out⟩
           case rest =>
            obtain ⟨body, Tc, nc, rfl, hRc, hgc, hlc, hSc⟩ := hcut
            have HR13 := hide hRc
            have HLc := hide (And.intro hgc hlc)
            have SK := hide hSc
            have K8 := hide (Kd.out.step hSc.plain hSc.fr)
            clear hRc hgc hlc hSc
            go_upto_region 17 with (fail)
            go_cut [] (fun wx => ∃ vp' vk', CaseAt av base w wx rb Tc nc d A B s (P ++ [L]) (K ++ [body]) (.slice (some ⟨bs, 0, none⟩) 1 1) vp' vk')
            case first =>
             have K9 := hide (K8.out.grown (only_drew (only_refl wc none)))
             obtain ⟨cs, hcs, hcv, hc3⟩ := K9.out.pats
             have HOW := hide hcs
             have H3 := hide hc3
             have H5 := hide (show StrS wc.drew (.slice f5 L.length c5) L from StrS.fr (base := base) (Fr.of_grown (only_drew (only_refl wc none))) SK.out.own)
             have H5n := hide (show ∀ k, (Value.slice f5 L.length c5).ownBlock = some k → w.heap.size ≤ k from fun k hk => by have h1 := SK.out.new k hk; have h2 := Kd.out.fr.size; omega)
             have HPK := hide (show P.length ≤ 100000 ∧ K.length ≤ 100000 by have := HB.out; omega)
             have m0 := hide (⟨Chg.refl _ wc.drew, ⟨hcs, fun k hk => .inl hk⟩, ⟨K9.out.kids, fun k hk => .inl hk⟩, K9.out.box⟩ : Mid wc.drew wc.drew B (.slice (some ⟨bs, 0, none⟩) 1 1) (.slice p1 P.length p3) (.slice k1 K.length k3) (.slice p1 P.length p3) (.slice k1 K.length k3) P.length cs K.length (K.map (Value.int .i64)))
             have x7 : wc.cell? ⟨B, 7, none⟩ = some (.slice k1 K.length k3) := Blk.cell K8.out.box 7
             have lB := Blk.lt K8.out.box
             clear hcs hcv hc3
             refine wp_region_treeQ [0, 2, 5, 7, 6] (.three 1 (.two 3 (.two 4 (.two 8 (.two 9 (.one 10 (.one 11 (.one 12 (.last 13)))) 10 (.one 9 (.one 11 (.one 12 (.last 13))))) 10 (.one 8 (.one 9 (.one 11 (.one 12 (.last 13)))))) 8 (.one 4 (.two 9 (.one 10 (.one 11 (.one 12 (.last 13)))) 10 (.one 9 (.one 11 (.one 12 (.last 13))))))) 8 (.one 3 (.one 4 (.two 9 (.one 10 (.one 11 (.one 12 (.last 13)))) 10 (.one 9 (.one 11 (.one 12 (.last 13)))))))) 3 (.two 1 (.two 4 (.two 8 (.two 9 (.one 10 (.one 11 (.one 12 (.last 13)))) 10 (.one 9 (.one 11 (.one 12 (.last 13))))) 10 (.one 8 (.one 9 (.one 11 (.one 12 (.last 13)))))) 8 (.one 4 (.two 9 (.one 10 (.one 11 (.one 12 (.last 13)))) 10 (.one 9 (.one 11 (.one 12 (.last 13))))))) 8 (.one 1 (.one 4 (.two 9 (.one 10 (.one 11 (.one 12 (.last 13)))) 10 (.one 9 (.one 11 (.one 12 (.last 13)))))))) 8 (.two 1 (.one 3 (.one 4 (.two 9 (.one 10 (.one 11 (.one 12 (.last 13)))) 10 (.one 9 (.one 11 (.one 12 (.last 13))))))) 3 (.one 1 (.one 4 (.two 9 (.one 10 (.one 11 (.one 12 (.last 13)))) 10 (.one 9 (.one 11 (.one 12 (.last 13))))))))) (by kernel_rfl) (by kernel_rfl) (fun W' => W'.cell? ⟨B, 7, none⟩ = some (.slice k1 K.length k3)) x7 (by intro c a w d v h; cases d <;> exact h) ?_
             simp only [pick, List.getElem?_cons_zero, List.getElem?_cons_succ]
             refine wpTake_cons ?_ (by rfl) ?_ ?_
             rotate_left
             ·(intro W9 hSW; go_simp; try with_reducible rfl)
             simp only [Act.put, List.setIfInBounds_toArray, List.set_cons_zero, List.set_cons_succ]
             refine wpTake_cons ?_ (by rfl) ?_ ?_
             rotate_left
             ·(intro W9 hSW; go_simp; try with_reducible rfl)
             simp only [Act.put, List.setIfInBounds_toArray, List.set_cons_zero, List.set_cons_succ]
             refine wpTake_cons ?_ (by rfl) ?_ ?_
             rotate_left
             ·(intro W9 hSW; go_simp; try with_reducible rfl)
             simp only [Act.put, List.setIfInBounds_toArray, List.set_cons_zero, List.set_cons_succ]
             refine wpTake_cons ?_ (by rfl) ?_ ?_
             rotate_left
             ·(intro W9 hSW; go_simp; try with_reducible rfl)
             simp only [Act.put, List.setIfInBounds_toArray, List.set_cons_zero, List.set_cons_succ]
             refine wpTake_cons ?_ (by rfl) ?_ ?_
             rotate_left
             ·(intro W9 hSW; go_simp; try with_reducible rfl)
             simp only [Act.put, List.setIfInBounds_toArray, List.set_cons_zero, List.set_cons_succ]
             refine wpTake_nil ?_
             have HX0 := hide (rfl : wc.drew = wc.drew)
             clear x7 lB HX0
             refine ⟨?_, ?_, ?_⟩
             ·refine ft_one (by rfl) fun G1 hG1 => ?_
              have x6_1 : wc.drew.cell? ⟨B, 6, none⟩ = some (.slice p1 P.length p3) := Blk.cell m0.out.box 6
              refine step_val (.slice p1 P.length p3) wc.drew (by rfl) (by go_simp) ?_
              refine hG1.out _ _ (Blk.cell m0.out.box 7) ?_
              simp only [Act.put, List.setIfInBounds_toArray, List.set_cons_zero, List.set_cons_succ]
              refine ⟨?_, ?_⟩
              ·refine ft_one (by rfl) fun G2 hG2 => ?_
               refine step_val (.slice (some ⟨wc.drew.heap.size, 0, none⟩) 1 1) (wc.drew.alloc (.cells #[.slice f5 L.length c5] 28)) (by rfl) (by go_simp) ?_
               have m2 := hide (m0.out.alloc (.cells #[.slice f5 L.length c5] 28))
               have hb3_2 := hide (Blk.new wc.drew 28 #[.slice f5 L.length c5])
               refine hG2.out _ _ (Blk.cell m2.out.box 7) ?_
               simp only [Act.put, List.setIfInBounds_toArray, List.set_cons_zero, List.set_cons_succ]
               obtain ⟨X2, hX2⟩ : ∃ X2, wc.drew.alloc (.cells #[.slice f5 L.length c5] 28) = X2 := ⟨_, rfl⟩
               rw [hX2] at m2 hb3_2 ⊢
               clear hX2
               refine ⟨?_, ?_⟩
               ·refine ft_one (by rfl) fun G3 hG3 => ?_
                refine step_appAt (by rfl) (.tmp 46) (.tmp 48) 30 30 (by rfl) 28 (.slice none 0 0) 1 24 Try.underlying30 infoStrs rfl (.slice p1 P.length p3) P.length cs 0 _ 1 [.slice f5 L.length c5] (by rfl) (by rfl) m2.out.hp.own (by omega) (srcP hb3_2.out rfl) (by have := HPK.out; unfold maxLen; omega) (by have := HPK.out; omega) ?_
                intro pA X3 ho hc hn _
                obtain ⟨pa3, pc3, rfl, _, _⟩ := Own.form ho
                have m3 := hide (m2.out.appP ho hc hn)
                clear ho hc hn
                refine hG3.out _ _ (Blk.cell m3.out.box 7) ?_
                simp only [Act.put, List.setIfInBounds_toArray, List.set_cons_zero, List.set_cons_succ]
                refine ⟨?_, ?_⟩
                ·refine ft_one (by rfl) fun G4 hG4 => ?_
                 refine step_val (.slice (some ⟨X3.heap.size, 0, none⟩) 1 1) (X3.alloc (.cells #[.int .i64 body] 3)) (by rfl) (by go_simp) ?_
                 have m4 := hide (m3.out.alloc (.cells #[.int .i64 body] 3))
                 have hb8_4 := hide (Blk.new X3 3 #[.int .i64 body])
                 refine hG4.out _ _ (Blk.cell m4.out.box 7) ?_
                 simp only [Act.put, List.setIfInBounds_toArray, List.set_cons_zero, List.set_cons_succ]
                 obtain ⟨X4, hX4⟩ : ∃ X4, X3.alloc (.cells #[.int .i64 body] 3) = X4 := ⟨_, rfl⟩
                 rw [hX4] at m4 hb8_4 ⊢
                 clear hX4
                 refine ⟨?_, ?_⟩
                 ·refine ft_one (by rfl) fun G5 hG5 => ?_
                  refine step_appAt (by rfl) (.tmp 51) (.tmp 53) 31 31 (by rfl) 3 (.int .i64 0) 1 8 Try.underlying31 infoInt rfl (.slice k1 K.length k3) K.length (K.map (Value.int .i64)) 0 _ 1 [.int .i64 body] (by rfl) (by rfl) m4.out.hk.own (by omega) (srcI2 hb8_4.out) (by have := HPK.out; unfold maxLen; omega) (by have := HPK.out; omega) ?_
                  intro qA X5 ho hc hn _
                  obtain ⟨qa5, qc5, rfl, _, _⟩ := Own.form ho
                  have m5 := hide (m4.out.appK ho hc hn)
                  clear ho hc hn
                  refine hG5.out _ _ (Blk.cell m5.out.box 7) ?_
                  simp only [Act.put, List.setIfInBounds_toArray, List.set_cons_zero, List.set_cons_succ]
                  refine ft_one (by rfl) fun G6 hG6 => ?_
                  refine step_val (.pointer (some ⟨B, 6, none⟩)) X5 (by rfl) (by go_simp) ?_
                  refine hG6.out _ _ (Blk.cell m5.out.box 7) ?_
                  simp only [Act.put, List.setIfInBounds_toArray, List.set_cons_zero, List.set_cons_succ]
                  refine ft_one (by rfl) fun G7 hG7 => ?_
                  have x6_7 : X5.cell? ⟨B, 6, none⟩ = some (.slice p1 P.length p3) := Blk.cell m5.out.box 6
                  have z6_7 := Blk.frozen m5.out.box 6
                  have l6_7 := Blk.lt m5.out.box
                  refine step_skip (X5.setCell ⟨B, 6, none⟩ (.slice pa3 (P.length + 1) pc3)) (by rfl) (by go_simp) ?_
                  refine hG7.out _ _ (Blk.cell (Blk.set_ m5.out.box 6 (.slice pa3 (P.length + 1) pc3)) 7) ?_
                  simp only [Act.put]
                  refine ft_one (by rfl) fun G8 hG8 => ?_
                  refine step_val (.pointer (some ⟨B, 7, none⟩)) (X5.setCell ⟨B, 6, none⟩ (.slice pa3 (P.length + 1) pc3)) (by rfl) (by go_simp) ?_
                  refine hG8.out _ _ (Blk.cell (Blk.set_ m5.out.box 6 (.slice pa3 (P.length + 1) pc3)) 7) ?_
                  simp only [Act.put, List.setIfInBounds_toArray, List.set_cons_zero, List.set_cons_succ]
                  refine ft_lastQ (by rfl) ?_
                  have x7l : (X5.setCell ⟨B, 6, none⟩ (.slice pa3 (P.length + 1) pc3)).cell? ⟨B, 7, none⟩ = some (.slice k1 K.length k3) := Blk.cell (Blk.set_ m5.out.box 6 (.slice pa3 (P.length + 1) pc3)) 7
                  have z7l := Blk.frozen (Blk.set_ m5.out.box 6 (.slice pa3 (P.length + 1) pc3)) 7
                  have l7l := Blk.lt (Blk.set_ m5.out.box 6 (.slice pa3 (P.length + 1) pc3))
                  have KF := hide (CaseAt.fin K9.out HAV.out HOW.out H3.out m5.out H5.out H5n.out)
                  go_wp2_with fail
                  go_meet
                  case rel => exact ⟨_, _, KF.out⟩
                 ·refine ft_one (by rfl) fun G9 hG9 => ?_
                  refine step_val (.pointer (some ⟨B, 6, none⟩)) X4 (by rfl) (by go_simp) ?_
                  refine hG9.out _ _ (Blk.cell m4.out.box 7) ?_
                  simp only [Act.put, List.setIfInBounds_toArray, List.set_cons_zero, List.set_cons_succ]
                  refine ft_one (by rfl) fun G10 hG10 => ?_
                  refine step_appAt (by rfl) (.tmp 51) (.tmp 53) 31 31 (by rfl) 3 (.int .i64 0) 1 8 Try.underlying31 infoInt rfl (.slice k1 K.length k3) K.length (K.map (Value.int .i64)) 0 _ 1 [.int .i64 body] (by rfl) (by rfl) m4.out.hk.own (by omega) (srcI2 hb8_4.out) (by have := HPK.out; unfold maxLen; omega) (by have := HPK.out; omega) ?_
                  intro qA X10 ho hc hn _
                  obtain ⟨qa10, qc10, rfl, _, _⟩ := Own.form ho
                  have m10 := hide (m4.out.appK ho hc hn)
                  clear ho hc hn
                  refine hG10.out _ _ (Blk.cell m10.out.box 7) ?_
                  simp only [Act.put, List.setIfInBounds_toArray, List.set_cons_zero, List.set_cons_succ]
                  refine ft_one (by rfl) fun G11 hG11 => ?_
                  have x6_11 : X10.cell? ⟨B, 6, none⟩ = some (.slice p1 P.length p3) := Blk.cell m10.out.box 6
                  have z6_11 := Blk.frozen m10.out.box 6
                  have l6_11 := Blk.lt m10.out.box
                  refine step_skip (X10.setCell ⟨B, 6, none⟩ (.slice pa3 (P.length + 1) pc3)) (by rfl) (by go_simp) ?_
                  refine hG11.out _ _ (Blk.cell (Blk.set_ m10.out.box 6 (.slice pa3 (P.length + 1) pc3)) 7) ?_
                  simp only [Act.put]
                  refine ft_one (by rfl) fun G12 hG12 => ?_
                  refine step_val (.pointer (some ⟨B, 7, none⟩)) (X10.setCell ⟨B, 6, none⟩ (.slice pa3 (P.length + 1) pc3)) (by rfl) (by go_simp) ?_
                  refine hG12.out _ _ (Blk.cell (Blk.set_ m10.out.box 6 (.slice pa3 (P.length + 1) pc3)) 7) ?_
                  simp only [Act.put, List.setIfInBounds_toArray, List.set_cons_zero, List.set_cons_succ]
                  refine ft_lastQ (by rfl) ?_
                  have x7l : (X10.setCell ⟨B, 6, none⟩ (.slice pa3 (P.length + 1) pc3)).cell? ⟨B, 7, none⟩ = some (.slice k1 K.length k3) := Blk.cell (Blk.set_ m10.out.box 6 (.slice pa3 (P.length + 1) pc3)) 7
                  have z7l := Blk.frozen (Blk.set_ m10.out.box 6 (.slice pa3 (P.length + 1) pc3)) 7
                  have l7l := Blk.lt (Blk.set_ m10.out.box 6 (.slice pa3 (P.length + 1) pc3))
                  have KF := hide (CaseAt.fin K9.out HAV.out HOW.out H3.out m10.out H5.out H5n.out)
                  go_wp2_with fail
                  go_meet
                  case rel => exact ⟨_, _, KF.out⟩
                ·refine ft_one (by rfl) fun G13 hG13 => ?_
                 refine step_val (.pointer (some ⟨B, 6, none⟩)) X3 (by rfl) (by go_simp) ?_
                 refine hG13.out _ _ (Blk.cell m3.out.box 7) ?_
                 simp only [Act.put, List.setIfInBounds_toArray, List.set_cons_zero, List.set_cons_succ]
                 refine ft_one (by rfl) fun G14 hG14 => ?_
                 refine step_val (.slice (some ⟨X3.heap.size, 0, none⟩) 1 1) (X3.alloc (.cells #[.int .i64 body] 3)) (by rfl) (by go_simp) ?_
                 have m14 := hide (m3.out.alloc (.cells #[.int .i64 body] 3))
                 have hb8_14 := hide (Blk.new X3 3 #[.int .i64 body])
                 refine hG14.out _ _ (Blk.cell m14.out.box 7) ?_
                 simp only [Act.put, List.setIfInBounds_toArray, List.set_cons_zero, List.set_cons_succ]
                 obtain ⟨X14, hX14⟩ : ∃ X14, X3.alloc (.cells #[.int .i64 body] 3) = X14 := ⟨_, rfl⟩
                 rw [hX14] at m14 hb8_14 ⊢
                 clear hX14
                 refine ft_one (by rfl) fun G15 hG15 => ?_
                 refine step_appAt (by rfl) (.tmp 51) (.tmp 53) 31 31 (by rfl) 3 (.int .i64 0) 1 8 Try.underlying31 infoInt rfl (.slice k1 K.length k3) K.length (K.map (Value.int .i64)) 0 _ 1 [.int .i64 body] (by rfl) (by rfl) m14.out.hk.own (by omega) (srcI2 hb8_14.out) (by have := HPK.out; unfold maxLen; omega) (by have := HPK.out; omega) ?_
                 intro qA X15 ho hc hn _
                 obtain ⟨qa15, qc15, rfl, _, _⟩ := Own.form ho
                 have m15 := hide (m14.out.appK ho hc hn)
                 clear ho hc hn
                 refine hG15.out _ _ (Blk.cell m15.out.box 7) ?_
                 simp only [Act.put, List.setIfInBounds_toArray, List.set_cons_zero, List.set_cons_succ]
                 refine ft_one (by rfl) fun G16 hG16 => ?_
                 have x6_16 : X15.cell? ⟨B, 6, none⟩ = some (.slice p1 P.length p3) := Blk.cell m15.out.box 6
                 have z6_16 := Blk.frozen m15.out.box 6
                 have l6_16 := Blk.lt m15.out.box
                 refine step_skip (X15.setCell ⟨B, 6, none⟩ (.slice pa3 (P.length + 1) pc3)) (by rfl) (by go_simp) ?_
                 refine hG16.out _ _ (Blk.cell (Blk.set_ m15.out.box 6 (.slice pa3 (P.length + 1) pc3)) 7) ?_
                 simp only [Act.put]
                 refine ft_one (by rfl) fun G17 hG17 => ?_
                 refine step_val (.pointer (some ⟨B, 7, none⟩)) (X15.setCell ⟨B, 6, none⟩ (.slice pa3 (P.length + 1) pc3)) (by rfl) (by go_simp) ?_
                 refine hG17.out _ _ (Blk.cell (Blk.set_ m15.out.box 6 (.slice pa3 (P.length + 1) pc3)) 7) ?_
                 simp only [Act.put, List.setIfInBounds_toArray, List.set_cons_zero, List.set_cons_succ]
                 refine ft_lastQ (by rfl) ?_
                 have x7l : (X15.setCell ⟨B, 6, none⟩ (.slice pa3 (P.length + 1) pc3)).cell? ⟨B, 7, none⟩ = some (.slice k1 K.length k3) := Blk.cell (Blk.set_ m15.out.box 6 (.slice pa3 (P.length + 1) pc3)) 7
                 have z7l := Blk.frozen (Blk.set_ m15.out.box 6 (.slice pa3 (P.length + 1) pc3)) 7
                 have l7l := Blk.lt (Blk.set_ m15.out.box 6 (.slice pa3 (P.length + 1) pc3))
                 have KF := hide (CaseAt.fin K9.out HAV.out HOW.out H3.out m15.out H5.out H5n.out)
                 go_wp2_with fail
                 go_meet
                 case rel => exact ⟨_, _, KF.out⟩
               ·refine ft_one (by rfl) fun G18 hG18 => ?_
                refine step_val (.slice (some ⟨X2.heap.size, 0, none⟩) 1 1) (X2.alloc (.cells #[.int .i64 body] 3)) (by rfl) (by go_simp) ?_
                have m18 := hide (m2.out.alloc (.cells #[.int .i64 body] 3))
                have hb8_18 := hide (Blk.new X2 3 #[.int .i64 body])
                have hb3_18 := hide (hb3_2.out.alloc (.cells #[.int .i64 body] 3))
                refine hG18.out _ _ (Blk.cell m18.out.box 7) ?_
                simp only [Act.put, List.setIfInBounds_toArray, List.set_cons_zero, List.set_cons_succ]
                obtain ⟨X18, hX18⟩ : ∃ X18, X2.alloc (.cells #[.int .i64 body] 3) = X18 := ⟨_, rfl⟩
                rw [hX18] at m18 hb3_18 hb8_18 ⊢
                clear hX18
                refine ft_one (by rfl) fun G19 hG19 => ?_
                refine step_appAt (by rfl) (.tmp 46) (.tmp 48) 30 30 (by rfl) 28 (.slice none 0 0) 1 24 Try.underlying30 infoStrs rfl (.slice p1 P.length p3) P.length cs 0 _ 1 [.slice f5 L.length c5] (by rfl) (by rfl) m18.out.hp.own (by omega) (srcP hb3_18.out rfl) (by have := HPK.out; unfold maxLen; omega) (by have := HPK.out; omega) ?_
                intro pA X19 ho hc hn _
                obtain ⟨pa19, pc19, rfl, _, _⟩ := Own.form ho
                have m19 := hide (m18.out.appP ho hc hn)
                have hb8_19 := hide (m18.out.keepI hb8_18.out hc)
                clear ho hc hn
                refine hG19.out _ _ (Blk.cell m19.out.box 7) ?_
                simp only [Act.put, List.setIfInBounds_toArray, List.set_cons_zero, List.set_cons_succ]
                refine ⟨?_, ?_⟩
                ·refine ft_one (by rfl) fun G20 hG20 => ?_
                 refine step_appAt (by rfl) (.tmp 51) (.tmp 53) 31 31 (by rfl) 3 (.int .i64 0) 1 8 Try.underlying31 infoInt rfl (.slice k1 K.length k3) K.length (K.map (Value.int .i64)) 0 _ 1 [.int .i64 body] (by rfl) (by rfl) m19.out.hk.own (by omega) (srcI2 hb8_19.out) (by have := HPK.out; unfold maxLen; omega) (by have := HPK.out; omega) ?_
                 intro qA X20 ho hc hn _
                 obtain ⟨qa20, qc20, rfl, _, _⟩ := Own.form ho
                 have m20 := hide (m19.out.appK ho hc hn)
                 clear ho hc hn
                 refine hG20.out _ _ (Blk.cell m20.out.box 7) ?_
                 simp only [Act.put, List.setIfInBounds_toArray, List.set_cons_zero, List.set_cons_succ]
                 refine ft_one (by rfl) fun G21 hG21 => ?_
                 refine step_val (.pointer (some ⟨B, 6, none⟩)) X20 (by rfl) (by go_simp) ?_
                 refine hG21.out _ _ (Blk.cell m20.out.box 7) ?_
                 simp only [Act.put, List.setIfInBounds_toArray, List.set_cons_zero, List.set_cons_succ]
                 refine ft_one (by rfl) fun G22 hG22 => ?_
                 have x6_22 : X20.cell? ⟨B, 6, none⟩ = some (.slice p1 P.length p3) := Blk.cell m20.out.box 6
                 have z6_22 := Blk.frozen m20.out.box 6
                 have l6_22 := Blk.lt m20.out.box
                 refine step_skip (X20.setCell ⟨B, 6, none⟩ (.slice pa19 (P.length + 1) pc19)) (by rfl) (by go_simp) ?_
                 refine hG22.out _ _ (Blk.cell (Blk.set_ m20.out.box 6 (.slice pa19 (P.length + 1) pc19)) 7) ?_
                 simp only [Act.put]
                 refine ft_one (by rfl) fun G23 hG23 => ?_
                 refine step_val (.pointer (some ⟨B, 7, none⟩)) (X20.setCell ⟨B, 6, none⟩ (.slice pa19 (P.length + 1) pc19)) (by rfl) (by go_simp) ?_
                 refine hG23.out _ _ (Blk.cell (Blk.set_ m20.out.box 6 (.slice pa19 (P.length + 1) pc19)) 7) ?_
                 simp only [Act.put, List.setIfInBounds_toArray, List.set_cons_zero, List.set_cons_succ]
                 refine ft_lastQ (by rfl) ?_
                 have x7l : (X20.setCell ⟨B, 6, none⟩ (.slice pa19 (P.length + 1) pc19)).cell? ⟨B, 7, none⟩ = some (.slice k1 K.length k3) := Blk.cell (Blk.set_ m20.out.box 6 (.slice pa19 (P.length + 1) pc19)) 7
                 have z7l := Blk.frozen (Blk.set_ m20.out.box 6 (.slice pa19 (P.length + 1) pc19)) 7
                 have l7l := Blk.lt (Blk.set_ m20.out.box 6 (.slice pa19 (P.length + 1) pc19))
                 have KF := hide (CaseAt.fin K9.out HAV.out HOW.out H3.out m20.out H5.out H5n.out)
                 go_wp2_with fail
                 go_meet
                 case rel => exact ⟨_, _, KF.out⟩
                ·refine ft_one (by rfl) fun G24 hG24 => ?_
                 refine step_val (.pointer (some ⟨B, 6, none⟩)) X19 (by rfl) (by go_simp) ?_
                 refine hG24.out _ _ (Blk.cell m19.out.box 7) ?_
                 simp only [Act.put, List.setIfInBounds_toArray, List.set_cons_zero, List.set_cons_succ]
                 refine ft_one (by rfl) fun G25 hG25 => ?_
                 refine step_appAt (by rfl) (.tmp 51) (.tmp 53) 31 31 (by rfl) 3 (.int .i64 0) 1 8 Try.underlying31 infoInt rfl (.slice k1 K.length k3) K.length (K.map (Value.int .i64)) 0 _ 1 [.int .i64 body] (by rfl) (by rfl) m19.out.hk.own (by omega) (srcI2 hb8_19.out) (by have := HPK.out; unfold maxLen; omega) (by have := HPK.out; omega) ?_
                 intro qA X25 ho hc hn _
                 obtain ⟨qa25, qc25, rfl, _, _⟩ := Own.form ho
                 have m25 := hide (m19.out.appK ho hc hn)
                 clear ho hc hn
                 refine hG25.out _ _ (Blk.cell m25.out.box 7) ?_
                 simp only [Act.put, List.setIfInBounds_toArray, List.set_cons_zero, List.set_cons_succ]
                 refine ft_one (by rfl) fun G26 hG26 => ?_
                 have x6_26 : X25.cell? ⟨B, 6, none⟩ = some (.slice p1 P.length p3) := Blk.cell m25.out.box 6
                 have z6_26 := Blk.frozen m25.out.box 6
                 have l6_26 := Blk.lt m25.out.box
                 refine step_skip (X25.setCell ⟨B, 6, none⟩ (.slice pa19 (P.length + 1) pc19)) (by rfl) (by go_simp) ?_
                 refine hG26.out _ _ (Blk.cell (Blk.set_ m25.out.box 6 (.slice pa19 (P.length + 1) pc19)) 7) ?_
                 simp only [Act.put]
                 refine ft_one (by rfl) fun G27 hG27 => ?_
                 refine step_val (.pointer (some ⟨B, 7, none⟩)) (X25.setCell ⟨B, 6, none⟩ (.slice pa19 (P.length + 1) pc19)) (by rfl) (by go_simp) ?_
                 refine hG27.out _ _ (Blk.cell (Blk.set_ m25.out.box 6 (.slice pa19 (P.length + 1) pc19)) 7) ?_
                 simp only [Act.put, List.setIfInBounds_toArray, List.set_cons_zero, List.set_cons_succ]
                 refine ft_lastQ (by rfl) ?_
                 have x7l : (X25.setCell ⟨B, 6, none⟩ (.slice pa19 (P.length + 1) pc19)).cell? ⟨B, 7, none⟩ = some (.slice k1 K.length k3) := Blk.cell (Blk.set_ m25.out.box 6 (.slice pa19 (P.length + 1) pc19)) 7
                 have z7l := Blk.frozen (Blk.set_ m25.out.box 6 (.slice pa19 (P.length + 1) pc19)) 7
                 have l7l := Blk.lt (Blk.set_ m25.out.box 6 (.slice pa19 (P.length + 1) pc19))
                 have KF := hide (CaseAt.fin K9.out HAV.out HOW.out H3.out m25.out H5.out H5n.out)
                 go_wp2_with fail
                 go_meet
                 case rel => exact ⟨_, _, KF.out⟩
              ·refine ft_one (by rfl) fun G28 hG28 => ?_
               refine step_val (.slice (some ⟨wc.drew.heap.size, 0, none⟩) 1 1) (wc.drew.alloc (.cells #[.int .i64 body] 3)) (by rfl) (by go_simp) ?_
               have m28 := hide (m0.out.alloc (.cells #[.int .i64 body] 3))
               have hb8_28 := hide (Blk.new wc.drew 3 #[.int .i64 body])
               refine hG28.out _ _ (Blk.cell m28.out.box 7) ?_
               simp only [Act.put, List.setIfInBounds_toArray, List.set_cons_zero, List.set_cons_succ]
               obtain ⟨X28, hX28⟩ : ∃ X28, wc.drew.alloc (.cells #[.int .i64 body] 3) = X28 := ⟨_, rfl⟩
               rw [hX28] at m28 hb8_28 ⊢
               clear hX28
               refine ft_one (by rfl) fun G29 hG29 => ?_
               refine step_val (.slice (some ⟨X28.heap.size, 0, none⟩) 1 1) (X28.alloc (.cells #[.slice f5 L.length c5] 28)) (by rfl) (by go_simp) ?_
               have m29 := hide (m28.out.alloc (.cells #[.slice f5 L.length c5] 28))
               have hb3_29 := hide (Blk.new X28 28 #[.slice f5 L.length c5])
               have hb8_29 := hide (hb8_28.out.alloc (.cells #[.slice f5 L.length c5] 28))
               refine hG29.out _ _ (Blk.cell m29.out.box 7) ?_
               simp only [Act.put, List.setIfInBounds_toArray, List.set_cons_zero, List.set_cons_succ]
               obtain ⟨X29, hX29⟩ : ∃ X29, X28.alloc (.cells #[.slice f5 L.length c5] 28) = X29 := ⟨_, rfl⟩
               rw [hX29] at m29 hb3_29 hb8_29 ⊢
               clear hX29
               refine ft_one (by rfl) fun G30 hG30 => ?_
               refine step_appAt (by rfl) (.tmp 46) (.tmp 48) 30 30 (by rfl) 28 (.slice none 0 0) 1 24 Try.underlying30 infoStrs rfl (.slice p1 P.length p3) P.length cs 0 _ 1 [.slice f5 L.length c5] (by rfl) (by rfl) m29.out.hp.own (by omega) (srcP hb3_29.out rfl) (by have := HPK.out; unfold maxLen; omega) (by have := HPK.out; omega) ?_
               intro pA X30 ho hc hn _
               obtain ⟨pa30, pc30, rfl, _, _⟩ := Own.form ho
               have m30 := hide (m29.out.appP ho hc hn)
               have hb8_30 := hide (m29.out.keepI hb8_29.out hc)
               clear ho hc hn
               refine hG30.out _ _ (Blk.cell m30.out.box 7) ?_
               simp only [Act.put, List.setIfInBounds_toArray, List.set_cons_zero, List.set_cons_succ]
               refine ⟨?_, ?_⟩
               ·refine ft_one (by rfl) fun G31 hG31 => ?_
                refine step_appAt (by rfl) (.tmp 51) (.tmp 53) 31 31 (by rfl) 3 (.int .i64 0) 1 8 Try.underlying31 infoInt rfl (.slice k1 K.length k3) K.length (K.map (Value.int .i64)) 0 _ 1 [.int .i64 body] (by rfl) (by rfl) m30.out.hk.own (by omega) (srcI2 hb8_30.out) (by have := HPK.out; unfold maxLen; omega) (by have := HPK.out; omega) ?_
                intro qA X31 ho hc hn _
                obtain ⟨qa31, qc31, rfl, _, _⟩ := Own.form ho
                have m31 := hide (m30.out.appK ho hc hn)
                clear ho hc hn
                refine hG31.out _ _ (Blk.cell m31.out.box 7) ?_
                simp only [Act.put, List.setIfInBounds_toArray, List.set_cons_zero, List.set_cons_succ]
                refine ft_one (by rfl) fun G32 hG32 => ?_
                refine step_val (.pointer (some ⟨B, 6, none⟩)) X31 (by rfl) (by go_simp) ?_
                refine hG32.out _ _ (Blk.cell m31.out.box 7) ?_
                simp only [Act.put, List.setIfInBounds_toArray, List.set_cons_zero, List.set_cons_succ]
                refine ft_one (by rfl) fun G33 hG33 => ?_
                have x6_33 : X31.cell? ⟨B, 6, none⟩ = some (.slice p1 P.length p3) := Blk.cell m31.out.box 6
                have z6_33 := Blk.frozen m31.out.box 6
                have l6_33 := Blk.lt m31.out.box
                refine step_skip (X31.setCell ⟨B, 6, none⟩ (.slice pa30 (P.length + 1) pc30)) (by rfl) (by go_simp) ?_
                refine hG33.out _ _ (Blk.cell (Blk.set_ m31.out.box 6 (.slice pa30 (P.length + 1) pc30)) 7) ?_
                simp only [Act.put]
                refine ft_one (by rfl) fun G34 hG34 => ?_
                refine step_val (.pointer (some ⟨B, 7, none⟩)) (X31.setCell ⟨B, 6, none⟩ (.slice pa30 (P.length + 1) pc30)) (by rfl) (by go_simp) ?_
                refine hG34.out _ _ (Blk.cell (Blk.set_ m31.out.box 6 (.slice pa30 (P.length + 1) pc30)) 7) ?_
                simp only [Act.put, List.setIfInBounds_toArray, List.set_cons_zero, List.set_cons_succ]
                refine ft_lastQ (by rfl) ?_
                have x7l : (X31.setCell ⟨B, 6, none⟩ (.slice pa30 (P.length + 1) pc30)).cell? ⟨B, 7, none⟩ = some (.slice k1 K.length k3) := Blk.cell (Blk.set_ m31.out.box 6 (.slice pa30 (P.length + 1) pc30)) 7
                have z7l := Blk.frozen (Blk.set_ m31.out.box 6 (.slice pa30 (P.length + 1) pc30)) 7
                have l7l := Blk.lt (Blk.set_ m31.out.box 6 (.slice pa30 (P.length + 1) pc30))
                have KF := hide (CaseAt.fin K9.out HAV.out HOW.out H3.out m31.out H5.out H5n.out)
                go_wp2_with fail
                go_meet
                case rel => exact ⟨_, _, KF.out⟩
               ·refine ft_one (by rfl) fun G35 hG35 => ?_
                refine step_val (.pointer (some ⟨B, 6, none⟩)) X30 (by rfl) (by go_simp) ?_
                refine hG35.out _ _ (Blk.cell m30.out.box 7) ?_
                simp only [Act.put, List.setIfInBounds_toArray, List.set_cons_zero, List.set_cons_succ]
                refine ft_one (by rfl) fun G36 hG36 => ?_
                refine step_appAt (by rfl) (.tmp 51) (.tmp 53) 31 31 (by rfl) 3 (.int .i64 0) 1 8 Try.underlying31 infoInt rfl (.slice k1 K.length k3) K.length (K.map (Value.int .i64)) 0 _ 1 [.int .i64 body] (by rfl) (by rfl) m30.out.hk.own (by omega) (srcI2 hb8_30.out) (by have := HPK.out; unfold maxLen; omega) (by have := HPK.out; omega) ?_
                intro qA X36 ho hc hn _
                obtain ⟨qa36, qc36, rfl, _, _⟩ := Own.form ho
                have m36 := hide (m30.out.appK ho hc hn)
                clear ho hc hn
                refine hG36.out _ _ (Blk.cell m36.out.box 7) ?_
                simp only [Act.put, List.setIfInBounds_toArray, List.set_cons_zero, List.set_cons_succ]
                refine ft_one (by rfl) fun G37 hG37 => ?_
                have x6_37 : X36.cell? ⟨B, 6, none⟩ = some (.slice p1 P.length p3) := Blk.cell m36.out.box 6
                have z6_37 := Blk.frozen m36.out.box 6
                have l6_37 := Blk.lt m36.out.box
                refine step_skip (X36.setCell ⟨B, 6, none⟩ (.slice pa30 (P.length + 1) pc30)) (by rfl) (by go_simp) ?_
                refine hG37.out _ _ (Blk.cell (Blk.set_ m36.out.box 6 (.slice pa30 (P.length + 1) pc30)) 7) ?_
                simp only [Act.put]
                refine ft_one (by rfl) fun G38 hG38 => ?_
                refine step_val (.pointer (some ⟨B, 7, none⟩)) (X36.setCell ⟨B, 6, none⟩ (.slice pa30 (P.length + 1) pc30)) (by rfl) (by go_simp) ?_
                refine hG38.out _ _ (Blk.cell (Blk.set_ m36.out.box 6 (.slice pa30 (P.length + 1) pc30)) 7) ?_
                simp only [Act.put, List.setIfInBounds_toArray, List.set_cons_zero, List.set_cons_succ]
                refine ft_lastQ (by rfl) ?_
                have x7l : (X36.setCell ⟨B, 6, none⟩ (.slice pa30 (P.length + 1) pc30)).cell? ⟨B, 7, none⟩ = some (.slice k1 K.length k3) := Blk.cell (Blk.set_ m36.out.box 6 (.slice pa30 (P.length + 1) pc30)) 7
                have z7l := Blk.frozen (Blk.set_ m36.out.box 6 (.slice pa30 (P.length + 1) pc30)) 7
                have l7l := Blk.lt (Blk.set_ m36.out.box 6 (.slice pa30 (P.length + 1) pc30))
                have KF := hide (CaseAt.fin K9.out HAV.out HOW.out H3.out m36.out H5.out H5n.out)
                go_wp2_with fail
                go_meet
                case rel => exact ⟨_, _, KF.out⟩
             ·refine ft_one (by rfl) fun G39 hG39 => ?_
              refine step_val (.slice (some ⟨wc.drew.heap.size, 0, none⟩) 1 1) (wc.drew.alloc (.cells #[.slice f5 L.length c5] 28)) (by rfl) (by go_simp) ?_
              have m39 := hide (m0.out.alloc (.cells #[.slice f5 L.length c5] 28))
              have hb3_39 := hide (Blk.new wc.drew 28 #[.slice f5 L.length c5])
              refine hG39.out _ _ (Blk.cell m39.out.box 7) ?_
              simp only [Act.put, List.setIfInBounds_toArray, List.set_cons_zero, List.set_cons_succ]
              obtain ⟨X39, hX39⟩ : ∃ X39, wc.drew.alloc (.cells #[.slice f5 L.length c5] 28) = X39 := ⟨_, rfl⟩
              rw [hX39] at m39 hb3_39 ⊢
              clear hX39
              refine ⟨?_, ?_⟩
              ·refine ft_one (by rfl) fun G40 hG40 => ?_
               have x6_40 : X39.cell? ⟨B, 6, none⟩ = some (.slice p1 P.length p3) := Blk.cell m39.out.box 6
               refine step_val (.slice p1 P.length p3) X39 (by rfl) (by go_simp) ?_
               refine hG40.out _ _ (Blk.cell m39.out.box 7) ?_
               simp only [Act.put, List.setIfInBounds_toArray, List.set_cons_zero, List.set_cons_succ]
               refine ⟨?_, ?_⟩
               ·refine ft_one (by rfl) fun G41 hG41 => ?_
                refine step_appAt (by rfl) (.tmp 46) (.tmp 48) 30 30 (by rfl) 28 (.slice none 0 0) 1 24 Try.underlying30 infoStrs rfl (.slice p1 P.length p3) P.length cs 0 _ 1 [.slice f5 L.length c5] (by rfl) (by rfl) m39.out.hp.own (by omega) (srcP hb3_39.out rfl) (by have := HPK.out; unfold maxLen; omega) (by have := HPK.out; omega) ?_
                intro pA X41 ho hc hn _
                obtain ⟨pa41, pc41, rfl, _, _⟩ := Own.form ho
                have m41 := hide (m39.out.appP ho hc hn)
                clear ho hc hn
                refine hG41.out _ _ (Blk.cell m41.out.box 7) ?_
                simp only [Act.put, List.setIfInBounds_toArray, List.set_cons_zero, List.set_cons_succ]
                refine ⟨?_, ?_⟩
                ·refine ft_one (by rfl) fun G42 hG42 => ?_
                 refine step_val (.slice (some ⟨X41.heap.size, 0, none⟩) 1 1) (X41.alloc (.cells #[.int .i64 body] 3)) (by rfl) (by go_simp) ?_
                 have m42 := hide (m41.out.alloc (.cells #[.int .i64 body] 3))
                 have hb8_42 := hide (Blk.new X41 3 #[.int .i64 body])
                 refine hG42.out _ _ (Blk.cell m42.out.box 7) ?_
                 simp only [Act.put, List.setIfInBounds_toArray, List.set_cons_zero, List.set_cons_succ]
                 obtain ⟨X42, hX42⟩ : ∃ X42, X41.alloc (.cells #[.int .i64 body] 3) = X42 := ⟨_, rfl⟩
                 rw [hX42] at m42 hb8_42 ⊢
                 clear hX42
                 refine ⟨?_, ?_⟩
                 ·refine ft_one (by rfl) fun G43 hG43 => ?_
                  refine step_appAt (by rfl) (.tmp 51) (.tmp 53) 31 31 (by rfl) 3 (.int .i64 0) 1 8 Try.underlying31 infoInt rfl (.slice k1 K.length k3) K.length (K.map (Value.int .i64)) 0 _ 1 [.int .i64 body] (by rfl) (by rfl) m42.out.hk.own (by omega) (srcI2 hb8_42.out) (by have := HPK.out; unfold maxLen; omega) (by have := HPK.out; omega) ?_
                  intro qA X43 ho hc hn _
                  obtain ⟨qa43, qc43, rfl, _, _⟩ := Own.form ho
                  have m43 := hide (m42.out.appK ho hc hn)
                  clear ho hc hn
                  refine hG43.out _ _ (Blk.cell m43.out.box 7) ?_
                  simp only [Act.put, List.setIfInBounds_toArray, List.set_cons_zero, List.set_cons_succ]
                  refine ft_one (by rfl) fun G44 hG44 => ?_
                  refine step_val (.pointer (some ⟨B, 6, none⟩)) X43 (by rfl) (by go_simp) ?_
                  refine hG44.out _ _ (Blk.cell m43.out.box 7) ?_
                  simp only [Act.put, List.setIfInBounds_toArray, List.set_cons_zero, List.set_cons_succ]
                  refine ft_one (by rfl) fun G45 hG45 => ?_
                  have x6_45 : X43.cell? ⟨B, 6, none⟩ = some (.slice p1 P.length p3) := Blk.cell m43.out.box 6
                  have z6_45 := Blk.frozen m43.out.box 6
                  have l6_45 := Blk.lt m43.out.box
                  refine step_skip (X43.setCell ⟨B, 6, none⟩ (.slice pa41 (P.length + 1) pc41)) (by rfl) (by go_simp) ?_
                  refine hG45.out _ _ (Blk.cell (Blk.set_ m43.out.box 6 (.slice pa41 (P.length + 1) pc41)) 7) ?_
                  simp only [Act.put]
                  refine ft_one (by rfl) fun G46 hG46 => ?_
                  refine step_val (.pointer (some ⟨B, 7, none⟩)) (X43.setCell ⟨B, 6, none⟩ (.slice pa41 (P.length + 1) pc41)) (by rfl) (by go_simp) ?_
                  refine hG46.out _ _ (Blk.cell (Blk.set_ m43.out.box 6 (.slice pa41 (P.length + 1) pc41)) 7) ?_
                  simp only [Act.put, List.setIfInBounds_toArray, List.set_cons_zero, List.set_cons_succ]
                  refine ft_lastQ (by rfl) ?_
                  have x7l : (X43.setCell ⟨B, 6, none⟩ (.slice pa41 (P.length + 1) pc41)).cell? ⟨B, 7, none⟩ = some (.slice k1 K.length k3) := Blk.cell (Blk.set_ m43.out.box 6 (.slice pa41 (P.length + 1) pc41)) 7
                  have z7l := Blk.frozen (Blk.set_ m43.out.box 6 (.slice pa41 (P.length + 1) pc41)) 7
                  have l7l := Blk.lt (Blk.set_ m43.out.box 6 (.slice pa41 (P.length + 1) pc41))
                  have KF := hide (CaseAt.fin K9.out HAV.out HOW.out H3.out m43.out H5.out H5n.out)
                  go_wp2_with fail
                  go_meet
                  case rel => exact ⟨_, _, KF.out⟩
                 ·refine ft_one (by rfl) fun G47 hG47 => ?_
                  refine step_val (.pointer (some ⟨B, 6, none⟩)) X42 (by rfl) (by go_simp) ?_
                  refine hG47.out _ _ (Blk.cell m42.out.box 7) ?_
                  simp only [Act.put, List.setIfInBounds_toArray, List.set_cons_zero, List.set_cons_succ]
                  refine ft_one (by rfl) fun G48 hG48 => ?_
                  refine step_appAt (by rfl) (.tmp 51) (.tmp 53) 31 31 (by rfl) 3 (.int .i64 0) 1 8 Try.underlying31 infoInt rfl (.slice k1 K.length k3) K.length (K.map (Value.int .i64)) 0 _ 1 [.int .i64 body] (by rfl) (by rfl) m42.out.hk.own (by omega) (srcI2 hb8_42.out) (by have := HPK.out; unfold maxLen; omega) (by have := HPK.out; omega) ?_
                  intro qA X48 ho hc hn _
                  obtain ⟨qa48, qc48, rfl, _, _⟩ := Own.form ho
                  have m48 := hide (m42.out.appK ho hc hn)
                  clear ho hc hn
                  refine hG48.out _ _ (Blk.cell m48.out.box 7) ?_
                  simp only [Act.put, List.setIfInBounds_toArray, List.set_cons_zero, List.set_cons_succ]
                  refine ft_one (by rfl) fun G49 hG49 => ?_
                  have x6_49 : X48.cell? ⟨B, 6, none⟩ = some (.slice p1 P.length p3) := Blk.cell m48.out.box 6
                  have z6_49 := Blk.frozen m48.out.box 6
                  have l6_49 := Blk.lt m48.out.box
                  refine step_skip (X48.setCell ⟨B, 6, none⟩ (.slice pa41 (P.length + 1) pc41)) (by rfl) (by go_simp) ?_
                  refine hG49.out _ _ (Blk.cell (Blk.set_ m48.out.box 6 (.slice pa41 (P.length + 1) pc41)) 7) ?_
                  simp only [Act.put]
                  refine ft_one (by rfl) fun G50 hG50 => ?_
                  refine step_val (.pointer (some ⟨B, 7, none⟩)) (X48.setCell ⟨B, 6, none⟩ (.slice pa41 (P.length + 1) pc41)) (by rfl) (by go_simp) ?_
                  refine hG50.out _ _ (Blk.cell (Blk.set_ m48.out.box 6 (.slice pa41 (P.length + 1) pc41)) 7) ?_
                  simp only [Act.put, List.setIfInBounds_toArray, List.set_cons_zero, List.set_cons_succ]
                  refine ft_lastQ (by rfl) ?_
                  have x7l : (X48.setCell ⟨B, 6, none⟩ (.slice pa41 (P.length + 1) pc41)).cell? ⟨B, 7, none⟩ = some (.slice k1 K.length k3) := Blk.cell (Blk.set_ m48.out.box 6 (.slice pa41 (P.length + 1) pc41)) 7
                  have z7l := Blk.frozen (Blk.set_ m48.out.box 6 (.slice pa41 (P.length + 1) pc41)) 7
                  have l7l := Blk.lt (Blk.set_ m48.out.box 6 (.slice pa41 (P.length + 1) pc41))
                  have KF := hide (CaseAt.fin K9.out HAV.out HOW.out H3.out m48.out H5.out H5n.out)
                  go_wp2_with fail
                  go_meet
                  case rel => exact ⟨_, _, KF.out⟩
                ·refine ft_one (by rfl) fun G51 hG51 => ?_
                 refine step_val (.pointer (some ⟨B, 6, none⟩)) X41 (by rfl) (by go_simp) ?_
                 refine hG51.out _ _ (Blk.cell m41.out.box 7) ?_
                 simp only [Act.put, List.setIfInBounds_toArray, List.set_cons_zero, List.set_cons_succ]
                 refine ft_one (by rfl) fun G52 hG52 => ?_
                 refine step_val (.slice (some ⟨X41.heap.size, 0, none⟩) 1 1) (X41.alloc (.cells #[.int .i64 body] 3)) (by rfl) (by go_simp) ?_
                 have m52 := hide (m41.out.alloc (.cells #[.int .i64 body] 3))
                 have hb8_52 := hide (Blk.new X41 3 #[.int .i64 body])
                 refine hG52.out _ _ (Blk.cell m52.out.box 7) ?_
                 simp only [Act.put, List.setIfInBounds_toArray, List.set_cons_zero, List.set_cons_succ]
                 obtain ⟨X52, hX52⟩ : ∃ X52, X41.alloc (.cells #[.int .i64 body] 3) = X52 := ⟨_, rfl⟩
                 rw [hX52] at m52 hb8_52 ⊢
                 clear hX52
                 refine ft_one (by rfl) fun G53 hG53 => ?_
                 refine step_appAt (by rfl) (.tmp 51) (.tmp 53) 31 31 (by rfl) 3 (.int .i64 0) 1 8 Try.underlying31 infoInt rfl (.slice k1 K.length k3) K.length (K.map (Value.int .i64)) 0 _ 1 [.int .i64 body] (by rfl) (by rfl) m52.out.hk.own (by omega) (srcI2 hb8_52.out) (by have := HPK.out; unfold maxLen; omega) (by have := HPK.out; omega) ?_
                 intro qA X53 ho hc hn _
                 obtain ⟨qa53, qc53, rfl, _, _⟩ := Own.form ho
                 have m53 := hide (m52.out.appK ho hc hn)
                 clear ho hc hn
                 refine hG53.out _ _ (Blk.cell m53.out.box 7) ?_
                 simp only [Act.put, List.setIfInBounds_toArray, List.set_cons_zero, List.set_cons_succ]
                 refine ft_one (by rfl) fun G54 hG54 => ?_
                 have x6_54 : X53.cell? ⟨B, 6, none⟩ = some (.slice p1 P.length p3) := Blk.cell m53.out.box 6
                 have z6_54 := Blk.frozen m53.out.box 6
                 have l6_54 := Blk.lt m53.out.box
                 refine step_skip (X53.setCell ⟨B, 6, none⟩ (.slice pa41 (P.length + 1) pc41)) (by rfl) (by go_simp) ?_
                 refine hG54.out _ _ (Blk.cell (Blk.set_ m53.out.box 6 (.slice pa41 (P.length + 1) pc41)) 7) ?_
                 simp only [Act.put]
                 refine ft_one (by rfl) fun G55 hG55 => ?_
                 refine step_val (.pointer (some ⟨B, 7, none⟩)) (X53.setCell ⟨B, 6, none⟩ (.slice pa41 (P.length + 1) pc41)) (by rfl) (by go_simp) ?_
                 refine hG55.out _ _ (Blk.cell (Blk.set_ m53.out.box 6 (.slice pa41 (P.length + 1) pc41)) 7) ?_
                 simp only [Act.put, List.setIfInBounds_toArray, List.set_cons_zero, List.set_cons_succ]
                 refine ft_lastQ (by rfl) ?_
                 have x7l : (X53.setCell ⟨B, 6, none⟩ (.slice pa41 (P.length + 1) pc41)).cell? ⟨B, 7, none⟩ = some (.slice k1 K.length k3) := Blk.cell (Blk.set_ m53.out.box 6 (.slice pa41 (P.length + 1) pc41)) 7
                 have z7l := Blk.frozen (Blk.set_ m53.out.box 6 (.slice pa41 (P.length + 1) pc41)) 7
                 have l7l := Blk.lt (Blk.set_ m53.out.box 6 (.slice pa41 (P.length + 1) pc41))
                 have KF := hide (CaseAt.fin K9.out HAV.out HOW.out H3.out m53.out H5.out H5n.out)
                 go_wp2_with fail
                 go_meet
                 case rel => exact ⟨_, _, KF.out⟩
               ·refine ft_one (by rfl) fun G56 hG56 => ?_
                refine step_val (.slice (some ⟨X39.heap.size, 0, none⟩) 1 1) (X39.alloc (.cells #[.int .i64 body] 3)) (by rfl) (by go_simp) ?_
                have m56 := hide (m39.out.alloc (.cells #[.int .i64 body] 3))
                have hb8_56 := hide (Blk.new X39 3 #[.int .i64 body])
                have hb3_56 := hide (hb3_39.out.alloc (.cells #[.int .i64 body] 3))
                refine hG56.out _ _ (Blk.cell m56.out.box 7) ?_
                simp only [Act.put, List.setIfInBounds_toArray, List.set_cons_zero, List.set_cons_succ]
                obtain ⟨X56, hX56⟩ : ∃ X56, X39.alloc (.cells #[.int .i64 body] 3) = X56 := ⟨_, rfl⟩
                rw [hX56] at m56 hb3_56 hb8_56 ⊢
                clear hX56
                refine ft_one (by rfl) fun G57 hG57 => ?_
                refine step_appAt (by rfl) (.tmp 46) (.tmp 48) 30 30 (by rfl) 28 (.slice none 0 0) 1 24 Try.underlying30 infoStrs rfl (.slice p1 P.length p3) P.length cs 0 _ 1 [.slice f5 L.length c5] (by rfl) (by rfl) m56.out.hp.own (by omega) (srcP hb3_56.out rfl) (by have := HPK.out; unfold maxLen; omega) (by have := HPK.out; omega) ?_
                intro pA X57 ho hc hn _
                obtain ⟨pa57, pc57, rfl, _, _⟩ := Own.form ho
                have m57 := hide (m56.out.appP ho hc hn)
                have hb8_57 := hide (m56.out.keepI hb8_56.out hc)
                clear ho hc hn
                refine hG57.out _ _ (Blk.cell m57.out.box 7) ?_
                simp only [Act.put, List.setIfInBounds_toArray, List.set_cons_zero, List.set_cons_succ]
                refine ⟨?_, ?_⟩
                ·refine ft_one (by rfl) fun G58 hG58 => ?_
                 refine step_appAt (by rfl) (.tmp 51) (.tmp 53) 31 31 (by rfl) 3 (.int .i64 0) 1 8 Try.underlying31 infoInt rfl (.slice k1 K.length k3) K.length (K.map (Value.int .i64)) 0 _ 1 [.int .i64 body] (by rfl) (by rfl) m57.out.hk.own (by omega) (srcI2 hb8_57.out) (by have := HPK.out; unfold maxLen; omega) (by have := HPK.out; omega) ?_
                 intro qA X58 ho hc hn _
                 obtain ⟨qa58, qc58, rfl, _, _⟩ := Own.form ho
                 have m58 := hide (m57.out.appK ho hc hn)
                 clear ho hc hn
                 refine hG58.out _ _ (Blk.cell m58.out.box 7) ?_
                 simp only [Act.put, List.setIfInBounds_toArray, List.set_cons_zero, List.set_cons_succ]
                 refine ft_one (by rfl) fun G59 hG59 => ?_
                 refine step_val (.pointer (some ⟨B, 6, none⟩)) X58 (by rfl) (by go_simp) ?_
                 refine hG59.out _ _ (Blk.cell m58.out.box 7) ?_
                 simp only [Act.put, List.setIfInBounds_toArray, List.set_cons_zero, List.set_cons_succ]
                 refine ft_one (by rfl) fun G60 hG60 => ?_
                 have x6_60 : X58.cell? ⟨B, 6, none⟩ = some (.slice p1 P.length p3) := Blk.cell m58.out.box 6
                 have z6_60 := Blk.frozen m58.out.box 6
                 have l6_60 := Blk.lt m58.out.box
                 refine step_skip (X58.setCell ⟨B, 6, none⟩ (.slice pa57 (P.length + 1) pc57)) (by rfl) (by go_simp) ?_
                 refine hG60.out _ _ (Blk.cell (Blk.set_ m58.out.box 6 (.slice pa57 (P.length + 1) pc57)) 7) ?_
                 simp only [Act.put]
                 refine ft_one (by rfl) fun G61 hG61 => ?_
                 refine step_val (.pointer (some ⟨B, 7, none⟩)) (X58.setCell ⟨B, 6, none⟩ (.slice pa57 (P.length + 1) pc57)) (by rfl) (by go_simp) ?_
                 refine hG61.out _ _ (Blk.cell (Blk.set_ m58.out.box 6 (.slice pa57 (P.length + 1) pc57)) 7) ?_
                 simp only [Act.put, List.setIfInBounds_toArray, List.set_cons_zero, List.set_cons_succ]
                 refine ft_lastQ (by rfl) ?_
                 have x7l : (X58.setCell ⟨B, 6, none⟩ (.slice pa57 (P.length + 1) pc57)).cell? ⟨B, 7, none⟩ = some (.slice k1 K.length k3) := Blk.cell (Blk.set_ m58.out.box 6 (.slice pa57 (P.length + 1) pc57)) 7
                 have z7l := Blk.frozen (Blk.set_ m58.out.box 6 (.slice pa57 (P.length + 1) pc57)) 7
                 have l7l := Blk.lt (Blk.set_ m58.out.box 6 (.slice pa57 (P.length + 1) pc57))
                 have KF := hide (CaseAt.fin K9.out HAV.out HOW.out H3.out m58.out H5.out H5n.out)
                 go_wp2_with fail
                 go_meet
                 case rel => exact ⟨_, _, KF.out⟩
                ·refine ft_one (by rfl) fun G62 hG62 => ?_
                 refine step_val (.pointer (some ⟨B, 6, none⟩)) X57 (by rfl) (by go_simp) ?_
                 refine hG62.out _ _ (Blk.cell m57.out.box 7) ?_
                 simp only [Act.put, List.setIfInBounds_toArray, List.set_cons_zero, List.set_cons_succ]
                 refine ft_one (by rfl) fun G63 hG63 => ?_
                 refine step_appAt (by rfl) (.tmp 51) (.tmp 53) 31 31 (by rfl) 3 (.int .i64 0) 1 8 Try.underlying31 infoInt rfl (.slice k1 K.length k3) K.length (K.map (Value.int .i64)) 0 _ 1 [.int .i64 body] (by rfl) (by rfl) m57.out.hk.own (by omega) (srcI2 hb8_57.out) (by have := HPK.out; unfold maxLen; omega) (by have := HPK.out; omega) ?_
                 intro qA X63 ho hc hn _
                 obtain ⟨qa63, qc63, rfl, _, _⟩ := Own.form ho
                 have m63 := hide (m57.out.appK ho hc hn)
                 clear ho hc hn
                 refine hG63.out _ _ (Blk.cell m63.out.box 7) ?_
                 simp only [Act.put, List.setIfInBounds_toArray, List.set_cons_zero, List.set_cons_succ]
                 refine ft_one (by rfl) fun G64 hG64 => ?_
                 have x6_64 : X63.cell? ⟨B, 6, none⟩ = some (.slice p1 P.length p3) := Blk.cell m63.out.box 6
                 have z6_64 := Blk.frozen m63.out.box 6
                 have l6_64 := Blk.lt m63.out.box
                 refine step_skip (X63.setCell ⟨B, 6, none⟩ (.slice pa57 (P.length + 1) pc57)) (by rfl) (by go_simp) ?_
                 refine hG64.out _ _ (Blk.cell (Blk.set_ m63.out.box 6 (.slice pa57 (P.length + 1) pc57)) 7) ?_
                 simp only [Act.put]
                 refine ft_one (by rfl) fun G65 hG65 => ?_
                 refine step_val (.pointer (some ⟨B, 7, none⟩)) (X63.setCell ⟨B, 6, none⟩ (.slice pa57 (P.length + 1) pc57)) (by rfl) (by go_simp) ?_
                 refine hG65.out _ _ (Blk.cell (Blk.set_ m63.out.box 6 (.slice pa57 (P.length + 1) pc57)) 7) ?_
                 simp only [Act.put, List.setIfInBounds_toArray, List.set_cons_zero, List.set_cons_succ]
                 refine ft_lastQ (by rfl) ?_
                 have x7l : (X63.setCell ⟨B, 6, none⟩ (.slice pa57 (P.length + 1) pc57)).cell? ⟨B, 7, none⟩ = some (.slice k1 K.length k3) := Blk.cell (Blk.set_ m63.out.box 6 (.slice pa57 (P.length + 1) pc57)) 7
                 have z7l := Blk.frozen (Blk.set_ m63.out.box 6 (.slice pa57 (P.length + 1) pc57)) 7
                 have l7l := Blk.lt (Blk.set_ m63.out.box 6 (.slice pa57 (P.length + 1) pc57))
                 have KF := hide (CaseAt.fin K9.out HAV.out HOW.out H3.out m63.out H5.out H5n.out)
                 go_wp2_with fail
                 go_meet
                 case rel => exact ⟨_, _, KF.out⟩
              ·refine ft_one (by rfl) fun G66 hG66 => ?_
               refine step_val (.slice (some ⟨X39.heap.size, 0, none⟩) 1 1) (X39.alloc (.cells #[.int .i64 body] 3)) (by rfl) (by go_simp) ?_
               have m66 := hide (m39.out.alloc (.cells #[.int .i64 body] 3))
               have hb8_66 := hide (Blk.new X39 3 #[.int .i64 body])
               have hb3_66 := hide (hb3_39.out.alloc (.cells #[.int .i64 body] 3))
               refine hG66.out _ _ (Blk.cell m66.out.box 7) ?_
               simp only [Act.put, List.setIfInBounds_toArray, List.set_cons_zero, List.set_cons_succ]
               obtain ⟨X66, hX66⟩ : ∃ X66, X39.alloc (.cells #[.int .i64 body] 3) = X66 := ⟨_, rfl⟩
               rw [hX66] at m66 hb3_66 hb8_66 ⊢
               clear hX66
               refine ft_one (by rfl) fun G67 hG67 => ?_
               have x6_67 : X66.cell? ⟨B, 6, none⟩ = some (.slice p1 P.length p3) := Blk.cell m66.out.box 6
               refine step_val (.slice p1 P.length p3) X66 (by rfl) (by go_simp) ?_
               refine hG67.out _ _ (Blk.cell m66.out.box 7) ?_
               simp only [Act.put, List.setIfInBounds_toArray, List.set_cons_zero, List.set_cons_succ]
               refine ft_one (by rfl) fun G68 hG68 => ?_
               refine step_appAt (by rfl) (.tmp 46) (.tmp 48) 30 30 (by rfl) 28 (.slice none 0 0) 1 24 Try.underlying30 infoStrs rfl (.slice p1 P.length p3) P.length cs 0 _ 1 [.slice f5 L.length c5] (by rfl) (by rfl) m66.out.hp.own (by omega) (srcP hb3_66.out rfl) (by have := HPK.out; unfold maxLen; omega) (by have := HPK.out; omega) ?_
               intro pA X68 ho hc hn _
               obtain ⟨pa68, pc68, rfl, _, _⟩ := Own.form ho
               have m68 := hide (m66.out.appP ho hc hn)
               have hb8_68 := hide (m66.out.keepI hb8_66.out hc)
               clear ho hc hn
               refine hG68.out _ _ (Blk.cell m68.out.box 7) ?_
               simp only [Act.put, List.setIfInBounds_toArray, List.set_cons_zero, List.set_cons_succ]
               refine ⟨?_, ?_⟩
               ·refine ft_one (by rfl) fun G69 hG69 => ?_
                refine step_appAt (by rfl) (.tmp 51) (.tmp 53) 31 31 (by rfl) 3 (.int .i64 0) 1 8 Try.underlying31 infoInt rfl (.slice k1 K.length k3) K.length (K.map (Value.int .i64)) 0 _ 1 [.int .i64 body] (by rfl) (by rfl) m68.out.hk.own (by omega) (srcI2 hb8_68.out) (by have := HPK.out; unfold maxLen; omega) (by have := HPK.out; omega) ?_
                intro qA X69 ho hc hn _
                obtain ⟨qa69, qc69, rfl, _, _⟩ := Own.form ho
                have m69 := hide (m68.out.appK ho hc hn)
                clear ho hc hn
                refine hG69.out _ _ (Blk.cell m69.out.box 7) ?_
                simp only [Act.put, List.setIfInBounds_toArray, List.set_cons_zero, List.set_cons_succ]
                refine ft_one (by rfl) fun G70 hG70 => ?_
                refine step_val (.pointer (some ⟨B, 6, none⟩)) X69 (by rfl) (by go_simp) ?_
                refine hG70.out _ _ (Blk.cell m69.out.box 7) ?_
                simp only [Act.put, List.setIfInBounds_toArray, List.set_cons_zero, List.set_cons_succ]
                refine ft_one (by rfl) fun G71 hG71 => ?_
                have x6_71 : X69.cell? ⟨B, 6, none⟩ = some (.slice p1 P.length p3) := Blk.cell m69.out.box 6
                have z6_71 := Blk.frozen m69.out.box 6
                have l6_71 := Blk.lt m69.out.box
                refine step_skip (X69.setCell ⟨B, 6, none⟩ (.slice pa68 (P.length + 1) pc68)) (by rfl) (by go_simp) ?_
                refine hG71.out _ _ (Blk.cell (Blk.set_ m69.out.box 6 (.slice pa68 (P.length + 1) pc68)) 7) ?_
                simp only [Act.put]
                refine ft_one (by rfl) fun G72 hG72 => ?_
                refine step_val (.pointer (some ⟨B, 7, none⟩)) (X69.setCell ⟨B, 6, none⟩ (.slice pa68 (P.length + 1) pc68)) (by rfl) (by go_simp) ?_
                refine hG72.out _ _ (Blk.cell (Blk.set_ m69.out.box 6 (.slice pa68 (P.length + 1) pc68)) 7) ?_
                simp only [Act.put, List.setIfInBounds_toArray, List.set_cons_zero, List.set_cons_succ]
                refine ft_lastQ (by rfl) ?_
                have x7l : (X69.setCell ⟨B, 6, none⟩ (.slice pa68 (P.length + 1) pc68)).cell? ⟨B, 7, none⟩ = some (.slice k1 K.length k3) := Blk.cell (Blk.set_ m69.out.box 6 (.slice pa68 (P.length + 1) pc68)) 7
                have z7l := Blk.frozen (Blk.set_ m69.out.box 6 (.slice pa68 (P.length + 1) pc68)) 7
                have l7l := Blk.lt (Blk.set_ m69.out.box 6 (.slice pa68 (P.length + 1) pc68))
                have KF := hide (CaseAt.fin K9.out HAV.out HOW.out H3.out m69.out H5.out H5n.out)
                go_wp2_with fail
                go_meet
                case rel => exact ⟨_, _, KF.out⟩
               ·refine ft_one (by rfl) fun G73 hG73 => ?_
                refine step_val (.pointer (some ⟨B, 6, none⟩)) X68 (by rfl) (by go_simp) ?_
                refine hG73.out _ _ (Blk.cell m68.out.box 7) ?_
                simp only [Act.put, List.setIfInBounds_toArray, List.set_cons_zero, List.set_cons_succ]
                refine ft_one (by rfl) fun G74 hG74 => ?_
                refine step_appAt (by rfl) (.tmp 51) (.tmp 53) 31 31 (by rfl) 3 (.int .i64 0) 1 8 Try.underlying31 infoInt rfl (.slice k1 K.length k3) K.length (K.map (Value.int .i64)) 0 _ 1 [.int .i64 body] (by rfl) (by rfl) m68.out.hk.own (by omega) (srcI2 hb8_68.out) (by have := HPK.out; unfold maxLen; omega) (by have := HPK.out; omega) ?_
                intro qA X74 ho hc hn _
                obtain ⟨qa74, qc74, rfl, _, _⟩ := Own.form ho
                have m74 := hide (m68.out.appK ho hc hn)
                clear ho hc hn
                refine hG74.out _ _ (Blk.cell m74.out.box 7) ?_
                simp only [Act.put, List.setIfInBounds_toArray, List.set_cons_zero, List.set_cons_succ]
                refine ft_one (by rfl) fun G75 hG75 => ?_
                have x6_75 : X74.cell? ⟨B, 6, none⟩ = some (.slice p1 P.length p3) := Blk.cell m74.out.box 6
                have z6_75 := Blk.frozen m74.out.box 6
                have l6_75 := Blk.lt m74.out.box
                refine step_skip (X74.setCell ⟨B, 6, none⟩ (.slice pa68 (P.length + 1) pc68)) (by rfl) (by go_simp) ?_
                refine hG75.out _ _ (Blk.cell (Blk.set_ m74.out.box 6 (.slice pa68 (P.length + 1) pc68)) 7) ?_
                simp only [Act.put]
                refine ft_one (by rfl) fun G76 hG76 => ?_
                refine step_val (.pointer (some ⟨B, 7, none⟩)) (X74.setCell ⟨B, 6, none⟩ (.slice pa68 (P.length + 1) pc68)) (by rfl) (by go_simp) ?_
                refine hG76.out _ _ (Blk.cell (Blk.set_ m74.out.box 6 (.slice pa68 (P.length + 1) pc68)) 7) ?_
                simp only [Act.put, List.setIfInBounds_toArray, List.set_cons_zero, List.set_cons_succ]
                refine ft_lastQ (by rfl) ?_
                have x7l : (X74.setCell ⟨B, 6, none⟩ (.slice pa68 (P.length + 1) pc68)).cell? ⟨B, 7, none⟩ = some (.slice k1 K.length k3) := Blk.cell (Blk.set_ m74.out.box 6 (.slice pa68 (P.length + 1) pc68)) 7
                have z7l := Blk.frozen (Blk.set_ m74.out.box 6 (.slice pa68 (P.length + 1) pc68)) 7
                have l7l := Blk.lt (Blk.set_ m74.out.box 6 (.slice pa68 (P.length + 1) pc68))
                have KF := hide (CaseAt.fin K9.out HAV.out HOW.out H3.out m74.out H5.out H5n.out)
                go_wp2_with fail
                go_meet
                case rel => exact ⟨_, _, KF.out⟩
             ·refine ft_one (by rfl) fun G77 hG77 => ?_
              refine step_val (.slice (some ⟨wc.drew.heap.size, 0, none⟩) 1 1) (wc.drew.alloc (.cells #[.int .i64 body] 3)) (by rfl) (by go_simp) ?_
              have m77 := hide (m0.out.alloc (.cells #[.int .i64 body] 3))
              have hb8_77 := hide (Blk.new wc.drew 3 #[.int .i64 body])
              refine hG77.out _ _ (Blk.cell m77.out.box 7) ?_
              simp only [Act.put, List.setIfInBounds_toArray, List.set_cons_zero, List.set_cons_succ]
              obtain ⟨X77, hX77⟩ : ∃ X77, wc.drew.alloc (.cells #[.int .i64 body] 3) = X77 := ⟨_, rfl⟩
              rw [hX77] at m77 hb8_77 ⊢
              clear hX77
              refine ⟨?_, ?_⟩
              ·refine ft_one (by rfl) fun G78 hG78 => ?_
               have x6_78 : X77.cell? ⟨B, 6, none⟩ = some (.slice p1 P.length p3) := Blk.cell m77.out.box 6
               refine step_val (.slice p1 P.length p3) X77 (by rfl) (by go_simp) ?_
               refine hG78.out _ _ (Blk.cell m77.out.box 7) ?_
               simp only [Act.put, List.setIfInBounds_toArray, List.set_cons_zero, List.set_cons_succ]
               refine ft_one (by rfl) fun G79 hG79 => ?_
               refine step_val (.slice (some ⟨X77.heap.size, 0, none⟩) 1 1) (X77.alloc (.cells #[.slice f5 L.length c5] 28)) (by rfl) (by go_simp) ?_
               have m79 := hide (m77.out.alloc (.cells #[.slice f5 L.length c5] 28))
               have hb3_79 := hide (Blk.new X77 28 #[.slice f5 L.length c5])
               have hb8_79 := hide (hb8_77.out.alloc (.cells #[.slice f5 L.length c5] 28))
               refine hG79.out _ _ (Blk.cell m79.out.box 7) ?_
               simp only [Act.put, List.setIfInBounds_toArray, List.set_cons_zero, List.set_cons_succ]
               obtain ⟨X79, hX79⟩ : ∃ X79, X77.alloc (.cells #[.slice f5 L.length c5] 28) = X79 := ⟨_, rfl⟩
               rw [hX79] at m79 hb3_79 hb8_79 ⊢
               clear hX79
               refine ft_one (by rfl) fun G80 hG80 => ?_
               refine step_appAt (by rfl) (.tmp 46) (.tmp 48) 30 30 (by rfl) 28 (.slice none 0 0) 1 24 Try.underlying30 infoStrs rfl (.slice p1 P.length p3) P.length cs 0 _ 1 [.slice f5 L.length c5] (by rfl) (by rfl) m79.out.hp.own (by omega) (srcP hb3_79.out rfl) (by have := HPK.out; unfold maxLen; omega) (by have := HPK.out; omega) ?_
               intro pA X80 ho hc hn _
               obtain ⟨pa80, pc80, rfl, _, _⟩ := Own.form ho
               have m80 := hide (m79.out.appP ho hc hn)
               have hb8_80 := hide (m79.out.keepI hb8_79.out hc)
               clear ho hc hn
               refine hG80.out _ _ (Blk.cell m80.out.box 7) ?_
               simp only [Act.put, List.setIfInBounds_toArray, List.set_cons_zero, List.set_cons_succ]
               refine ⟨?_, ?_⟩
               ·refine ft_one (by rfl) fun G81 hG81 => ?_
                refine step_appAt (by rfl) (.tmp 51) (.tmp 53) 31 31 (by rfl) 3 (.int .i64 0) 1 8 Try.underlying31 infoInt rfl (.slice k1 K.length k3) K.length (K.map (Value.int .i64)) 0 _ 1 [.int .i64 body] (by rfl) (by rfl) m80.out.hk.own (by omega) (srcI2 hb8_80.out) (by have := HPK.out; unfold maxLen; omega) (by have := HPK.out; omega) ?_
                intro qA X81 ho hc hn _
                obtain ⟨qa81, qc81, rfl, _, _⟩ := Own.form ho
                have m81 := hide (m80.out.appK ho hc hn)
                clear ho hc hn
                refine hG81.out _ _ (Blk.cell m81.out.box 7) ?_
                simp only [Act.put, List.setIfInBounds_toArray, List.set_cons_zero, List.set_cons_succ]
                refine ft_one (by rfl) fun G82 hG82 => ?_
                refine step_val (.pointer (some ⟨B, 6, none⟩)) X81 (by rfl) (by go_simp) ?_
                refine hG82.out _ _ (Blk.cell m81.out.box 7) ?_
                simp only [Act.put, List.setIfInBounds_toArray, List.set_cons_zero, List.set_cons_succ]
                refine ft_one (by rfl) fun G83 hG83 => ?_
                have x6_83 : X81.cell? ⟨B, 6, none⟩ = some (.slice p1 P.length p3) := Blk.cell m81.out.box 6
                have z6_83 := Blk.frozen m81.out.box 6
                have l6_83 := Blk.lt m81.out.box
                refine step_skip (X81.setCell ⟨B, 6, none⟩ (.slice pa80 (P.length + 1) pc80)) (by rfl) (by go_simp) ?_
                refine hG83.out _ _ (Blk.cell (Blk.set_ m81.out.box 6 (.slice pa80 (P.length + 1) pc80)) 7) ?_
                simp only [Act.put]
                refine ft_one (by rfl) fun G84 hG84 => ?_
                refine step_val (.pointer (some ⟨B, 7, none⟩)) (X81.setCell ⟨B, 6, none⟩ (.slice pa80 (P.length + 1) pc80)) (by rfl) (by go_simp) ?_
                refine hG84.out _ _ (Blk.cell (Blk.set_ m81.out.box 6 (.slice pa80 (P.length + 1) pc80)) 7) ?_
                simp only [Act.put, List.setIfInBounds_toArray, List.set_cons_zero, List.set_cons_succ]
                refine ft_lastQ (by rfl) ?_
                have x7l : (X81.setCell ⟨B, 6, none⟩ (.slice pa80 (P.length + 1) pc80)).cell? ⟨B, 7, none⟩ = some (.slice k1 K.length k3) := Blk.cell (Blk.set_ m81.out.box 6 (.slice pa80 (P.length + 1) pc80)) 7
                have z7l := Blk.frozen (Blk.set_ m81.out.box 6 (.slice pa80 (P.length + 1) pc80)) 7
                have l7l := Blk.lt (Blk.set_ m81.out.box 6 (.slice pa80 (P.length + 1) pc80))
                have KF := hide (CaseAt.fin K9.out HAV.out HOW.out H3.out m81.out H5.out H5n.out)
                go_wp2_with fail
                go_meet
                case rel => exact ⟨_, _, KF.out⟩
               ·refine ft_one (by rfl) fun G85 hG85 => ?_
                refine step_val (.pointer (some ⟨B, 6, none⟩)) X80 (by rfl) (by go_simp) ?_
                refine hG85.out _ _ (Blk.cell m80.out.box 7) ?_
                simp only [Act.put, List.setIfInBounds_toArray, List.set_cons_zero, List.set_cons_succ]
                refine ft_one (by rfl) fun G86 hG86 => ?_
                refine step_appAt (by rfl) (.tmp 51) (.tmp 53) 31 31 (by rfl) 3 (.int .i64 0) 1 8 Try.underlying31 infoInt rfl (.slice k1 K.length k3) K.length (K.map (Value.int .i64)) 0 _ 1 [.int .i64 body] (by rfl) (by rfl) m80.out.hk.own (by omega) (srcI2 hb8_80.out) (by have := HPK.out; unfold maxLen; omega) (by have := HPK.out; omega) ?_
                intro qA X86 ho hc hn _
                obtain ⟨qa86, qc86, rfl, _, _⟩ := Own.form ho
                have m86 := hide (m80.out.appK ho hc hn)
                clear ho hc hn
                refine hG86.out _ _ (Blk.cell m86.out.box 7) ?_
                simp only [Act.put, List.setIfInBounds_toArray, List.set_cons_zero, List.set_cons_succ]
                refine ft_one (by rfl) fun G87 hG87 => ?_
                have x6_87 : X86.cell? ⟨B, 6, none⟩ = some (.slice p1 P.length p3) := Blk.cell m86.out.box 6
                have z6_87 := Blk.frozen m86.out.box 6
                have l6_87 := Blk.lt m86.out.box
                refine step_skip (X86.setCell ⟨B, 6, none⟩ (.slice pa80 (P.length + 1) pc80)) (by rfl) (by go_simp) ?_
                refine hG87.out _ _ (Blk.cell (Blk.set_ m86.out.box 6 (.slice pa80 (P.length + 1) pc80)) 7) ?_
                simp only [Act.put]
                refine ft_one (by rfl) fun G88 hG88 => ?_
                refine step_val (.pointer (some ⟨B, 7, none⟩)) (X86.setCell ⟨B, 6, none⟩ (.slice pa80 (P.length + 1) pc80)) (by rfl) (by go_simp) ?_
                refine hG88.out _ _ (Blk.cell (Blk.set_ m86.out.box 6 (.slice pa80 (P.length + 1) pc80)) 7) ?_
                simp only [Act.put, List.setIfInBounds_toArray, List.set_cons_zero, List.set_cons_succ]
                refine ft_lastQ (by rfl) ?_
                have x7l : (X86.setCell ⟨B, 6, none⟩ (.slice pa80 (P.length + 1) pc80)).cell? ⟨B, 7, none⟩ = some (.slice k1 K.length k3) := Blk.cell (Blk.set_ m86.out.box 6 (.slice pa80 (P.length + 1) pc80)) 7
                have z7l := Blk.frozen (Blk.set_ m86.out.box 6 (.slice pa80 (P.length + 1) pc80)) 7
                have l7l := Blk.lt (Blk.set_ m86.out.box 6 (.slice pa80 (P.length + 1) pc80))
                have KF := hide (CaseAt.fin K9.out HAV.out HOW.out H3.out m86.out H5.out H5n.out)
                go_wp2_with fail
                go_meet
                case rel => exact ⟨_, _, KF.out⟩
              ·refine ft_one (by rfl) fun G89 hG89 => ?_
               refine step_val (.slice (some ⟨X77.heap.size, 0, none⟩) 1 1) (X77.alloc (.cells #[.slice f5 L.length c5] 28)) (by rfl) (by go_simp) ?_
               have m89 := hide (m77.out.alloc (.cells #[.slice f5 L.length c5] 28))
               have hb3_89 := hide (Blk.new X77 28 #[.slice f5 L.length c5])
               have hb8_89 := hide (hb8_77.out.alloc (.cells #[.slice f5 L.length c5] 28))
               refine hG89.out _ _ (Blk.cell m89.out.box 7) ?_
               simp only [Act.put, List.setIfInBounds_toArray, List.set_cons_zero, List.set_cons_succ]
               obtain ⟨X89, hX89⟩ : ∃ X89, X77.alloc (.cells #[.slice f5 L.length c5] 28) = X89 := ⟨_, rfl⟩
               rw [hX89] at m89 hb3_89 hb8_89 ⊢
               clear hX89
               refine ft_one (by rfl) fun G90 hG90 => ?_
               have x6_90 : X89.cell? ⟨B, 6, none⟩ = some (.slice p1 P.length p3) := Blk.cell m89.out.box 6
               refine step_val (.slice p1 P.length p3) X89 (by rfl) (by go_simp) ?_
               refine hG90.out _ _ (Blk.cell m89.out.box 7) ?_
               simp only [Act.put, List.setIfInBounds_toArray, List.set_cons_zero, List.set_cons_succ]
               refine ft_one (by rfl) fun G91 hG91 => ?_
               refine step_appAt (by rfl) (.tmp 46) (.tmp 48) 30 30 (by rfl) 28 (.slice none 0 0) 1 24 Try.underlying30 infoStrs rfl (.slice p1 P.length p3) P.length cs 0 _ 1 [.slice f5 L.length c5] (by rfl) (by rfl) m89.out.hp.own (by omega) (srcP hb3_89.out rfl) (by have := HPK.out; unfold maxLen; omega) (by have := HPK.out; omega) ?_
               intro pA X91 ho hc hn _
               obtain ⟨pa91, pc91, rfl, _, _⟩ := Own.form ho
               have m91 := hide (m89.out.appP ho hc hn)
               have hb8_91 := hide (m89.out.keepI hb8_89.out hc)
               clear ho hc hn
               refine hG91.out _ _ (Blk.cell m91.out.box 7) ?_
               simp only [Act.put, List.setIfInBounds_toArray, List.set_cons_zero, List.set_cons_succ]
               refine ⟨?_, ?_⟩
               ·refine ft_one (by rfl) fun G92 hG92 => ?_
                refine step_appAt (by rfl) (.tmp 51) (.tmp 53) 31 31 (by rfl) 3 (.int .i64 0) 1 8 Try.underlying31 infoInt rfl (.slice k1 K.length k3) K.length (K.map (Value.int .i64)) 0 _ 1 [.int .i64 body] (by rfl) (by rfl) m91.out.hk.own (by omega) (srcI2 hb8_91.out) (by have := HPK.out; unfold maxLen; omega) (by have := HPK.out; omega) ?_
                intro qA X92 ho hc hn _
                obtain ⟨qa92, qc92, rfl, _, _⟩ := Own.form ho
                have m92 := hide (m91.out.appK ho hc hn)
                clear ho hc hn
                refine hG92.out _ _ (Blk.cell m92.out.box 7) ?_
                simp only [Act.put, List.setIfInBounds_toArray, List.set_cons_zero, List.set_cons_succ]
                refine ft_one (by rfl) fun G93 hG93 => ?_
                refine step_val (.pointer (some ⟨B, 6, none⟩)) X92 (by rfl) (by go_simp) ?_
                refine hG93.out _ _ (Blk.cell m92.out.box 7) ?_
                simp only [Act.put, List.setIfInBounds_toArray, List.set_cons_zero, List.set_cons_succ]
                refine ft_one (by rfl) fun G94 hG94 => ?_
                have x6_94 : X92.cell? ⟨B, 6, none⟩ = some (.slice p1 P.length p3) := Blk.cell m92.out.box 6
                have z6_94 := Blk.frozen m92.out.box 6
                have l6_94 := Blk.lt m92.out.box
                refine step_skip (X92.setCell ⟨B, 6, none⟩ (.slice pa91 (P.length + 1) pc91)) (by rfl) (by go_simp) ?_
                refine hG94.out _ _ (Blk.cell (Blk.set_ m92.out.box 6 (.slice pa91 (P.length + 1) pc91)) 7) ?_
                simp only [Act.put]
                refine ft_one (by rfl) fun G95 hG95 => ?_
                refine step_val (.pointer (some ⟨B, 7, none⟩)) (X92.setCell ⟨B, 6, none⟩ (.slice pa91 (P.length + 1) pc91)) (by rfl) (by go_simp) ?_
                refine hG95.out _ _ (Blk.cell (Blk.set_ m92.out.box 6 (.slice pa91 (P.length + 1) pc91)) 7) ?_
                simp only [Act.put, List.setIfInBounds_toArray, List.set_cons_zero, List.set_cons_succ]
                refine ft_lastQ (by rfl) ?_
                have x7l : (X92.setCell ⟨B, 6, none⟩ (.slice pa91 (P.length + 1) pc91)).cell? ⟨B, 7, none⟩ = some (.slice k1 K.length k3) := Blk.cell (Blk.set_ m92.out.box 6 (.slice pa91 (P.length + 1) pc91)) 7
                have z7l := Blk.frozen (Blk.set_ m92.out.box 6 (.slice pa91 (P.length + 1) pc91)) 7
                have l7l := Blk.lt (Blk.set_ m92.out.box 6 (.slice pa91 (P.length + 1) pc91))
                have KF := hide (CaseAt.fin K9.out HAV.out HOW.out H3.out m92.out H5.out H5n.out)
                go_wp2_with fail
                go_meet
                case rel => exact ⟨_, _, KF.out⟩
               ·refine ft_one (by rfl) fun G96 hG96 => ?_
                refine step_val (.pointer (some ⟨B, 6, none⟩)) X91 (by rfl) (by go_simp) ?_
                refine hG96.out _ _ (Blk.cell m91.out.box 7) ?_
                simp only [Act.put, List.setIfInBounds_toArray, List.set_cons_zero, List.set_cons_succ]
                refine ft_one (by rfl) fun G97 hG97 => ?_
                refine step_appAt (by rfl) (.tmp 51) (.tmp 53) 31 31 (by rfl) 3 (.int .i64 0) 1 8 Try.underlying31 infoInt rfl (.slice k1 K.length k3) K.length (K.map (Value.int .i64)) 0 _ 1 [.int .i64 body] (by rfl) (by rfl) m91.out.hk.own (by omega) (srcI2 hb8_91.out) (by have := HPK.out; unfold maxLen; omega) (by have := HPK.out; omega) ?_
                intro qA X97 ho hc hn _
                obtain ⟨qa97, qc97, rfl, _, _⟩ := Own.form ho
                have m97 := hide (m91.out.appK ho hc hn)
                clear ho hc hn
                refine hG97.out _ _ (Blk.cell m97.out.box 7) ?_
                simp only [Act.put, List.setIfInBounds_toArray, List.set_cons_zero, List.set_cons_succ]
                refine ft_one (by rfl) fun G98 hG98 => ?_
                have x6_98 : X97.cell? ⟨B, 6, none⟩ = some (.slice p1 P.length p3) := Blk.cell m97.out.box 6
                have z6_98 := Blk.frozen m97.out.box 6
                have l6_98 := Blk.lt m97.out.box
                refine step_skip (X97.setCell ⟨B, 6, none⟩ (.slice pa91 (P.length + 1) pc91)) (by rfl) (by go_simp) ?_
                refine hG98.out _ _ (Blk.cell (Blk.set_ m97.out.box 6 (.slice pa91 (P.length + 1) pc91)) 7) ?_
                simp only [Act.put]
                refine ft_one (by rfl) fun G99 hG99 => ?_
                refine step_val (.pointer (some ⟨B, 7, none⟩)) (X97.setCell ⟨B, 6, none⟩ (.slice pa91 (P.length + 1) pc91)) (by rfl) (by go_simp) ?_
                refine hG99.out _ _ (Blk.cell (Blk.set_ m97.out.box 6 (.slice pa91 (P.length + 1) pc91)) 7) ?_
                simp only [Act.put, List.setIfInBounds_toArray, List.set_cons_zero, List.set_cons_succ]
                refine ft_lastQ (by rfl) ?_
                have x7l : (X97.setCell ⟨B, 6, none⟩ (.slice pa91 (P.length + 1) pc91)).cell? ⟨B, 7, none⟩ = some (.slice k1 K.length k3) := Blk.cell (Blk.set_ m97.out.box 6 (.slice pa91 (P.length + 1) pc91)) 7
                have z7l := Blk.frozen (Blk.set_ m97.out.box 6 (.slice pa91 (P.length + 1) pc91)) 7
                have l7l := Blk.lt (Blk.set_ m97.out.box 6 (.slice pa91 (P.length + 1) pc91))
                have KF := hide (CaseAt.fin K9.out HAV.out HOW.out H3.out m97.out H5.out H5n.out)
                go_wp2_with fail
                go_meet
                case rel => exact ⟨_, _, KF.out⟩
            case rest =>
             obtain ⟨vp', vk', hKL⟩ := hcut
             have KL := hide hKL
             clear hKL
             have HQz := hide (HT.out _ _ _ sSemi2 _ _ KL.out.r)
             obtain ⟨bz, hbz⟩ : ∃ bz, isB Tc sSemi2 = bz := ⟨_, rfl⟩
             rw [hbz] at HQz
             have HBZ := hide hbz
             unfold sSemi2 at HQz
             clear hbz
             go_wp2_with fail
             refine HQz.out.mono ?_
             rintro e wk ⟨v, rfl, rfl, hrk, hfk⟩
             have KM := hide (KL.out.step hrk hfk)
             clear hrk hfk
             unfold caseV at HR13
             cases bz with
             | true =>
              obtain ⟨hgt, hlt⟩ := is_tail HLc.out.1 HBZ.out
              rw [show takeT Tc [59, 59] = Tc.tail from if_pos (by have := HBZ.out; unfold sSemi2 at this; exact this)] at KM
              have HR14 := hide (show R = (caseL (lst d) f (caseN s (P ++ [L]) (K ++ [body])) (breaksF Tc.tail) nc).bind caseFin by rw [HR13.out, if_pos HBZ.out])
              have hbk := breaks_good hgt
              have HQy := hide (HBR.out _ _ _ _ _ KM.out.r)
              obtain ⟨Ty, hTy⟩ : ∃ Ty, breaksF Tc.tail = Ty := ⟨_, rfl⟩
              rw [hTy] at HQy hbk HR14
              have HLy := hide (show Ty.length + 1 ≤ Tc.length by omega)
              clear hgt hlt hbk hTy
              go_wp2_with fail
              refine HQy.out.mono ?_
              rintro e wl ⟨v, rfl, rfl, hrl, hfl⟩
              have KN := hide (KM.out.step hrl hfl)
              clear hrl hfl
              go_wp2_with fail
              go_roundg (G0 - 1)
              case rel => exact ⟨f, _, _, Ty, nc, vp', vk', true, rfl, ⟨HR14.out, by have := HLy.out; have := HLb.out; have := HL9.out; have := HB.out; have := HLc.out.2; omega⟩, by have := HLy.out; have := HLb.out; have := HL9.out; have := HB.out; have := HLc.out.2; rw [if_pos rfl]; omega, by have := HLy.out; have := HLb.out; have := HL9.out; have := HB.out; have := HLc.out.2; omega, by have := HLy.out; have := HLb.out; have := HL9.out; have := HB.out; have := HLc.out.2; rw [List.length_append, List.length_singleton]; omega, by have := HLy.out; have := HLb.out; have := HL9.out; have := HB.out; have := HLc.out.2; rw [List.length_append, List.length_singleton]; omega, KN.out⟩
              case measure => have := HB.out; omega
             | false =>
              rw [show takeT Tc [59, 59] = Tc from if_neg (by have := HBZ.out; unfold sSemi2 at this; rw [this]; decide)] at KM
              have HR14 := hide (show R = caseFin (caseN s (P ++ [L]) (K ++ [body])) Tc nc by rw [HR13.out, if_neg (by rw [HBZ.out]; decide)]; rfl)
              go_wp2_with fail
              go_roundg (G0 - 1)
              case rel => exact ⟨f, _, _, Tc, nc, vp', vk', false, rfl, by rw [if_neg (by decide)]; exact HR14.out, by have := HLb.out; have := HL9.out; have := HB.out; have := HLc.out.2; rw [if_neg (by decide)]; omega, by have := HLb.out; have := HL9.out; have := HB.out; have := HLc.out.2; omega, by have := HLb.out; have := HL9.out; have := HB.out; have := HLc.out.2; rw [List.length_append, List.length_singleton]; omega, by have := HLb.out; have := HL9.out; have := HB.out; have := HLc.out.2; rw [List.length_append, List.length_singleton]; omega, KM.out⟩
              case measure => have := HB.out; omega
end Go.Proofs.Ytgpfjcogaheopaa
