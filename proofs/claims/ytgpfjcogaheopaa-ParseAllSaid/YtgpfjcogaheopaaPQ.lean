/- An if. -/
import Derived.Test.YtgpfjcogaheopaaMK
import Derived.Test.YtgpfjcogaheopaaMQ
set_option linter.all false
namespace Go.Proofs.Ytgpfjcogaheopaa
open Go.RowKit Lx
set_option maxRecDepth 100000
def ifs3 (f : Nat) (lst : Rdr) (a b : Int) : List Tok → List Nd → PR Int := fun ts ns =>
 if isB ts wElif = true then (ifsF lst f ts.tail ns).bind fun c ts ns => layR { kind := 10, kids := [a, b, c] } ts ns
  else if isB ts wElse = true then (lst ts.tail ns).bind fun c ts ns => (needR wFi ts ns).bind fun _ ts ns => layR { kind := 10, kids := [a, b, c] } ts ns
  else (needR wFi ts ns).bind fun _ ts ns => layR { kind := 10, kids := [a, b] } ts ns
theorem ifsF_eq (f : Nat) (lst : Rdr) (ts : List Tok) (ns : List Nd) : ifsF lst (f + 1) ts ns = (lst ts ns).bind fun a ts ns => (needR wThen ts ns).bind fun _ ts ns => (lst ts ns).bind fun b ts ns => ifs3 f lst a b ts ns := rfl
theorem take_yes {s : List UInt8} {ts : List Tok} (h : isB ts s = true) : takeT ts s = ts.tail := if_pos h
theorem take_no {s : List UInt8} {ts : List Tok} (h : isB ts s = false) : takeT ts s = ts := if_neg (by rw [h]; decide)
set_option maxHeartbeats 16000000 in
theorem ifs_ok (n : Nat) (lst : Drd) (hd : DecD 2 lst) (Hp : Okc 23 lst n) : ∀ (f : Nat) (av : Nat → Prop) (base : Nat → Prop) (rb d : Nat) (ts : List Tok) (ns : List Nd) (w : World), (∀ k, av k → k < w.heap.size) → RIs av base w rb ts ns d → ts.length ≤ n → ts.length < f →
  Calls Try.prog 93 #[.pointer (some ⟨rb, 0, none⟩)] w (GPost vInt av base w rb d (ifsF (lst d) f ts ns)) := by
 intro f
 induction f with
 | zero => intro av base rb d ts ns w hav h hn hf; omega
 | succ f ih =>
  intro av base rb d ts ns w hav h hn hf
  have HAV := hide hav
  have HD := hide (hd d)
  have HIF := hide (fun av w ts ns a b c e => ih av base rb d ts ns w a b c e)
  have HIFD := hide (ifs_dec (hd d) f)
  have HC := hide (fun av w ts ns a b c => Hp av base rb d ts ns w a b c)
  have HT := hide (fun av base w s tt ns (h : RIs av base w rb tt ns d) => take_g s h)
  have HNE := hide (fun av base w s tt ns (h : RIs av base w rb tt ns d) => need_g s h)
  have HL := hide (fun av base w ts ns n a b r p k h hn hf => lay_any av base rb d ts ns n a b r p k w h hn hf)
  unfold GPost vBool sv at HT
  unfold sv at HNE
  unfold GPost vInt layR at HL
  have HQ0 := hide (HC.out av w ts ns hav h hn)
  have HFW := hide h.few
  have HGD := hide h.good
  have HLE := hide (And.intro hn hf)
  rw [ifsF_eq]
  obtain ⟨R, hR⟩ : ∃ R, ((lst d ts ns).bind fun a ts ns => (needR wThen ts ns).bind fun _ ts ns => (lst d ts ns).bind fun b ts ns => ifs3 f (lst d) a b ts ns) = R := ⟨_, rfl⟩
  have HR := hide hR.symm
  rw [hR]
  obtain ⟨PQ, hpq⟩ : ∃ PQ, lst d ts ns = PQ := ⟨_, rfl⟩
  rw [hpq] at HQ0
  have HPQ := hide hpq
  have HR0 := hide (show R = PQ.bind fun a ts ns => (needR wThen ts ns).bind fun _ ts ns => (lst d ts ns).bind fun b ts ns => ifs3 f (lst d) a b ts ns by rw [HR.out, HPQ.out])
  unfold GPost vInt at HQ0
  clear hR hpq hav h hn hf ih Hp hd
  go_enter Try.func93, Try.ntmps93
  go_wp2_with fail
  refine HQ0.out.mono ?_
  cases PQ with
  | bad a e =>
   rintro e wc ⟨rfl, hfc⟩
   refine post_panicP rfl ?_
   rw [HR0.out]
   exact (⟨rfl, hfc⟩ : _ ∧ _)
  | ok a T1 n1 =>
   have HLF1 := hide (HD.out _ _ _ _ _ HGD.out HPQ.out)
   rintro e w1 ⟨v, rfl, rfl, hr1, hf1⟩
   have HK1 := hide (KdAt.first hr1 hf1 a)
   clear hr1 hf1
   have HQ2 := hide (HNE.out _ base _ wThen _ _ HK1.out.r)
   obtain ⟨bn2, hbn2⟩ : ∃ bn, isB T1 wThen = bn := ⟨_, rfl⟩
   have HBN2 := hide hbn2
   have hgd2 := HK1.out.r.good
   unfold needR at HQ2
   rw [hbn2] at HQ2
   unfold wThen GPost vUnit at HQ2
   clear hbn2
   go_wp2_with fail
   refine HQ2.out.mono ?_
   cases bn2 with
   | false =>
    obtain ⟨tz, rz, hz⟩ := hgd2.ne
    have HRZ := hide (show R = wrongR T1 by rw [HR0.out]; (try rw [PR.bind_ok]); rw [need_no HBN2.out]; rw [hz]; rfl)
    rw [hz] at HRZ ⊢
    rintro e wc ⟨rfl, hfc⟩
    refine post_panicP rfl ?_
    rw [HRZ.out]
    exact (⟨rfl, HK1.out.fr.trans hfc⟩ : _ ∧ _)
   | true =>
    obtain ⟨hgt2, hlt2⟩ := is_tail hgd2 HBN2.out
    have HGT2 := hide hgt2
    have HLT2 := hide hlt2
    have HR2 := hide (show R = (lst d T1.tail n1).bind fun b ts ns => ifs3 f (lst d) a b ts ns by rw [HR0.out]; (try rw [PR.bind_ok]); rw [need_yes HBN2.out]; rfl)
    rintro e wc2 ⟨v, rfl, rfl, hr_, hf_⟩
    have K2 := hide (HK1.out.step hr_ hf_)
    clear hr_ hf_ hgt2 hlt2 hgd2
    obtain ⟨T2, hT2⟩ : ∃ T2, T1.tail = T2 := ⟨_, rfl⟩
    rw [hT2] at HGT2 HLT2 HR2 K2
    clear hT2
    have HLN2 := hide (show T2.length ≤ n by have := HLF1.out.len; have := HLT2.out; have := HLE.out; omega)
    have HQ3 := hide (HC.out _ _ T2 n1 (K2.out.lt_ HAV.out) K2.out.r HLN2.out)
    obtain ⟨PQ3, hpq3⟩ : ∃ PQ, lst d T2 n1 = PQ := ⟨_, rfl⟩
    rw [hpq3] at HQ3
    have HPQ3 := hide hpq3
    have HR3 := hide (show R = PQ3.bind fun b ts ns => ifs3 f (lst d) a b ts ns by rw [HR2.out, HPQ3.out])
    unfold GPost vInt at HQ3
    clear hpq3
    go_wp2_with fail
    refine HQ3.out.mono ?_
    cases PQ3 with
    | bad a e =>
     rintro e wc ⟨rfl, hfc⟩
     refine post_panicP rfl ?_
     rw [HR3.out]
     exact (⟨rfl, K2.out.fr.trans hfc⟩ : _ ∧ _)
    | ok b T3 n3 =>
     have HLF3 := hide (HD.out _ _ _ _ _ HGT2.out HPQ3.out)
     rintro e w3 ⟨v, rfl, rfl, hr_, hf_⟩
     have K3 := hide (K2.out.step hr_ hf_)
     clear hr_ hf_
     have HR4 := hide (show R = ifs3 f (lst d) a b T3 n3 from HR3.out)
     go_wp2_with (at_builtin; refine wpList_appAt 3 (.int .i64 0) 1 8 Try.underlying31 infoInt rfl (.slice (some ⟨w1.heap.size, 0, none⟩) 1 1) [a].length ([a].map (Value.int .i64)) 0 _ 1 [.int .i64 b] rfl rfl (Own.alloc K3.out.own _) (by simp) (srcI _ _ b rfl) (by unfold maxLen; simp) (by simp) ?_; intro vA wA ho hc hn2 _; (have K4 := hide (K3.out.app _ ho hc hn2)); obtain ⟨fa, ca, rfl, _, _⟩ := Own.form ho; clear ho hc hn2)
     simp only [List.singleton_append, List.length_singleton] at K4 ⊢
     have HFW3 := hide (show n3.length + 10 * T3.length + 5 ≤ 100000 ∧ T3.length + 2 ≤ ts.length by have := HLF1.out.few; have := HLF1.out.len; have := HLT2.out; have := HLF3.out.few; have := HLF3.out.len; have := HFW.out; omega)
     have HGD3 := hide HLF3.out.good
     have HT4 := hide (HT.out _ base _ wElif _ _ K4.out.r)
     obtain ⟨be, hbe⟩ : ∃ be, isB T3 wElif = be := ⟨_, rfl⟩
     rw [hbe] at HT4
     have HBE := hide hbe
     unfold wElif at HT4
     clear hbe
     refine HT4.out.mono ?_
     rintro e w4 ⟨v, rfl, rfl, hr_, hf_⟩
     have K5 := hide (K4.out.step hr_ hf_)
     clear hr_ hf_
     cases be with
     | true =>
      obtain ⟨hgt, hlt⟩ := is_tail HGD3.out HBE.out
      rw [show takeT T3 [101, 108, 105, 102] = T3.tail from take_yes HBE.out] at K5
      have HR5 := hide (show R = (ifsF (lst d) f T3.tail n3).bind fun c ts ns => layR { kind := 10, kids := [a, b, c] } ts ns from HR4.out.trans (if_pos HBE.out))
      obtain ⟨T4, hT4⟩ : ∃ T4, T3.tail = T4 := ⟨_, rfl⟩
      rw [hT4] at hgt hlt K5 HR5
      have HGT4 := hide hgt
      have HLT4 := hide hlt
      clear hgt hlt hT4
      have HQ6 := hide (HIF.out _ _ T4 n3 (K5.out.lt_ HAV.out) K5.out.r (by have := HLT4.out; have := HFW3.out; have := HLE.out; omega) (by have := HLT4.out; have := HFW3.out; have := HLE.out; omega))
      obtain ⟨PQ6, hpq6⟩ : ∃ PQ, ifsF (lst d) f T4 n3 = PQ := ⟨_, rfl⟩
      rw [hpq6] at HQ6
      have HPQ6 := hide hpq6
      have HR6 := hide (show R = PQ6.bind fun c ts ns => layR { kind := 10, kids := [a, b, c] } ts ns by rw [HR5.out, HPQ6.out])
      unfold GPost vInt at HQ6
      clear hpq6
      go_wp2_with fail
      refine HQ6.out.mono ?_
      cases PQ6 with
      | bad a e =>
       rintro e wc ⟨rfl, hfc⟩
       refine post_panicP rfl ?_
       rw [HR6.out]
       exact (⟨rfl, K5.out.fr.trans hfc⟩ : _ ∧ _)
      | ok c T6 n6 =>
       have HLF6 := hide (HIFD.out _ _ _ _ _ HGT4.out HPQ6.out)
       rintro e w6 ⟨v, rfl, rfl, hr_, hf_⟩
       have K6 := hide (K5.out.step hr_ hf_)
       clear hr_ hf_
       have HR7 := hide (show R = layR { kind := 10, kids := [a, b, c] } T6 n6 from HR6.out)
       unfold layR at HR7
       have HFE := hide (show n6.length + 1 + 10 * T6.length ≤ 100000 by have := HLF6.out.few; have := HLT4.out; have := HFW3.out; omega)
       go_wp2_with (at_builtin; refine wpList_appAt 3 (.int .i64 0) 1 8 Try.underlying31 infoInt rfl (.slice fa 2 ca) [a, b].length ([a, b].map (Value.int .i64)) 0 _ 1 [.int .i64 c] rfl rfl (Own.alloc K6.out.own _) (by simp) (srcI _ _ c rfl) (by unfold maxLen; simp) (by simp) ?_; intro vA wA ho hc hn2 _; (have K7 := hide (K6.out.app _ ho hc hn2)); obtain ⟨fb, cb, rfl, _, _⟩ := Own.form ho; clear ho hc hn2)
       simp only [List.cons_append, List.nil_append, List.length_cons, List.length_nil] at K7 ⊢
       have HLz := hide (by have := HL.out av base _ T6 n6 { kind := 10, kids := [a, b, c] } (.slice none 0 0) (.slice none 0 0) (.slice none 0 0) (.slice none 0 0) (.slice fb 3 cb) K7.out.plain (ndOwn K7.out.own K7.out.new HAV.out 10) HFE.out; unfold ndCells sv at this; simp only [] at this; exact this)
       have HZF := hide K7.out.fr
       go_wp2_with fail
       refine HLz.out.mono ?_
       rintro e wl ⟨v, rfl, rfl, hrl, hfl⟩
       have HIl := hide hrl
       have HFl := hide (HZF.out.trans hfl)
       clear hrl hfl
       go_wp2_with fail
       rw [HR7.out]
       go_ret
       exact ⟨_, rfl, rfl, HIl.out, HFl.out⟩
     | false =>
      rw [show takeT T3 [101, 108, 105, 102] = T3 from take_no HBE.out] at K5
      have HR5 := hide (show R = if isB T3 wElse = true then (lst d T3.tail n3).bind fun c ts ns => (needR wFi ts ns).bind fun _ ts ns => layR { kind := 10, kids := [a, b, c] } ts ns else (needR wFi T3 n3).bind fun _ ts ns => layR { kind := 10, kids := [a, b] } ts ns from HR4.out.trans (if_neg (by rw [HBE.out]; decide)))
      have HT5 := hide (HT.out _ base _ wElse _ _ K5.out.r)
      obtain ⟨bl, hbl⟩ : ∃ bl, isB T3 wElse = bl := ⟨_, rfl⟩
      rw [hbl] at HT5 HR5
      have HBL := hide hbl
      unfold wElse at HT5
      clear hbl
      go_wp2_with fail
      refine HT5.out.mono ?_
      rintro e w5 ⟨v, rfl, rfl, hr_, hf_⟩
      have K6 := hide (K5.out.step hr_ hf_)
      clear hr_ hf_
      cases bl with
      | true =>
       obtain ⟨hgt, hlt⟩ := is_tail HGD3.out HBL.out
       rw [show takeT T3 [101, 108, 115, 101] = T3.tail from take_yes HBL.out] at K6
       have HR6 := hide (show R = (lst d T3.tail n3).bind fun c ts ns => (needR wFi ts ns).bind fun _ ts ns => layR { kind := 10, kids := [a, b, c] } ts ns from HR5.out)
       obtain ⟨T4, hT4⟩ : ∃ T4, T3.tail = T4 := ⟨_, rfl⟩
       rw [hT4] at hgt hlt K6 HR6
       have HGT4 := hide hgt
       have HLT4 := hide hlt
       clear hgt hlt hT4
       have HQ7 := hide (HC.out _ _ T4 n3 (K6.out.lt_ HAV.out) K6.out.r (by have := HLT4.out; have := HFW3.out; have := HLE.out; omega))
       obtain ⟨PQ7, hpq7⟩ : ∃ PQ, lst d T4 n3 = PQ := ⟨_, rfl⟩
       rw [hpq7] at HQ7
       have HPQ7 := hide hpq7
       have HR7 := hide (show R = PQ7.bind fun c ts ns => (needR wFi ts ns).bind fun _ ts ns => layR { kind := 10, kids := [a, b, c] } ts ns by rw [HR6.out, HPQ7.out])
       unfold GPost vInt at HQ7
       clear hpq7
       go_wp2_with fail
       refine HQ7.out.mono ?_
       cases PQ7 with
       | bad a e =>
        rintro e wc ⟨rfl, hfc⟩
        refine post_panicP rfl ?_
        rw [HR7.out]
        exact (⟨rfl, K6.out.fr.trans hfc⟩ : _ ∧ _)
       | ok c T7 n7 =>
        have HLF7 := hide (HD.out _ _ _ _ _ HGT4.out HPQ7.out)
        rintro e w7 ⟨v, rfl, rfl, hr_, hf_⟩
        have K7 := hide (K6.out.step hr_ hf_)
        clear hr_ hf_
        have HR8 := hide (show R = (needR wFi T7 n7).bind fun _ ts ns => layR { kind := 10, kids := [a, b, c] } ts ns from HR7.out)
        have HFE := hide (show n7.length + 1 + 10 * T7.length ≤ 100000 by have := HLF7.out.few; have := HLT4.out; have := HFW3.out; omega)
        go_wp2_with (at_builtin; refine wpList_appAt 3 (.int .i64 0) 1 8 Try.underlying31 infoInt rfl (.slice fa 2 ca) [a, b].length ([a, b].map (Value.int .i64)) 0 _ 1 [.int .i64 c] rfl rfl (Own.alloc K7.out.own _) (by simp) (srcI _ _ c rfl) (by unfold maxLen; simp) (by simp) ?_; intro vA wA ho hc hn2 _; (have K8 := hide (K7.out.app _ ho hc hn2)); obtain ⟨fb, cb, rfl, _, _⟩ := Own.form ho; clear ho hc hn2)
        simp only [List.cons_append, List.nil_append, List.length_cons, List.length_nil] at K8 ⊢
        have HQ9 := hide (HNE.out _ base _ wFi _ _ K8.out.r)
        obtain ⟨bn9, hbn9⟩ : ∃ bn, isB T7 wFi = bn := ⟨_, rfl⟩
        have HBN9 := hide hbn9
        have hgd9 := K8.out.r.good
        unfold needR at HQ9
        rw [hbn9] at HQ9
        unfold wFi GPost vUnit at HQ9
        clear hbn9
        go_wp2_with fail
        refine HQ9.out.mono ?_
        cases bn9 with
        | false =>
         obtain ⟨tz, rz, hz⟩ := hgd9.ne
         have HRZ := hide (show R = wrongR T7 by rw [HR8.out]; (try rw [PR.bind_ok]); rw [need_no HBN9.out]; rw [hz]; rfl)
         rw [hz] at HRZ ⊢
         rintro e wc ⟨rfl, hfc⟩
         refine post_panicP rfl ?_
         rw [HRZ.out]
         exact (⟨rfl, K8.out.fr.trans hfc⟩ : _ ∧ _)
        | true =>
         obtain ⟨hgt9, hlt9⟩ := is_tail hgd9 HBN9.out
         have HGT9 := hide hgt9
         have HLT9 := hide hlt9
         have HR9 := hide (show R = layR { kind := 10, kids := [a, b, c] } T7.tail n7 by rw [HR8.out]; (try rw [PR.bind_ok]); rw [need_yes HBN9.out]; rfl)
         rintro e wc9 ⟨v, rfl, rfl, hr_, hf_⟩
         have K9 := hide (K8.out.step hr_ hf_)
         clear hr_ hf_ hgt9 hlt9 hgd9
         unfold layR at HR9
         have HLz := hide (by have := HL.out av base _ T7.tail n7 { kind := 10, kids := [a, b, c] } (.slice none 0 0) (.slice none 0 0) (.slice none 0 0) (.slice none 0 0) (.slice fb 3 cb) K9.out.plain (ndOwn K9.out.own K9.out.new HAV.out 10) (by have := HFE.out; have := HLT9.out; omega); unfold ndCells sv at this; simp only [] at this; exact this)
         have HZF := hide K9.out.fr
         go_wp2_with fail
         refine HLz.out.mono ?_
         rintro e wl ⟨v, rfl, rfl, hrl, hfl⟩
         have HIl := hide hrl
         have HFl := hide (HZF.out.trans hfl)
         clear hrl hfl
         go_wp2_with fail
         rw [HR9.out]
         go_ret
         exact ⟨_, rfl, rfl, HIl.out, HFl.out⟩
      | false =>
       rw [show takeT T3 [101, 108, 115, 101] = T3 from take_no HBL.out] at K6
       have HR6 := hide (show R = (needR wFi T3 n3).bind fun _ ts ns => layR { kind := 10, kids := [a, b] } ts ns from HR5.out)
       have HQ9 := hide (HNE.out _ base _ wFi _ _ K6.out.r)
       obtain ⟨bn9, hbn9⟩ : ∃ bn, isB T3 wFi = bn := ⟨_, rfl⟩
       have HBN9 := hide hbn9
       have hgd9 := K6.out.r.good
       unfold needR at HQ9
       rw [hbn9] at HQ9
       unfold wFi GPost vUnit at HQ9
       clear hbn9
       go_wp2_with fail
       refine HQ9.out.mono ?_
       cases bn9 with
       | false =>
        obtain ⟨tz, rz, hz⟩ := hgd9.ne
        have HRZ := hide (show R = wrongR T3 by rw [HR6.out]; (try rw [PR.bind_ok]); rw [need_no HBN9.out]; rw [hz]; rfl)
        rw [hz] at HRZ ⊢
        rintro e wc ⟨rfl, hfc⟩
        refine post_panicP rfl ?_
        rw [HRZ.out]
        exact (⟨rfl, K6.out.fr.trans hfc⟩ : _ ∧ _)
       | true =>
        obtain ⟨hgt9, hlt9⟩ := is_tail hgd9 HBN9.out
        have HGT9 := hide hgt9
        have HLT9 := hide hlt9
        have HR9 := hide (show R = layR { kind := 10, kids := [a, b] } T3.tail n3 by rw [HR6.out]; (try rw [PR.bind_ok]); rw [need_yes HBN9.out]; rfl)
        rintro e wc9 ⟨v, rfl, rfl, hr_, hf_⟩
        have K9 := hide (K6.out.step hr_ hf_)
        clear hr_ hf_ hgt9 hlt9 hgd9
        unfold layR at HR9
        have HLz := hide (by have := HL.out av base _ T3.tail n3 { kind := 10, kids := [a, b] } (.slice none 0 0) (.slice none 0 0) (.slice none 0 0) (.slice none 0 0) (.slice fa 2 ca) K9.out.plain (ndOwn K9.out.own K9.out.new HAV.out 10) (by have := HFW3.out; have := HLT9.out; omega); unfold ndCells sv at this; simp only [] at this; exact this)
        have HZF := hide K9.out.fr
        go_wp2_with fail
        refine HLz.out.mono ?_
        rintro e wl ⟨v, rfl, rfl, hrl, hfl⟩
        have HIl := hide hrl
        have HFl := hide (HZF.out.trans hfl)
        clear hrl hfl
        go_wp2_with fail
        rw [HR9.out]
        go_ret
        exact ⟨_, rfl, rfl, HIl.out, HFl.out⟩
end Go.Proofs.Ytgpfjcogaheopaa
