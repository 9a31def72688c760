/- A list. -/
import Derived.Test.YtgpfjcogaheopaaMK
import Derived.Deep.LoopGhost
import Derived.Deep.CutBlock
import Derived.Deep.DeepCutAuto
set_option linter.all false
namespace Go.Proofs.Ytgpfjcogaheopaa
open Go.RowKit Lx
set_option maxRecDepth 100000
/-- What a list does with its kids. -/
def finK (k : List Int × Bool) (ts : List Tok) (ns : List Nd) : PR Int := match k.1 with
  | [x] => if k.2 = true then layR { kind := 6, kids := [x] } (breaksF ts) ns else .ok x (breaksF ts) ns
  | l => layR { kind := 6, kids := l } (breaksF ts) ns
theorem listF_eq (item : Rdr) (ts : List Tok) (ns : List Nd) : listF item ts ns = (listL item (ts.length + 1) [] false (breaksF ts) ns).bind finK := rfl
theorem KdAt.nil {av : Nat → Prop} {base : Nat → Prop} {rb d : Nat} {w W : World} {T : List Tok} {ns : List Nd} (h : RIs av base W rb T ns d) (hf : Fr base w W) : KdAt av base w W rb T ns d (.slice none 0 0) [] :=
  ⟨h.mono (fun k hk => by rcases hk with hk | hk; exact hk; cases hk), Own.nil _ _ _ _, fun b hb => (by cases hb), hf⟩
theorem KdAt.grown {av : Nat → Prop} {base : Nat → Prop} {rb d : Nat} {w W W' : World} {v : Value} {T : List Tok} {ns : List Nd} {kids : List Int} (h : KdAt av base w W rb T ns d v kids) (hg : W.grownBy W' none) : KdAt av base w W' rb T ns d v kids := h.step (h.r.grown hg) (Fr.of_grown hg)
set_option maxHeartbeats 16000000 in
theorem list_ok (n : Nat) (item : Drd) (hd : ∀ d, Dec 3 (item d)) (Hp : Okc 40 item n) : Okc 23 (fun d => listF (item d)) n := by
  intro av base rb d ts ns w hav h hn
  have HP := hide (fun av base rb d ts ns w a b c => Hp av base rb d ts ns w a b c)
  have HD := hide (hd d)
  have HAV := hide hav
  have HT := hide (fun av w ts ns s (h : RIs av base w rb ts ns d) => take_g s h)
  have HB := hide (fun av w ts ns (h : RIs av base w rb ts ns d) => breaks_g h)
  have HBE := hide (fun av w ts ns (h : RIs av base w rb ts ns d) => begins_any av base rb d ts ns w h)
  have HL := hide (fun av w ts ns n a b r p k h hn hf => lay_any av base rb d ts ns n a b r p k w h hn hf)
  unfold GPost vBool at HT
  unfold GPost vUnit at HB
  unfold GPost vInt layR at HL
  unfold sv at HT
  show Calls Try.prog 23 #[.pointer (some ⟨rb, 0, none⟩)] w (GPost vInt av base w rb d (listF (item d) ts ns))
  rw [listF_eq]
  have hbk := breaks_good h.good
  have HB0 := hide (HB.out av w ts ns h)
  obtain ⟨T0, hT0⟩ : ∃ T, breaksF ts = T := ⟨_, rfl⟩
  rw [hT0] at HB0 hbk
  rw [hT0]
  obtain ⟨R, hR⟩ : ∃ R, (listL (item d) (ts.length + 1) [] false T0 ns).bind finK = R := ⟨_, rfl⟩
  have HR := hide hR
  rw [hR]
  have HBK := hide hbk.2
  have HH := hide h
  clear Hp hd h hav hbk hT0 hR
  go_enter Try.func23, Try.ntmps23
  go_wp2_with fail
  refine HB0.out.mono ?_
  rintro e w1 ⟨v, rfl, rfl, hr1, hf1⟩
  have HK := hide (KdAt.nil hr1 hf1)
  clear hr1 hf1
  go_upto_block 0 with (fail)
  go_cut [3, 4] (fun v3 v4 wx => ∃ (kids : List Int) (back : Bool) (T : List Tok) (ns2 : List Nd), R = finK (kids, back) T ns2 ∧ v4 = .bool back ∧ KdAt av base w wx rb T ns2 d v3 kids ∧ kids ≠ [] ∧ ns2.length + 10 * T.length + 2 ≤ 100000)
  case rest =>
    obtain ⟨kz, bk, T, ns2, hRz, rfl, hKz, hkz, hlz⟩ := hcut
    have HRX := hide hRz
    have HKz := hide hKz
    have HSL := hide hlz
    obtain ⟨fa, ca, rfl, hca, _⟩ := Own.form hKz.own
    clear hRz hKz hlz
    have HTB := hide (HB.out _ _ _ _ HKz.out.r)
    have hbg := (breaks_good HKz.out.r.good)
    obtain ⟨TB, hTB⟩ : ∃ TB, breaksF T = TB := ⟨_, rfl⟩
    rw [hTB] at HTB hbg
    have HBG := hide hbg.2
    have HRF := HRX
    unfold finK at HRF
    simp only [hTB] at HRF
    clear hTB hbg
    have HKZ := hide hkz
    clear hkz
    go_wp2_with fail
    refine HTB.out.mono ?_
    rintro e wz ⟨v, rfl, rfl, hr_, hf_⟩
    have HZ := hide (HKz.out.step hr_ hf_)
    clear hr_ hf_
    have HZI := hide HZ.out.plain
    have HZF := hide HZ.out.fr
    by_cases hz : ∃ y, kz = [y] ∧ bk = false
    · obtain ⟨y, rfl, rfl⟩ := hz
      obtain ⟨gz, oz, cz, hvz, _, _, hgz, hcz⟩ := HZ.out.own.some_ (by simp)
      injection hvz with hvz _ _
      subst hvz
      have k0 : wz.cell? ⟨gz, oz, none⟩ = some (.int .i64 y) := hcz 0 (by simp)
      go_wp2_with fail
      rw [HRF.out]
      go_ret
      exact ⟨_, rfl, rfl, HZI.out, HZF.out⟩
    · have HRF2 := hide (show R = layR { kind := 6, kids := kz } TB ns2 by
        rw [HRF.out]
        cases kz with
        | nil => rfl
        | cons a l => cases l with
          | nil => cases bk with
            | true => rfl
            | false => exact absurd ⟨a, rfl, rfl⟩ hz
          | cons b l => rfl)
      have HLz := hide (by have := HL.out av wz TB ns2 { kind := 6, kids := kz } (.slice none 0 0) (.slice none 0 0) (.slice none 0 0) (.slice none 0 0) (.slice fa kz.length ca) HZI.out (ndOwn HZ.out.own HZ.out.new HAV.out 6) (by have := HBG.out; have := HSL.out; omega); unfold ndCells sv at this; simp only [] at this; exact this)
      obtain ⟨q, hq⟩ : ∃ q, ((kz.length : Int) == 1) = q := ⟨_, rfl⟩
      have hqb : q = true → bk = true := by
        intro e; subst e
        cases bk with
        | true => rfl
        | false => exfalso; apply hz; have h1 : kz.length = 1 := by have := eq_of_beq hq; omega
                   obtain ⟨a, ha⟩ := List.length_eq_one_iff.1 h1; exact ⟨a, ha, rfl⟩
      clear hz
      go_wp2_with (fail)
      all_goals (refine HLz.out.mono ?_; rintro e wl ⟨v, rfl, rfl, hrl, hfl⟩; have HIl := hide hrl; have HFl := hide (HZF.out.trans hfl); go_wp2_with fail; rw [HRF2.out]; go_ret; (refine ⟨_, ?_, rfl, HIl.out, HFl.out⟩; exact ret_int (by simp)))
  go_wp2_with fail
  go_loopg [3, 4] T0.length (fun g v3 v4 wr => ∃ (f : Nat) (kids : List Int) (back : Bool) (T : List Tok) (ns2 : List Nd), (listL (item d) f kids back T ns2).bind finK = R ∧ v4 = .bool back ∧ T.length < f ∧ T.length ≤ g ∧ T.length ≤ n ∧ kids.length + T.length ≤ 100000 ∧ KdAt av base w wr rb T ns2 d v3 kids)
  case atStart => exact ⟨_, [], false, T0, ns, HR.out, rfl, by have := HBK.out; omega, Nat.le_refl _, by have := HBK.out; omega, by have := HBK.out; have := HH.out.few; simp only [List.length_nil]; omega, HK.out⟩
  case round =>
    obtain ⟨f, kids, back, T, ns2, hR, rfl, hf, hg, hTn, hkl, hK⟩ := hrel
    have HRr := hide hR
    have HK := hide hK
    have HGF := hide (And.intro hf (And.intro hg (And.intro hTn hkl)))
    obtain ⟨a4, cap4, rfl, hcap4, _⟩ := Own.form hK.own
    obtain ⟨f, rfl⟩ : ∃ f', f = f' + 1 := ⟨f - 1, by omega⟩
    have HPC := hide (by have := HP.out (fun k => av k ∨ (Value.slice a4 kids.length cap4).ownBlock = some k) base rb d T ns2 wr (hK.lt_ HAV.out) hK.r hTn; exact this)
    have HFW := hide hK.r.few
    have HGD := hide hK.r.good
    obtain ⟨PQ, hpq⟩ : ∃ PQ, item d T ns2 = PQ := ⟨_, rfl⟩
    have HPQ := hide hpq
    rw [hpq] at HPC
    unfold GPost vInt at HPC
    clear hR hf hg hTn hK hpq
    go_wp2_with fail
    refine HPC.out.mono ?_
    cases PQ with
    | bad a e =>
      rintro e wc ⟨rfl, hfc⟩
      have HR0 := hide (show R = .bad a _ by rw [← HRr.out, listL, HPQ.out]; rfl)
      refine post_panicP rfl ?_
      rw [HR0.out]
      exact (⟨rfl, HK.out.fr.trans hfc⟩ : _ ∧ _)
    | ok x T1 ns3 =>
      rintro e wc ⟨v, rfl, rfl, hrc, hfc⟩
      have HKc := hide (HK.out.step hrc hfc)
      clear hrc hfc
      have HLF := hide (HD.out _ _ _ _ _ HGD.out HPQ.out)
      have hl1 := HLF.out.len
      have hl2 := HLF.out.few
      have hfw := HFW.out
      have hgf := HGF.out
      obtain ⟨am, ham⟩ : ∃ am, isB T1 sAmp = am := ⟨_, rfl⟩
      have HAM := hide ham
      obtain ⟨TT, hTT⟩ : ∃ TT, takeT T1 sAmp = TT := ⟨_, rfl⟩
      have HTT := hide hTT
      have HTA := hide (by have := HT.out _ wc T1 ns3 sAmp HKc.out.r; rw [ham, hTT] at this; exact this)
      unfold sAmp at HTA
      have HTL := hide (show TT.length + (if am = true then 1 else 0) = T1.length by
        rw [← hTT]
        unfold takeT
        rw [ham]
        cases am with
        | true => have := is_tail HLF.out.good ham; simpa using this.2
        | false => rfl)
      have HR0 := hide (show R = ((if (am || isB TT sSemi || isB TT sLf) = true then (if beginsB (breaksF (if am = true then TT else TT.tail)) = true then listL (item d) f (kids ++ [(if am = true then (ns3.length : Int) else x)]) (back || am) (breaksF (if am = true then TT else TT.tail)) (if am = true then ns3 ++ [{ kind := 7, kids := [x] }] else ns3) else .ok (kids ++ [(if am = true then (ns3.length : Int) else x)], back || am) (breaksF (if am = true then TT else TT.tail)) (if am = true then ns3 ++ [{ kind := 7, kids := [x] }] else ns3)) else .ok (kids ++ [(if am = true then (ns3.length : Int) else x)], back || am) TT (if am = true then ns3 ++ [{ kind := 7, kids := [x] }] else ns3)) : PR (List Int × Bool)).bind finK by
        rw [← HRr.out, listL, HPQ.out, PR.bind_ok]
        simp only [HAM.out, HTT.out])
      clear ham hTT hl1 hl2 hfw hgf
      go_wp2_with fail
      refine HTA.out.mono ?_
      rintro e wd ⟨v, rfl, rfl, hrd, hfd⟩
      have HKd := hide (HKc.out.step hrd hfd)
      clear hrd hfd
      go_upto_if 13 with (fail)
      go_cut [4, 5] (fun v4 v5 wx => ∃ (y : Int) (ns4 : List Nd), v4 = .bool (back || am) ∧ v5 = .int .i64 y ∧ KdAt av base w wx rb TT ns4 d (.slice a4 kids.length cap4) kids ∧ ns4.length + 10 * TT.length + 3 ≤ 100000 ∧ R = ((if (am || isB TT sSemi || isB TT sLf) = true then (if beginsB (breaksF (if am = true then TT else TT.tail)) = true then listL (item d) f (kids ++ [y]) (back || am) (breaksF (if am = true then TT else TT.tail)) ns4 else .ok (kids ++ [y], back || am) (breaksF (if am = true then TT else TT.tail)) ns4) else .ok (kids ++ [y], back || am) TT ns4) : PR (List Int × Bool)).bind finK)
      case first =>
        have hl1 := HLF.out.len
        have hl2 := HLF.out.few
        have hfw := HFW.out
        cases am with
        | true =>
          have hTL := HTL.out
          rw [if_pos rfl] at hTL
          have HIal := hide (HKd.out.grown (only_alloc (only_refl wd none) (.cells #[.int .i64 x] 3)))
          have HLc := hide (by have := HL.out (fun k => av k ∨ (Value.slice a4 kids.length cap4).ownBlock = some k) (wd.alloc (.cells #[.int .i64 x] 3)) TT ns3 { kind := 7, kids := [x] } (.slice none 0 0) (.slice none 0 0) (.slice none 0 0) (.slice none 0 0) (.slice (some ⟨wd.heap.size, 0, none⟩) 1 1) HIal.out.r (ndKids (l := [x]) (by simp) (Blk.new wd 3 _) (HKd.out.lt_ HAV.out) 7 (by simp)) (by omega); unfold ndCells sv at this; simp only [] at this; exact this)
          have HFX := hide (show (ns3 ++ [({ kind := 7, kids := [x] } : Nd)]).length + 10 * TT.length + 3 ≤ 100000 by rw [List.length_append, List.length_singleton]; omega)
          clear hl1 hl2 hfw hTL
          go_wp2_with fail
          refine HLc.out.mono ?_
          rintro e we ⟨v, rfl, rfl, hre, hfe⟩
          have HKe := hide (HIal.out.step hre hfe)
          clear hre hfe
          go_wp2_with fail
          go_meet
          case rel => exact ⟨_, _, by simp, rfl, HKe.out, HFX.out, by simpa using HR0.out⟩
        | false =>
          have hTL := HTL.out
          rw [if_neg (by decide)] at hTL
          have HFX := hide (show ns3.length + 10 * TT.length + 3 ≤ 100000 by omega)
          clear hl1 hl2 hfw hTL
          go_wp2_with fail
          go_meet
          case rel => exact ⟨x, ns3, by simp, rfl, HKd.out, HFX.out, by simpa using HR0.out⟩
      case rest =>
        obtain ⟨y, ns4, rfl, rfl, hKx, hfx, hRx⟩ := hcut
        have HKx := hide hKx
        have HSL := hide hfx
        have HRX0 := hide hRx
        obtain ⟨bk, hbk⟩ : ∃ bk, (back || am) = bk := ⟨_, rfl⟩
        rw [hbk] at HRX0
        simp only [hbk]
        clear hKx hfx hRx hbk
        have hgf := HGF.out
        go_upto_region 9 with (at_builtin; refine wpList_appAt 3 (.int .i64 0) 1 8 Try.underlying31 infoInt rfl (.slice a4 kids.length cap4) kids.length (kids.map (Value.int .i64)) 0 _ 1 [.int .i64 y] rfl rfl (Own.alloc HKx.out.own _) (by omega) (srcI _ _ y rfl) (by unfold maxLen; omega) (by omega) ?_; intro vA wA ho hc hn2 _; (have HKe := hide (HKx.out.app _ ho hc hn2)); obtain ⟨fa, ca, rfl, _, _⟩ := Own.form ho; clear ho hc hn2 hgf)
        go_cut [34] (fun v34 wx => ∃ (stop : Bool) (T' : List Tok), v34 = .bool stop ∧ R = (if stop = true then .ok (kids ++ [y], bk) T' ns4 else if beginsB (breaksF T') = true then listL (item d) f (kids ++ [y]) bk (breaksF T') ns4 else .ok (kids ++ [y], bk) (breaksF T') ns4 : PR (List Int × Bool)).bind finK ∧ KdAt av base w wx rb T' ns4 d (.slice fa (kids.length + 1) ca) (kids ++ [y]) ∧ T'.length ≤ TT.length ∧ (stop = false → T'.length + 1 ≤ T1.length))
        case first =>
          cases am with
          | true =>
            have HLT := hide (show TT.length + 1 ≤ T1.length by have := HTL.out; rw [if_pos rfl] at this; omega)
            have HRC := hide (show R = (if beginsB (breaksF TT) = true then listL (item d) f (kids ++ [y]) bk (breaksF TT) ns4 else .ok (kids ++ [y], bk) (breaksF TT) ns4 : PR (List Int × Bool)).bind finK by simpa using HRX0.out)
            go_wp2_with fail
            go_meet
            case rel => exact ⟨false, TT, rfl, HRC.out, HKe.out, Nat.le_refl _, fun _ => HLT.out⟩
          | false =>
            have HLT0 := hide (show TT.length = T1.length by have := HTL.out; rw [if_neg (by decide)] at this; omega)
            obtain ⟨s1, hs1⟩ : ∃ s1, isB TT sSemi = s1 := ⟨_, rfl⟩
            have HS1 := hide (by have := HT.out _ _ TT ns4 sSemi HKe.out.r; rw [hs1] at this; exact this)
            have HGT := hide HKe.out.r.good
            cases s1 with
            | true =>
              have HS1 := hide (by have := HS1.out; rw [show takeT TT sSemi = TT.tail from if_pos hs1] at this; exact this)
              unfold sSemi at HS1
              have HRC := hide (show R = (if beginsB (breaksF TT.tail) = true then listL (item d) f (kids ++ [y]) bk (breaksF TT.tail) ns4 else .ok (kids ++ [y], bk) (breaksF TT.tail) ns4 : PR (List Int × Bool)).bind finK by have := HRX0.out; rw [hs1] at this; simpa using this)
              have HLT := hide (show TT.tail.length + 1 ≤ T1.length by have := (is_tail HGT.out hs1).2; have := HLT0.out; omega)
              clear hs1
              go_wp2_with fail
              refine HS1.out.mono ?_
              rintro e wh ⟨v, rfl, rfl, hr_, hf_⟩
              have HKh := hide (HKe.out.step hr_ hf_)
              clear hr_ hf_
              go_wp2_with fail
              go_meet
              case rel => exact ⟨false, TT.tail, rfl, HRC.out, HKh.out, by simp, fun _ => HLT.out⟩
            | false =>
              have HS1 := hide (by have := HS1.out; rw [show takeT TT sSemi = TT from by unfold takeT; rw [hs1]; rfl] at this; exact this)
              unfold sSemi at HS1
              obtain ⟨s2, hs2⟩ : ∃ s2, isB TT sLf = s2 := ⟨_, rfl⟩
              have HS2 := hide (fun wh (h : RIs (fun k => av k ∨ (Value.slice fa (kids.length + 1) ca).ownBlock = some k) base wh rb TT ns4 d) => by have := HT.out _ wh TT ns4 sLf h; rw [hs2] at this; exact this)
              cases s2 with
              | true =>
                have HS2 := hide (by have := HS2.out; rw [show takeT TT sLf = TT.tail from if_pos hs2] at this; exact this)
                unfold sLf at HS2
                have HRC := hide (show R = (if beginsB (breaksF TT.tail) = true then listL (item d) f (kids ++ [y]) bk (breaksF TT.tail) ns4 else .ok (kids ++ [y], bk) (breaksF TT.tail) ns4 : PR (List Int × Bool)).bind finK by have := HRX0.out; rw [hs1, hs2] at this; simpa using this)
                have HLT := hide (show TT.tail.length + 1 ≤ T1.length by have := (is_tail HGT.out hs2).2; have := HLT0.out; omega)
                clear hs1 hs2
                go_wp2_with fail
                refine HS1.out.mono ?_
                rintro e wh ⟨v, rfl, rfl, hr_, hf_⟩
                have HKh := hide (HKe.out.step hr_ hf_)
                clear hr_ hf_
                have HS3 := hide (HS2.out _ HKh.out.r)
                go_wp2_with fail
                refine HS3.out.mono ?_
                rintro e wi ⟨v, rfl, rfl, hr_, hf_⟩
                have HKi := hide (HKh.out.step hr_ hf_)
                clear hr_ hf_
                go_wp2_with fail
                go_meet
                case rel => exact ⟨false, TT.tail, rfl, HRC.out, HKi.out, by simp, fun _ => HLT.out⟩
              | false =>
                have HS2 := hide (by have := HS2.out; rw [show takeT TT sLf = TT from by unfold takeT; rw [hs2]; rfl] at this; exact this)
                unfold sLf at HS2
                have HRX := hide (show R = (.ok (kids ++ [y], bk) TT ns4 : PR (List Int × Bool)).bind finK by have := HRX0.out; rw [hs1, hs2] at this; simpa using this)
                clear hs1 hs2
                go_wp2_with fail
                refine HS1.out.mono ?_
                rintro e wh ⟨v, rfl, rfl, hr_, hf_⟩
                have HKh := hide (HKe.out.step hr_ hf_)
                clear hr_ hf_
                have HS3 := hide (HS2.out _ HKh.out.r)
                go_wp2_with fail
                refine HS3.out.mono ?_
                rintro e wi ⟨v, rfl, rfl, hr_, hf_⟩
                have HKi := hide (HKh.out.step hr_ hf_)
                clear hr_ hf_
                go_wp2_with fail
                go_meet
                case rel => exact ⟨true, TT, rfl, HRX.out, HKi.out, Nat.le_refl _, fun e => by cases e⟩
        case rest =>
          obtain ⟨stop, T', rfl, hRs, hKs, hls, hst⟩ := hcut
          have HRS := hide hRs
          have HKs := hide hKs
          have HLS := hide hls
          have HST := hide hst
          clear hRs hKs hls hst
          have HLTT := hide (show TT.length ≤ T1.length by have := HTL.out; split at this <;> omega)
          cases stop with
          | true =>
            go_wp2_with fail
            go_meet
            case rel => exact ⟨_, bk, T', ns4, HRS.out, rfl, HKs.out, by simp, by have := HSL.out; have := HLS.out; omega⟩
          | false =>
            have HRC := hide (show R = (if beginsB (breaksF T') = true then listL (item d) f (kids ++ [y]) bk (breaksF T') ns4 else .ok (kids ++ [y], bk) (breaksF T') ns4 : PR (List Int × Bool)).bind finK from HRS.out)
            have HLT := hide (HST.out rfl)
            go_wp2_with fail
            have HBx := hide (HB.out _ _ _ _ HKs.out.r)
            have hbx := breaks_good HKs.out.r.good
            obtain ⟨TB1, hTB1⟩ : ∃ TB, breaksF (T') = TB := ⟨_, rfl⟩
            rw [hTB1] at HBx hbx
            have HBL1 := hide hbx.2
            have HRC1 := hide (by have := HRC.out; rw [hTB1] at this; exact this)
            clear hTB1 hbx
            refine HBx.out.mono ?_
            rintro e wf ⟨v, rfl, rfl, hr_, hf_⟩
            have HKf := hide (HKs.out.step hr_ hf_)
            clear hr_ hf_
            obtain ⟨bg, hbg⟩ : ∃ bg, beginsB TB1 = bg := ⟨_, rfl⟩
            have HBG1 := hide (by have := HBE.out _ wf TB1 ns4 HKf.out.r; rw [hbg] at this; exact this)
            have HRC2 := hide (by have := HRC1.out; rw [hbg] at this; exact this)
            clear hbg
            go_wp2_with fail
            refine HBG1.out.mono ?_
            rintro e wg ⟨rfl, hg_⟩
            have HKg := hide (HKf.out.grown hg_)
            clear hg_
            cases bg with
            | true =>
              go_wp2_with fail
              go_roundg (gk - 1)
              case rel => exact ⟨f, _, bk, TB1, ns4, by have := HRC2.out; exact this.symm, rfl, by have := HBL1.out; have := HLT.out; have := HLF.out.len; have := HGF.out; omega, by have := HBL1.out; have := HLT.out; have := HLF.out.len; have := HGF.out; omega, by have := HBL1.out; have := HLT.out; have := HLF.out.len; have := HGF.out; omega, by have := HBL1.out; have := HLT.out; have := HLF.out.len; have := HGF.out; simp only [List.length_append, List.length_singleton]; omega, HKg.out⟩
              case measure => have := HBL1.out; have := HLT.out; have := HLF.out.len; have := HGF.out; omega
            | false =>
              have HRX := hide (show R = finK (kids ++ [y], bk) TB1 ns4 from HRC2.out)
              have HSL := hide (show ns4.length + 10 * TB1.length + 2 ≤ 100000 by have := HBL1.out; have := HLS.out; have := HSL.out; omega)
              go_wp2_with fail
              go_meet
              case rel => exact ⟨_, bk, TB1, ns4, HRX.out, rfl, HKg.out, by simp, by have := HSL.out; have := HBL1.out; have := HLS.out; omega⟩
end Go.Proofs.Ytgpfjcogaheopaa
