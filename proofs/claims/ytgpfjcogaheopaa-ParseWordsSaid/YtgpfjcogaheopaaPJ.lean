/- The readers' contracts; an item. -/
import Derived.Test.YtgpfjcogaheopaaPI
set_option linter.all false
namespace Go.Proofs.Ytgpfjcogaheopaa
open Go.RowKit Lx
set_option maxRecDepth 100000

section
variable {av : Nat → Prop} {base : Nat → Prop} {rb d : Nat} {w w' : World} {ts : List Tok} {ns : List Nd}
theorem take_g (s : List UInt8) (h : RIs av base w rb ts ns d) : Calls Try.prog 41 #[.pointer (some ⟨rb, 0, none⟩), sv s] w (GPost vBool av base w rb d (.ok (isB ts s) (takeT ts s) ns)) := by
  obtain ⟨vt, vn, h⟩ := h
  exact (take_any av base rb d vn ts ns s w ⟨vt, h⟩).mono fun e w' hp => TPost.g h hp
theorem need_g (s : List UInt8) (h : RIs av base w rb ts ns d) : Calls Try.prog 92 #[.pointer (some ⟨rb, 0, none⟩), sv s] w (GPost vUnit av base w rb d (needR s ts ns)) := by
  obtain ⟨vt, vn, h⟩ := h
  exact (need_any av base rb d vn ts ns s w ⟨vt, h⟩).mono fun e w' hp => TPost.g h hp
theorem breaks_g (h : RIs av base w rb ts ns d) : Calls Try.prog 22 #[.pointer (some ⟨rb, 0, none⟩)] w (GPost vUnit av base w rb d (.ok () (breaksF ts) ns)) := by
  obtain ⟨vt, vn, h⟩ := h
  exact (breaks_any av base rb d vn ts ns w ⟨vt, h⟩).mono fun e w' hp => TPost.g h hp
end
/-- A reader of the program answers as the plain one does, on so many tokens at most. -/
def Okc (fn : FuncId) (spec : Drd) (n : Nat) : Prop := ∀ (av : Nat → Prop) (base : Nat → Prop) (rb d : Nat) (ts : List Tok) (ns : List Nd) (w : World), (∀ k, av k → k < w.heap.size) → RIs av base w rb ts ns d → ts.length ≤ n →
  Calls Try.prog fn #[.pointer (some ⟨rb, 0, none⟩)] w (GPost vInt av base w rb d (spec d ts ns))
/-- A node that has kids alone, new. -/
theorem ndKids {av : Nat → Prop} {w : World} {b : Nat} {l : List Int} (hl : l.length ≤ 100000) (hb : Blk w b 3 (l.map (Value.int .i64)).toArray) (hav : ∀ k, av k → k < b) (kind : Int) (hp : 0 < l.length) :
    NdAt av w (.slice none 0 0) (.slice none 0 0) (.slice none 0 0) (.slice none 0 0) (.slice (some ⟨b, 0, none⟩) l.length l.length) { kind := kind, kids := l } := by
  refine ⟨Own.nil _ _ _ _, Own.nil _ _ _ _, Own.nil _ _ _ _, ⟨[], Own.nil _ _ _ _, fun b hb => (by cases hb), fun i hi => absurd hi (by simp)⟩, ⟨by simp, .inr ⟨b, 0, _, _, (0, 0), rfl, hb, Nat.zero_le _, Nat.le_refl _, by unfold maxLen; omega, by simp, fun j hj => by rw [Nat.zero_add]; simp⟩⟩, fun b hb => (by cases hb), fun b hb => (by cases hb), fun b hb => (by cases hb), fun k hk h => ?_⟩
  simp [Value.ownBlock] at hk
  subst hk
  have := hav _ h
  omega
set_option maxHeartbeats 16000000 in
theorem item_ok (n : Nat) (pipe : Drd) (hd : ∀ d, Dec 3 (pipe d)) (Hp : Okc 54 pipe n) : Okc 40 (fun d => itemF (pipe d)) n := by
  intro av base rb d ts ns w hav h hn
  have HP := hide (fun av base rb d ts ns w a b c => Hp av base rb d ts ns w a b c)
  have HD := hide (hd d)
  have HH := hide h
  have HAV := hide hav
  have HT := hide (fun w ts ns s (h : RIs av base w rb ts ns d) => take_g s h)
  have HB := hide (fun w ts ns (h : RIs av base w rb ts ns d) => breaks_g h)
  have HL := hide (fun w ts ns n a b r p k h hn hf => lay_any av base rb d ts ns n a b r p k w h hn hf)
  unfold GPost vBool at HT
  unfold GPost vUnit at HB
  unfold GPost vInt layR at HL
  unfold sv at HT
  show Calls Try.prog 40 #[.pointer (some ⟨rb, 0, none⟩)] w (GPost vInt av base w rb d (itemF (pipe d) ts ns))
  unfold itemF
  have HC := hide (Hp av base rb d ts ns w hav h hn)
  clear Hp hd h hav
  obtain ⟨PP, hp⟩ : ∃ PP, pipe d ts ns = PP := ⟨_, rfl⟩
  rw [hp]
  cases PP with
  | bad a e =>
    rw [hp] at HC
    rw [PR.bind_bad]
    unfold GPost at HC ⊢
    simp only [] at HC ⊢
    clear hp
    go_enter Try.func40, Try.ntmps40
    go_wp2_with fail
    refine HC.out.mono ?_
    rintro e w1 ⟨rfl, hf⟩
    exact post_panicP rfl ⟨rfl, hf⟩
  | ok x T ns1 =>
    have HLF := hide (HD.out _ _ _ _ _ HH.out.good hp)
    rw [hp] at HC
    rw [PR.bind_ok]
    obtain ⟨R, hR⟩ : ∃ R, itemL (pipe d) (T.length + 1) x T ns1 = R := ⟨_, rfl⟩
    have HR := hide hR
    rw [hR]
    unfold GPost vInt at HC
    simp only [] at HC
    clear hp hR
    go_enter Try.func40, Try.ntmps40
    go_wp2_with fail
    refine HC.out.mono ?_
    rintro e w1 ⟨v, rfl, rfl, hr1, hf1⟩
    have HR1 := hide hr1
    have HF1 := hide hf1
    clear hr1 hf1
    go_wp2_with fail
    go_loopg [3] T.length (fun g v3 wr => ∃ (f : Nat) (x : Int) (T : List Tok) (ns2 : List Nd), itemL (pipe d) f x T ns2 = R ∧ v3 = .int .i64 x ∧ T.length < f ∧ T.length ≤ g ∧ T.length ≤ n ∧ RIs av base wr rb T ns2 d ∧ Fr base w wr)
    case atStart => exact ⟨_, x, T, ns1, HR.out, rfl, Nat.lt_succ_self _, Nat.le_refl _, by have := HLF.out.len; omega, HR1.out, HF1.out⟩
    case round =>
      obtain ⟨f, x, T, ns2, hR, rfl, hf, hg, hTn, hr, hfr⟩ := hrel
      have HRr := hide hR
      have HI := hide hr
      have HFr := hide hfr
      have HGF := hide (And.intro hf (And.intro hg hTn))
      obtain ⟨f, rfl⟩ : ∃ f', f = f' + 1 := ⟨f - 1, by omega⟩
      clear hR hr hfr hf hg hTn
      obtain ⟨c1, hc1⟩ : ∃ c, isB T sAnd = c := ⟨_, rfl⟩
      have HT1 := hide (fun w (h : RIs av base w rb T ns2 d) => by have := HT.out w T ns2 sAnd h; rw [hc1] at this; exact this)
      unfold sAnd at HT1
      cases c1 with
      | true =>
        have HCT := hide hc1
        have HIT := hide HI.out
        clear hc1
        have hgt := is_tail HIT.out.good HCT.out
        have hbk := breaks_good hgt.1
        have hTT : takeT T sAnd = T.tail := if_pos HCT.out
        have HTx := hide (fun w (h : RIs av base w rb T ns2 d) => by have := HT1.out w h; rw [show takeT T [38, 38] = T.tail from hTT] at this; exact this)
        have hgl := HGF.out
        have hbl : (breaksF T.tail).length + 1 ≤ T.length := by omega
        have HBL := hide hbl
        obtain ⟨TB, hTB⟩ : ∃ TB, breaksF T.tail = TB := ⟨_, rfl⟩
        have HTB := hide hTB
        have HBx := hide (fun w (h : RIs av base w rb T.tail ns2 d) => by have := HB.out w T.tail ns2 h; rw [hTB] at this; exact this)
        rw [hTB] at HBL hbk
        have HGB := hide hbk.1
        obtain ⟨PQ, hpq⟩ : ∃ PQ, pipe d TB ns2 = PQ := ⟨_, rfl⟩
        have HPQ := hide hpq
        have HPC := hide (fun w a b => by have := HP.out av base rb d TB ns2 w a b (by omega); rw [hpq] at this; exact this)
        unfold GPost vInt at HPC
        have HR0 := hide (show R = PQ.bind fun y ts ns => itemL (pipe d) f ns.length ts (ns ++ [{ kind := 4, kids := [x, y] }]) by rw [← HRr.out, itemL, if_pos HCT.out, HTB.out, HPQ.out])
        clear hgt hbk hTT hgl hbl hTB hpq
        go_wp2_with fail
        refine (HTx.out _ HI.out).mono ?_
        rintro e wa ⟨v, rfl, rfl, hra, hfa⟩
        have HIa := hide hra
        have HFa := hide (HFr.out.trans hfa)
        clear hra hfa
        go_wp2_with fail
        refine (HBx.out _ HIa.out).mono ?_
        rintro e wb ⟨v, rfl, rfl, hrb, hfb⟩
        have HIb := hide hrb
        have HFb := hide (HFa.out.trans hfb)
        clear hrb hfb
        have HAb := hide (fun k (hk : av k) => Nat.lt_of_lt_of_le (HAV.out k hk) HFb.out.size)
        go_wp2_with fail
        refine (HPC.out _ HAb.out HIb.out).mono ?_
        cases PQ with
        | bad a e =>
          rintro e wc ⟨rfl, hfc⟩
          refine post_panicP rfl ?_
          rw [HR0.out]
          exact (⟨rfl, HFb.out.trans hfc⟩ : _ ∧ _)
        | ok y T3 ns3 =>
          rintro e wc ⟨v, rfl, rfl, hrc, hfc⟩
          have HIc := hide hrc
          have HFc := hide (HFb.out.trans hfc)
          clear hrc hfc
          have HLF3 := hide (HD.out _ _ _ _ _ HGB.out HPQ.out)
          have hfw := HIb.out.few
          have hl3 := HLF3.out.few
          have HIal := hide (HIc.out.grown (only_alloc (only_refl wc none) (.cells #[.int .i64 x, .int .i64 y] 3)))
          have HLc := hide (by have := HL.out (wc.alloc (.cells #[.int .i64 x, .int .i64 y] 3)) T3 ns3 { kind := 4, kids := [x, y] } (.slice none 0 0) (.slice none 0 0) (.slice none 0 0) (.slice none 0 0) (.slice (some ⟨wc.heap.size, 0, none⟩) 2 2) HIal.out (ndKids (l := [x, y]) (by simp) (Blk.new wc 3 _) (fun k hk => Nat.lt_of_lt_of_le (HAV.out k hk) HFc.out.size) 4 (by simp)) (by omega); unfold ndCells sv at this; simp only [] at this; exact this)
          clear hfw hl3
          go_wp2_with fail
          refine HLc.out.mono ?_
          rintro e wd ⟨v, rfl, rfl, hrd, hfd⟩
          have HId := hide hrd
          have HFd := hide ((HFc.out.alloc _).trans hfd)
          clear hrd hfd
          go_wp2_with fail
          go_roundg (gk - 1)
          case rel => exact ⟨f, _, T3, _, HR0.out.symm, rfl, by have := HLF3.out.len; have := HBL.out; have := HGF.out; omega, by have := HLF3.out.len; have := HBL.out; have := HGF.out; omega, by have := HLF3.out.len; have := HBL.out; have := HGF.out; omega, HId.out, HFd.out⟩
          case measure => have := HLF3.out.len; have := HBL.out; have := HGF.out; omega
      | false =>
        have hTT : takeT T sAnd = T := by unfold takeT; rw [hc1]; rfl
        have HT1 := hide (fun w (h : RIs av base w rb T ns2 d) => by have := HT1.out w h; rw [show takeT T [38, 38] = T from hTT] at this; exact this)
        go_wp2_with fail
        refine (HT1.out _ HI.out).mono ?_
        rintro e w2 ⟨v, rfl, rfl, hr2, hf2⟩
        have HI2 := hide hr2
        have HF2 := hide (HFr.out.trans hf2)
        clear hr2 hf2
        obtain ⟨c2, hc2⟩ : ∃ c, isB T sOr = c := ⟨_, rfl⟩
        have HT2 := hide (fun w (h : RIs av base w rb T ns2 d) => by have := HT.out w T ns2 sOr h; rw [hc2] at this; exact this)
        unfold sOr at HT2
        cases c2 with
        | true =>
          have HCT := hide hc2
          have HIT := hide HI.out
          have HN1 := hide hc1
          clear hc1 hc2 hTT
          have hgt := is_tail HIT.out.good HCT.out
          have hbk := breaks_good hgt.1
          have hTT : takeT T sOr = T.tail := if_pos HCT.out
          have HTx := hide (fun w (h : RIs av base w rb T ns2 d) => by have := HT2.out w h; rw [show takeT T [124, 124] = T.tail from hTT] at this; exact this)
          have hgl := HGF.out
          have hbl : (breaksF T.tail).length + 1 ≤ T.length := by omega
          have HBL := hide hbl
          obtain ⟨TB, hTB⟩ : ∃ TB, breaksF T.tail = TB := ⟨_, rfl⟩
          have HTB := hide hTB
          have HBx := hide (fun w (h : RIs av base w rb T.tail ns2 d) => by have := HB.out w T.tail ns2 h; rw [hTB] at this; exact this)
          rw [hTB] at HBL hbk
          have HGB := hide hbk.1
          obtain ⟨PQ, hpq⟩ : ∃ PQ, pipe d TB ns2 = PQ := ⟨_, rfl⟩
          have HPQ := hide hpq
          have HPC := hide (fun w a b => by have := HP.out av base rb d TB ns2 w a b (by omega); rw [hpq] at this; exact this)
          unfold GPost vInt at HPC
          have HR0 := hide (show R = PQ.bind fun y ts ns => itemL (pipe d) f ns.length ts (ns ++ [{ kind := 5, kids := [x, y] }]) by rw [← HRr.out, itemL, if_neg (by rw [HN1.out]; decide), if_pos HCT.out, HTB.out, HPQ.out])
          clear hgt hbk hTT hgl hbl hTB hpq
          go_wp2_with fail
          refine (HTx.out _ HI2.out).mono ?_
          rintro e wa ⟨v, rfl, rfl, hra, hfa⟩
          have HIa := hide hra
          have HFa := hide (HF2.out.trans hfa)
          clear hra hfa
          go_wp2_with fail
          refine (HBx.out _ HIa.out).mono ?_
          rintro e wb ⟨v, rfl, rfl, hrb, hfb⟩
          have HIb := hide hrb
          have HFb := hide (HFa.out.trans hfb)
          clear hrb hfb
          have HAb := hide (fun k (hk : av k) => Nat.lt_of_lt_of_le (HAV.out k hk) HFb.out.size)
          go_wp2_with fail
          refine (HPC.out _ HAb.out HIb.out).mono ?_
          cases PQ with
          | bad a e =>
            rintro e wc ⟨rfl, hfc⟩
            refine post_panicP rfl ?_
            rw [HR0.out]
            exact (⟨rfl, HFb.out.trans hfc⟩ : _ ∧ _)
          | ok y T3 ns3 =>
            rintro e wc ⟨v, rfl, rfl, hrc, hfc⟩
            have HIc := hide hrc
            have HFc := hide (HFb.out.trans hfc)
            clear hrc hfc
            have HLF3 := hide (HD.out _ _ _ _ _ HGB.out HPQ.out)
            have hfw := HIb.out.few
            have hl3 := HLF3.out.few
            have HIal := hide (HIc.out.grown (only_alloc (only_refl wc none) (.cells #[.int .i64 x, .int .i64 y] 3)))
            have HLc := hide (by have := HL.out (wc.alloc (.cells #[.int .i64 x, .int .i64 y] 3)) T3 ns3 { kind := 5, kids := [x, y] } (.slice none 0 0) (.slice none 0 0) (.slice none 0 0) (.slice none 0 0) (.slice (some ⟨wc.heap.size, 0, none⟩) 2 2) HIal.out (ndKids (l := [x, y]) (by simp) (Blk.new wc 3 _) (fun k hk => Nat.lt_of_lt_of_le (HAV.out k hk) HFc.out.size) 5 (by simp)) (by omega); unfold ndCells sv at this; simp only [] at this; exact this)
            clear hfw hl3
            go_wp2_with fail
            refine HLc.out.mono ?_
            rintro e wd ⟨v, rfl, rfl, hrd, hfd⟩
            have HId := hide hrd
            have HFd := hide ((HFc.out.alloc _).trans hfd)
            clear hrd hfd
            go_wp2_with fail
            go_roundg (gk - 1)
            case rel => exact ⟨f, _, T3, _, HR0.out.symm, rfl, by have := HLF3.out.len; have := HBL.out; have := HGF.out; omega, by have := HLF3.out.len; have := HBL.out; have := HGF.out; omega, by have := HLF3.out.len; have := HBL.out; have := HGF.out; omega, HId.out, HFd.out⟩
            case measure => have := HLF3.out.len; have := HBL.out; have := HGF.out; omega
        | false =>
          have hTT2 : takeT T sOr = T := by unfold takeT; rw [hc2]; rfl
          have HT2 := hide (fun w (h : RIs av base w rb T ns2 d) => by have := HT2.out w h; rw [show takeT T [124, 124] = T from hTT2] at this; exact this)
          have HRS := hide (show R = .ok x T ns2 by rw [← HRr.out, itemL, if_neg (by rw [hc1]; decide), if_neg (by rw [hc2]; decide)])
          clear hc1 hc2 hTT hTT2
          go_wp2_with fail
          refine (HT2.out _ HI2.out).mono ?_
          rintro e w3 ⟨v, rfl, rfl, hr3, hf3⟩
          have HI3 := hide hr3
          have HF3 := hide (HF2.out.trans hf3)
          clear hr3 hf3
          go_wp2_with fail
          rw [HRS.out]
          go_ret
          exact ⟨_, rfl, rfl, HI3.out, HF3.out⟩

end Go.Proofs.Ytgpfjcogaheopaa
