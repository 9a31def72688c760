/- Several texts in one. -/
import Derived.Test.YtgpfjcogaheopaaPI
import Derived.Deep.LoopGhost
set_option linter.all false
section
/- The readers' contracts; an item. -/
namespace Go.Proofs.Ytgpfjcogaheopaa
open Go.RowKit Lx
set_option maxRecDepth 100000
section
variable {av : Nat → Prop} {base : Nat → Prop} {rb d : Nat} {w w' : World} {ts : List Tok} {ns : List Nd}
theorem take_g (s : List UInt8) (h : RIs av base w rb ts ns d) : Calls Try.prog 41 #[.pointer (some ⟨rb, 0, none⟩), sv s] w (GPost vBool av base w rb d (.ok (isB ts s) (takeT ts s) ns)) := by
 obtain ⟨vt, vn, h⟩ := h
 exact (take_any av base rb d vn ts ns s w ⟨vt, h⟩).mono fun e w' hp => TPost.g h hp
theorem need_g (s : List UInt8) (h : RIs av base w rb ts ns d) : Calls Try.prog 92 #[.pointer (some ⟨rb, 0, none⟩), sv s] w (GPost vUnit av base w rb d (needR s ts ns)) := by
 obtain ⟨vt, vn, h⟩ := h
 exact (need_any av base rb d vn ts ns s w ⟨vt, h⟩).mono fun e w' hp => TPost.g h hp
theorem breaks_g (h : RIs av base w rb ts ns d) : Calls Try.prog 22 #[.pointer (some ⟨rb, 0, none⟩)] w (GPost vUnit av base w rb d (.ok () (breaksF ts) ns)) := by
 obtain ⟨vt, vn, h⟩ := h
 exact (breaks_any av base rb d vn ts ns w ⟨vt, h⟩).mono fun e w' hp => TPost.g h hp
end
/-- A reader of the program answers as the plain one does, on so many tokens at most. -/
def Okc (fn : FuncId) (spec : Drd) (n : Nat) : Prop := ∀ (av : Nat → Prop) (base : Nat → Prop) (rb d : Nat) (ts : List Tok) (ns : List Nd) (w : World), (∀ k, av k → k < w.heap.size) → RIs av base w rb ts ns d → ts.length ≤ n →
 Calls Try.prog fn #[.pointer (some ⟨rb, 0, none⟩)] w (GPost vInt av base w rb d (spec d ts ns))
/-- A node that has kids alone, new. -/
theorem ndKids {av : Nat → Prop} {w : World} {b : Nat} {l : List Int} (hl : l.length ≤ 100000) (hb : Blk w b 3 (l.map (Value.int .i64)).toArray) (hav : ∀ k, av k → k < b) (kind : Int) (hp : 0 < l.length) :
  NdAt av w (.slice none 0 0) (.slice none 0 0) (.slice none 0 0) (.slice none 0 0) (.slice (some ⟨b, 0, none⟩) l.length l.length) { kind := kind, kids := l } := by
 refine ⟨Own.nil _ _ _ _, Own.nil _ _ _ _, Own.nil _ _ _ _, ⟨[], Own.nil _ _ _ _, fun b hb => (by cases hb), fun i hi => absurd hi (by simp)⟩, ⟨by simp, .inr ⟨b, 0, _, _, (0, 0), rfl, hb, Nat.zero_le _, Nat.le_refl _, by unfold maxLen; omega, by simp, fun j hj => by rw [Nat.zero_add]; simp⟩⟩, fun b hb => (by cases hb), fun b hb => (by cases hb), fun b hb => (by cases hb), fun k hk h => ?_⟩
 simp [Value.ownBlock] at hk
 subst hk
 have := hav _ h
 omega
set_option maxHeartbeats 16000000 in
theorem item_ok (n : Nat) (pipe : Drd) (hd : ∀ d, Dec 3 (pipe d)) (Hp : Okc 54 pipe n) : Okc 40 (fun d => itemF (pipe d)) n := by
 intro av base rb d ts ns w hav h hn
 have HP := hide (fun av base rb d ts ns w a b c => Hp av base rb d ts ns w a b c)
 have HD := hide (hd d)
 have HH := hide h
 have HAV := hide hav
 have HT := hide (fun w ts ns s (h : RIs av base w rb ts ns d) => take_g s h)
 have HB := hide (fun w ts ns (h : RIs av base w rb ts ns d) => breaks_g h)
 have HL := hide (fun w ts ns n a b r p k h hn hf => lay_any av base rb d ts ns n a b r p k w h hn hf)
 unfold GPost vBool at HT
 unfold GPost vUnit at HB
 unfold GPost vInt layR at HL
 unfold sv at HT
 show Calls Try.prog 40 #[.pointer (some ⟨rb, 0, none⟩)] w (GPost vInt av base w rb d (itemF (pipe d) ts ns))
 unfold itemF
 have HC := hide (Hp av base rb d ts ns w hav h hn)
 clear Hp hd h hav
 obtain ⟨PP, hp⟩ : ∃ PP, pipe d ts ns = PP := ⟨_, rfl⟩
 rw [hp]
 cases PP with
 | bad a e =>
  rw [hp] at HC
  rw [PR.bind_bad]
  unfold GPost at HC ⊢
  simp only [] at HC ⊢
  clear hp
  go_enter Try.func40, Try.ntmps40
  go_wp2_with fail
  refine HC.out.mono ?_
  rintro e w1 ⟨rfl, hf⟩
  exact post_panicP rfl ⟨rfl, hf⟩
 | ok x T ns1 =>
  have HLF := hide (HD.out _ _ _ _ _ HH.out.good hp)
  rw [hp] at HC
  rw [PR.bind_ok]
  obtain ⟨R, hR⟩ : ∃ R, itemL (pipe d) (T.length + 1) x T ns1 = R := ⟨_, rfl⟩
  have HR := hide hR
  rw [hR]
  unfold GPost vInt at HC
  simp only [] at HC
  clear hp hR
  go_enter Try.func40, Try.ntmps40
  go_wp2_with fail
  refine HC.out.mono ?_
  rintro e w1 ⟨v, rfl, rfl, hr1, hf1⟩
  have HR1 := hide hr1
  have HF1 := hide hf1
  clear hr1 hf1
  go_wp2_with fail
  go_loopg [3] T.length (fun g v3 wr => ∃ (f : Nat) (x : Int) (T : List Tok) (ns2 : List Nd), itemL (pipe d) f x T ns2 = R ∧ v3 = .int .i64 x ∧ T.length < f ∧ T.length ≤ g ∧ T.length ≤ n ∧ RIs av base wr rb T ns2 d ∧ Fr base w wr)
  case atStart => exact ⟨_, x, T, ns1, HR.out, rfl, Nat.lt_succ_self _, Nat.le_refl _, by have := HLF.out.len; omega, HR1.out, HF1.out⟩
  case round =>
   obtain ⟨f, x, T, ns2, hR, rfl, hf, hg, hTn, hr, hfr⟩ := hrel
   have HRr := hide hR
   have HI := hide hr
   have HFr := hide hfr
   have HGF := hide (And.intro hf (And.intro hg hTn))
   obtain ⟨f, rfl⟩ : ∃ f', f = f' + 1 := ⟨f - 1, by omega⟩
   clear hR hr hfr hf hg hTn
   obtain ⟨c1, hc1⟩ : ∃ c, isB T sAnd = c := ⟨_, rfl⟩
   have HT1 := hide (fun w (h : RIs av base w rb T ns2 d) => by have := HT.out w T ns2 sAnd h; rw [hc1] at this; exact this)
   unfold sAnd at HT1
   cases c1 with
   | true =>
    have HCT := hide hc1
    have HIT := hide HI.out
    clear hc1
    have hgt := is_tail HIT.out.good HCT.out
    have hbk := breaks_good hgt.1
    have hTT : takeT T sAnd = T.tail := if_pos HCT.out
    have HTx := hide (fun w (h : RIs av base w rb T ns2 d) => by have := HT1.out w h; rw [show takeT T [38, 38] = T.tail from hTT] at this; exact this)
    have hgl := HGF.out
    have hbl : (breaksF T.tail).length + 1 ≤ T.length := by omega
    have HBL := hide hbl
    obtain ⟨TB, hTB⟩ : ∃ TB, breaksF T.tail = TB := ⟨_, rfl⟩
    have HTB := hide hTB
    have HBx := hide (fun w (h : RIs av base w rb T.tail ns2 d) => by have := HB.out w T.tail ns2 h; rw [hTB] at this; exact this)
    rw [hTB] at HBL hbk
    have HGB := hide hbk.1
    obtain ⟨PQ, hpq⟩ : ∃ PQ, pipe d TB ns2 = PQ := ⟨_, rfl⟩
    have HPQ := hide hpq
    have HPC := hide (fun w a b => by have := HP.out av base rb d TB ns2 w a b (by omega); rw [hpq] at this; exact this)
    unfold GPost vInt at HPC
    have HR0 := hide (show R = PQ.bind fun y ts ns => itemL (pipe d) f ns.length ts (ns ++ [{ kind := 4, kids := [x, y] }]) by rw [← HRr.out, itemL, if_pos HCT.out, HTB.out, HPQ.out])
    clear hgt hbk hTT hgl hbl hTB hpq
    go_wp2_with fail
    refine (HTx.out _ HI.out).mono ?_
    rintro e wa ⟨v, rfl, rfl, hra, hfa⟩
    have HIa := hide hra
    have HFa := hide (HFr.out.trans hfa)
    clear hra hfa
    go_wp2_with fail
    refine (HBx.out _ HIa.out).mono ?_
    rintro e wb ⟨v, rfl, rfl, hrb, hfb⟩
    have HIb := hide hrb
    have HFb := hide (HFa.out.trans hfb)
    clear hrb hfb
    have HAb := hide (fun k (hk : av k) => Nat.lt_of_lt_of_le (HAV.out k hk) HFb.out.size)
    go_wp2_with fail
    refine (HPC.out _ HAb.out HIb.out).mono ?_
    cases PQ with
    | bad a e =>
     rintro e wc ⟨rfl, hfc⟩
     refine post_panicP rfl ?_
     rw [HR0.out]
     exact (⟨rfl, HFb.out.trans hfc⟩ : _ ∧ _)
    | ok y T3 ns3 =>
     rintro e wc ⟨v, rfl, rfl, hrc, hfc⟩
     have HIc := hide hrc
     have HFc := hide (HFb.out.trans hfc)
     clear hrc hfc
     have HLF3 := hide (HD.out _ _ _ _ _ HGB.out HPQ.out)
     have hfw := HIb.out.few
     have hl3 := HLF3.out.few
     have HIal := hide (HIc.out.grown (only_alloc (only_refl wc none) (.cells #[.int .i64 x, .int .i64 y] 3)))
     have HLc := hide (by have := HL.out (wc.alloc (.cells #[.int .i64 x, .int .i64 y] 3)) T3 ns3 { kind := 4, kids := [x, y] } (.slice none 0 0) (.slice none 0 0) (.slice none 0 0) (.slice none 0 0) (.slice (some ⟨wc.heap.size, 0, none⟩) 2 2) HIal.out (ndKids (l := [x, y]) (by simp) (Blk.new wc 3 _) (fun k hk => Nat.lt_of_lt_of_le (HAV.out k hk) HFc.out.size) 4 (by simp)) (by omega); unfold ndCells sv at this; simp only [] at this; exact this)
     clear hfw hl3
     go_wp2_with fail
     refine HLc.out.mono ?_
     rintro e wd ⟨v, rfl, rfl, hrd, hfd⟩
     have HId := hide hrd
     have HFd := hide ((HFc.out.alloc _).trans hfd)
     clear hrd hfd
     go_wp2_with fail
     go_roundg (gk - 1)
     case rel => exact ⟨f, _, T3, _, HR0.out.symm, rfl, by have := HLF3.out.len; have := HBL.out; have := HGF.out; omega, by have := HLF3.out.len; have := HBL.out; have := HGF.out; omega, by have := HLF3.out.len; have := HBL.out; have := HGF.out; omega, HId.out, HFd.out⟩
     case measure => have := HLF3.out.len; have := HBL.out; have := HGF.out; omega
   | false =>
    have hTT : takeT T sAnd = T := by unfold takeT; rw [hc1]; rfl
    have HT1 := hide (fun w (h : RIs av base w rb T ns2 d) => by have := HT1.out w h; rw [show takeT T [38, 38] = T from hTT] at this; exact this)
    go_wp2_with fail
    refine (HT1.out _ HI.out).mono ?_
    rintro e w2 ⟨v, rfl, rfl, hr2, hf2⟩
    have HI2 := hide hr2
    have HF2 := hide (HFr.out.trans hf2)
    clear hr2 hf2
    obtain ⟨c2, hc2⟩ : ∃ c, isB T sOr = c := ⟨_, rfl⟩
    have HT2 := hide (fun w (h : RIs av base w rb T ns2 d) => by have := HT.out w T ns2 sOr h; rw [hc2] at this; exact this)
    unfold sOr at HT2
    cases c2 with
    | true =>
     have HCT := hide hc2
     have HIT := hide HI.out
     have HN1 := hide hc1
     clear hc1 hc2 hTT
     have hgt := is_tail HIT.out.good HCT.out
     have hbk := breaks_good hgt.1
     have hTT : takeT T sOr = T.tail := if_pos HCT.out
     have HTx := hide (fun w (h : RIs av base w rb T ns2 d) => by have := HT2.out w h; rw [show takeT T [124, 124] = T.tail from hTT] at this; exact this)
     have hgl := HGF.out
     have hbl : (breaksF T.tail).length + 1 ≤ T.length := by omega
     have HBL := hide hbl
     obtain ⟨TB, hTB⟩ : ∃ TB, breaksF T.tail = TB := ⟨_, rfl⟩
     have HTB := hide hTB
     have HBx := hide (fun w (h : RIs av base w rb T.tail ns2 d) => by have := HB.out w T.tail ns2 h; rw [hTB] at this; exact this)
     rw [hTB] at HBL hbk
     have HGB := hide hbk.1
     obtain ⟨PQ, hpq⟩ : ∃ PQ, pipe d TB ns2 = PQ := ⟨_, rfl⟩
     have HPQ := hide hpq
     have HPC := hide (fun w a b => by have := HP.out av base rb d TB ns2 w a b (by omega); rw [hpq] at this; exact this)
     unfold GPost vInt at HPC
     have HR0 := hide (show R = PQ.bind fun y ts ns => itemL (pipe d) f ns.length ts (ns ++ [{ kind := 5, kids := [x, y] }]) by rw [← HRr.out, itemL, if_neg (by rw [HN1.out]; decide), if_pos HCT.out, HTB.out, HPQ.out])
     clear hgt hbk hTT hgl hbl hTB hpq
     go_wp2_with fail
     refine (HTx.out _ HI2.out).mono ?_
     rintro e wa ⟨v, rfl, rfl, hra, hfa⟩
     have HIa := hide hra
     have HFa := hide (HF2.out.trans hfa)
     clear hra hfa
     go_wp2_with fail
     refine (HBx.out _ HIa.out).mono ?_
     rintro e wb ⟨v, rfl, rfl, hrb, hfb⟩
     have HIb := hide hrb
     have HFb := hide (HFa.out.trans hfb)
     clear hrb hfb
     have HAb := hide (fun k (hk : av k) => Nat.lt_of_lt_of_le (HAV.out k hk) HFb.out.size)
     go_wp2_with fail
     refine (HPC.out _ HAb.out HIb.out).mono ?_
     cases PQ with
     | bad a e =>
      rintro e wc ⟨rfl, hfc⟩
      refine post_panicP rfl ?_
      rw [HR0.out]
      exact (⟨rfl, HFb.out.trans hfc⟩ : _ ∧ _)
     | ok y T3 ns3 =>
      rintro e wc ⟨v, rfl, rfl, hrc, hfc⟩
      have HIc := hide hrc
      have HFc := hide (HFb.out.trans hfc)
      clear hrc hfc
      have HLF3 := hide (HD.out _ _ _ _ _ HGB.out HPQ.out)
      have hfw := HIb.out.few
      have hl3 := HLF3.out.few
      have HIal := hide (HIc.out.grown (only_alloc (only_refl wc none) (.cells #[.int .i64 x, .int .i64 y] 3)))
      have HLc := hide (by have := HL.out (wc.alloc (.cells #[.int .i64 x, .int .i64 y] 3)) T3 ns3 { kind := 5, kids := [x, y] } (.slice none 0 0) (.slice none 0 0) (.slice none 0 0) (.slice none 0 0) (.slice (some ⟨wc.heap.size, 0, none⟩) 2 2) HIal.out (ndKids (l := [x, y]) (by simp) (Blk.new wc 3 _) (fun k hk => Nat.lt_of_lt_of_le (HAV.out k hk) HFc.out.size) 5 (by simp)) (by omega); unfold ndCells sv at this; simp only [] at this; exact this)
      clear hfw hl3
      go_wp2_with fail
      refine HLc.out.mono ?_
      rintro e wd ⟨v, rfl, rfl, hrd, hfd⟩
      have HId := hide hrd
      have HFd := hide ((HFc.out.alloc _).trans hfd)
      clear hrd hfd
      go_wp2_with fail
      go_roundg (gk - 1)
      case rel => exact ⟨f, _, T3, _, HR0.out.symm, rfl, by have := HLF3.out.len; have := HBL.out; have := HGF.out; omega, by have := HLF3.out.len; have := HBL.out; have := HGF.out; omega, by have := HLF3.out.len; have := HBL.out; have := HGF.out; omega, HId.out, HFd.out⟩
      case measure => have := HLF3.out.len; have := HBL.out; have := HGF.out; omega
    | false =>
     have hTT2 : takeT T sOr = T := by unfold takeT; rw [hc2]; rfl
     have HT2 := hide (fun w (h : RIs av base w rb T ns2 d) => by have := HT2.out w h; rw [show takeT T [124, 124] = T from hTT2] at this; exact this)
     have HRS := hide (show R = .ok x T ns2 by rw [← HRr.out, itemL, if_neg (by rw [hc1]; decide), if_neg (by rw [hc2]; decide)])
     clear hc1 hc2 hTT hTT2
     go_wp2_with fail
     refine (HT2.out _ HI2.out).mono ?_
     rintro e w3 ⟨v, rfl, rfl, hr3, hf3⟩
     have HI3 := hide hr3
     have HF3 := hide (HF2.out.trans hf3)
     clear hr3 hf3
     go_wp2_with fail
     rw [HRS.out]
     go_ret
     exact ⟨_, rfl, rfl, HI3.out, HF3.out⟩
end Go.Proofs.Ytgpfjcogaheopaa

end
section
/- A pipe. -/
namespace Go.Proofs.Ytgpfjcogaheopaa
open Go.RowKit Lx
set_option maxRecDepth 100000
theorem infoInt : (Try.prog.info? 3).map (fun i => (i.zero, i.size, i.bytes)) = some (some (.int .i64 0), 1, 8) := by kernel_rfl
theorem srcI (W : World) (b : Nat) (x : Int) (hb : W.heap.size = b) : Src Try.prog 1 31 (.slice (some ⟨b, 0, none⟩) 1 1) 1 [.int .i64 x] (W.alloc (.cells #[.int .i64 x] 3)) := by
 subst hb
 exact Own.src (P := Try.prog) (tx := 31) (e' := 3) (n := 1) (xs := [.int .i64 x]) (k := 0) (e := 3) ⟨rfl, .inr ⟨W.heap.size, 0, 1, _, (0, 0), rfl, Blk.new W 3 _, Nat.le_refl _, Nat.le_refl _, by unfold maxLen; omega, by show 0 + 1 * 1 ≤ 1; omega, fun j hj => (by (have h0 : j = 0 := by omega); subst h0; rfl)⟩⟩ (by kernel_rfl) (by intro u hu; simp at hu; subst hu; rfl)
section
variable {av : Nat → Prop} {base : Nat → Prop} {rb d : Nat} {w W wA : World} {v vA : Value} {T : List Tok} {ns : List Nd} {kids : List Int}
theorem fr_app {S : Nat → Prop} (hf : Fr base w W) (o : Obj) (hc : Chg S (W.alloc o) wA) (hS : ∀ k, S k → w.heap.size ≤ k) : Fr base w wA :=
 Chg.trans (hf.alloc o) hc fun i hi hs => absurd (hS i hs) (by omega)
theorem kids_app (h : RIs (fun k => av k ∨ v.ownBlock = some k) base W rb T ns d) (hk : IntS W v kids) (o : Obj) (hc : Chg (fun b => v.ownBlock = some b) (W.alloc o) wA) (hn : ∀ b, vA.ownBlock = some b → v.ownBlock = some b ∨ (W.alloc o).heap.size ≤ b) : RIs (fun k => av k ∨ vA.ownBlock = some k) base wA rb T ns d := by
 obtain ⟨vt, vn, h⟩ := h
 have h1 := (h.grown (only_alloc (only_refl W none) o)).more (S := fun k => (W.alloc o).heap.size ≤ k) (fun _ h => h)
 have h3 : ∀ k, v.ownBlock = some k → HasT (W.alloc o) k 3 := fun k e => Own.hasT (Own.alloc hk o) e
 have h2 := h1.chg hc (fun k hk => .inl (.inr hk)) (fun k e => ⟨fun x => absurd ((h3 k e).uniq x) (by decide), fun x => absurd ((h3 k e).uniq x) (by decide), fun x => absurd ((h3 k e).uniq x) (by decide)⟩)
 refine ⟨vt, vn, h2.mono fun k hk => ?_⟩
 rcases hk with hk | hk
 ·exact .inl (.inl hk)
 ·rcases hn k hk with e | e
  ·exact .inl (.inr e)
  ·exact .inr e
theorem kids_new (h : RIs av base W rb T ns d) (o : Obj) (n c : Nat) : RIs (fun k => av k ∨ (Value.slice (some ⟨W.heap.size, 0, none⟩) n c).ownBlock = some k) base (W.alloc o) rb T ns d := by
 obtain ⟨vt, vn, h⟩ := h
 refine ⟨vt, vn, ((h.more (S := fun k => W.heap.size ≤ k) (fun _ h => h)).grown (only_alloc (only_refl W none) o)).mono fun k hk => ?_⟩
 rcases hk with hk | hk
 ·exact .inl hk
 ·simp [Value.ownBlock] at hk
  exact .inr (by omega)
theorem RIs.mono {av2 : Nat → Prop} (hm : ∀ k, av2 k → av k) (h : RIs av base W rb T ns d) : RIs av2 base W rb T ns d := by
 obtain ⟨vt, vn, h⟩ := h
 exact ⟨vt, vn, h.mono hm⟩
/-- A node with kids alone, of a slice that is one's own. -/
theorem ndOwn (hk : IntS W v kids) (hn : ∀ b, v.ownBlock = some b → w.heap.size ≤ b) (hav : ∀ k, av k → k < w.heap.size) (kind : Int) : NdAt av W (.slice none 0 0) (.slice none 0 0) (.slice none 0 0) (.slice none 0 0) v { kind := kind, kids := kids } :=
 ⟨Own.nil _ _ _ _, Own.nil _ _ _ _, Own.nil _ _ _ _, ⟨[], Own.nil _ _ _ _, fun b hb => (by cases hb), fun i hi => absurd hi (by simp)⟩, hk, fun b hb => (by cases hb), fun b hb => (by cases hb), fun b hb => (by cases hb), fun b hb h => by have := hn b hb; have := hav b h; omega⟩
end
structure KdAt (av : Nat → Prop) (base : Nat → Prop) (w W : World) (rb : Nat) (T : List Tok) (ns : List Nd) (d : Nat) (v : Value) (kids : List Int) : Prop where
 r : RIs (fun k => av k ∨ v.ownBlock = some k) base W rb T ns d
 own : IntS W v kids
 new : ∀ b, v.ownBlock = some b → w.heap.size ≤ b
 fr : Fr base w W
section
variable {av : Nat → Prop} {base : Nat → Prop} {rb d : Nat} {w W W' wA : World} {v vA : Value} {T T' : List Tok} {ns ns' : List Nd} {kids : List Int}
theorem KdAt.step (h : KdAt av base w W rb T ns d v kids) (hr : RIs (fun k => av k ∨ v.ownBlock = some k) base W' rb T' ns' d) (hf : Fr base W W') : KdAt av base w W' rb T' ns' d v kids := ⟨hr, IntS.fr hf h.own, h.new, h.fr.trans hf⟩
theorem KdAt.lt_ (h : KdAt av base w W rb T ns d v kids) (ha : ∀ k, av k → k < w.heap.size) : ∀ k, (av k ∨ v.ownBlock = some k) → k < W.heap.size := fun k hk => by
 rcases hk with hk | hk
 ·exact Nat.lt_of_lt_of_le (ha k hk) h.fr.size
 ·exact Own.lt h.own hk
theorem KdAt.app (h : KdAt av base w W rb T ns d v kids) (o : Obj) {y : Int} (ho : Own wA 3 1 vA (kids.length + 1) (kids.map (Value.int .i64) ++ [.int .i64 y]) 0) (hc : Chg (fun b => v.ownBlock = some b) (W.alloc o) wA) (hn : ∀ b, vA.ownBlock = some b → v.ownBlock = some b ∨ (W.alloc o).heap.size ≤ b) : KdAt av base w wA rb T ns d vA (kids ++ [y]) := by
 refine ⟨kids_app h.r h.own o hc hn, ?_, fun b hb => ?_, fr_app h.fr o hc h.new⟩
 ·unfold IntS
  rw [List.length_append, List.length_singleton, List.map_append]
  exact ho
 ·rcases hn b hb with e | e
  ·exact h.new b e
  ·rw [World.size_alloc] at e
   have := h.fr.size
   omega
theorem KdAt.first (h : RIs av base W rb T ns d) (hf : Fr base w W) (x : Int) : KdAt av base w (W.alloc (.cells #[.int .i64 x] 3)) rb T ns d (.slice (some ⟨W.heap.size, 0, none⟩) 1 1) [x] := by
 refine ⟨kids_new h _ _ _, ?_, fun b hb => ?_, hf.alloc _⟩
 ·exact ⟨rfl, .inr ⟨W.heap.size, 0, 1, _, (0, 0), rfl, Blk.new W 3 _, Nat.le_refl _, Nat.le_refl _, by unfold maxLen; omega, by show 0 + 1 * 1 ≤ 1; omega, fun j hj => (by (have hj1 : j < 1 := hj); (have h0 : j = 0 := by omega); subst h0; rfl)⟩⟩
 ·simp [Value.ownBlock] at hb
  have := hf.size
  omega
theorem KdAt.plain (h : KdAt av base w W rb T ns d v kids) : RIs av base W rb T ns d := h.r.mono fun _ hk => .inl hk
end
set_option maxHeartbeats 16000000 in
theorem pipe_ok (n : Nat) (cmd : Drd) (hd : ∀ d, Dec 5 (cmd d)) (Hp : Okc 65 cmd n) : Okc 54 (fun d => pipeF (cmd d)) n := by
 intro av base rb d ts ns w hav h hn
 have HP := hide (fun av base rb d ts ns w a b c => Hp av base rb d ts ns w a b c)
 have HD := hide (hd d)
 have HH := hide h
 have HAV := hide hav
 have HT := hide (fun av w ts ns s (h : RIs av base w rb ts ns d) => take_g s h)
 have HB := hide (fun av w ts ns (h : RIs av base w rb ts ns d) => breaks_g h)
 have HL := hide (fun w ts ns n a b r p k h hn hf => lay_any av base rb d ts ns n a b r p k w h hn hf)
 unfold GPost vBool at HT
 unfold GPost vUnit at HB
 unfold GPost vInt layR at HL
 unfold sv at HT
 show Calls Try.prog 54 #[.pointer (some ⟨rb, 0, none⟩)] w (GPost vInt av base w rb d (pipeF (cmd d) ts ns))
 unfold pipeF
 have hgt := take_good (s := wBang) h.good
 obtain ⟨nb, hnb⟩ : ∃ nb, isB ts wBang = nb := ⟨_, rfl⟩
 obtain ⟨TB, hTB⟩ : ∃ TB, takeT ts wBang = TB := ⟨_, rfl⟩
 have HT0 := hide (fun w h => by have := HT.out av w ts ns wBang h; rw [hnb, hTB] at this; exact this)
 unfold wBang at HT0
 rw [hTB] at hgt ⊢
 rw [hnb]
 have HGT := hide hgt
 have HC := hide (fun w a b => Hp av base rb d TB ns w a b (by have := HGT.out.2; omega))
 clear Hp hd h hav hgt hnb hTB
 obtain ⟨PP, hp⟩ : ∃ PP, cmd d TB ns = PP := ⟨_, rfl⟩
 rw [hp]
 have HC := hide (fun w a b => by have := HC.out w a b; rw [hp] at this; exact this)
 unfold GPost vInt at HC
 have HPP := hide hp
 clear hp
 cases PP with
 | bad a e =>
  rw [PR.bind_bad]
  unfold GPost
  simp only []
  go_enter Try.func54, Try.ntmps54
  go_wp2_with fail
  refine (HT0.out _ HH.out).mono ?_
  rintro e w1 ⟨v, rfl, rfl, hr1, hf1⟩
  have HR1 := hide hr1
  have HF1 := hide hf1
  clear hr1 hf1
  go_wp2_with fail
  refine (HC.out _ (fun k hk => Nat.lt_of_lt_of_le (HAV.out k hk) HF1.out.size) HR1.out).mono ?_
  rintro e w2 ⟨rfl, hf⟩
  exact post_panicP rfl ⟨rfl, HF1.out.trans hf⟩
 | ok x T ns1 =>
  have HLF := hide (HD.out _ _ _ _ _ HGT.out.1 HPP.out)
  rw [PR.bind_ok]
  obtain ⟨R, hR⟩ : ∃ R, ((pipeL (cmd d) (T.length + 1) [x] T ns1).bind fun kids tt ns => if 1 < kids.length then notR nb ns.length tt (ns ++ [{ kind := 3, kids := kids }]) else notR nb (kids.headD 0) tt ns) = R := ⟨_, rfl⟩
  have HR := hide hR
  rw [hR]
  clear hR
  go_enter Try.func54, Try.ntmps54
  go_wp2_with fail
  refine (HT0.out _ HH.out).mono ?_
  rintro e w1 ⟨v, rfl, rfl, hr1, hf1⟩
  have HR1 := hide hr1
  have HF1 := hide hf1
  clear hr1 hf1
  go_wp2_with fail
  refine (HC.out _ (fun k hk => Nat.lt_of_lt_of_le (HAV.out k hk) HF1.out.size) HR1.out).mono ?_
  rintro e w2 ⟨v, rfl, rfl, hr2, hf2⟩
  have HK := hide (KdAt.first hr2 (HF1.out.trans hf2) x)
  clear hr2 hf2
  go_wp2_with fail
  go_loopg [4] T.length (fun g v4 wr => ∃ (f : Nat) (kids : List Int) (T : List Tok) (ns2 : List Nd), ((pipeL (cmd d) f kids T ns2).bind fun kids tt ns => if 1 < kids.length then notR nb ns.length tt (ns ++ [{ kind := 3, kids := kids }]) else notR nb (kids.headD 0) tt ns) = R ∧ T.length < f ∧ T.length ≤ g ∧ T.length ≤ n ∧ kids ≠ [] ∧ kids.length + T.length ≤ 100000 ∧ ns2.length + 10 * T.length + 5 ≤ 100000 ∧ KdAt av base w wr rb T ns2 d v4 kids)
  case atStart => exact ⟨_, [x], T, ns1, HR.out, Nat.lt_succ_self _, Nat.le_refl _, by have := HLF.out.len; have := HGT.out.2; omega, by simp, by have := HLF.out.len; have := HGT.out.2; have := HH.out.few; simp only [List.length_singleton]; omega, by have := HLF.out.few; have := HGT.out.2; have := HH.out.few; omega, HK.out⟩
  case round =>
   obtain ⟨f, kids, T, ns2, hR, hf, hg, hTn, hne, hkl, hfw, hK⟩ := hrel
   have HRr := hide hR
   have HK := hide hK
   have HGF := hide (And.intro hf (And.intro hg (And.intro hTn (And.intro hkl hfw))))
   have HNE := hide hne
   obtain ⟨a4, cap4, rfl, hcap4, _⟩ := Own.form hK.own
   obtain ⟨f, rfl⟩ : ∃ f', f = f' + 1 := ⟨f - 1, by omega⟩
   clear hR hf hg hTn hfw hK
   obtain ⟨c1, hc1⟩ : ∃ c, isB T sBar = c := ⟨_, rfl⟩
   have HT1 := hide (fun w h => by have := HT.out (fun k => av k ∨ (Value.slice a4 kids.length cap4).ownBlock = some k) w T ns2 sBar h; rw [hc1] at this; exact this)
   cases c1 with
   | true =>
    have HCT := hide hc1
    have hgt := is_tail HK.out.r.good HCT.out
    have hbk := breaks_good hgt.1
    have HTx := hide (fun w h => by have := HT1.out w h; rw [show takeT T sBar = T.tail from if_pos HCT.out] at this; exact this)
    unfold sBar at HTx
    have hgl := HGF.out
    have HBL := hide (show (breaksF T.tail).length + 1 ≤ T.length by omega)
    obtain ⟨TB2, hTB2⟩ : ∃ TB, breaksF T.tail = TB := ⟨_, rfl⟩
    have HTB2 := hide hTB2
    have HBx := hide (fun w h => by have := HB.out (fun k => av k ∨ (Value.slice a4 kids.length cap4).ownBlock = some k) w T.tail ns2 h; rw [hTB2] at this; exact this)
    rw [hTB2] at HBL hbk
    have HGB := hide hbk.1
    obtain ⟨PQ, hpq⟩ : ∃ PQ, cmd d TB2 ns2 = PQ := ⟨_, rfl⟩
    have HPQ := hide hpq
    have HPC := hide (fun w a b => by have := HP.out (fun k => av k ∨ (Value.slice a4 kids.length cap4).ownBlock = some k) base rb d TB2 ns2 w a b (by have := HBL.out; omega); rw [hpq] at this; exact this)
    unfold GPost vInt at HPC
    have HR0 := hide (show R = ((PQ.bind fun y ts ns => pipeL (cmd d) f (kids ++ [y]) ts ns).bind fun kids tt ns => if 1 < kids.length then notR nb ns.length tt (ns ++ [{ kind := 3, kids := kids }]) else notR nb (kids.headD 0) tt ns) by rw [← HRr.out, pipeL, if_pos HCT.out, HTB2.out, HPQ.out])
    clear hgt hbk hgl hTB2 hpq hc1
    go_wp2_with fail
    refine (HTx.out _ HK.out.r).mono ?_
    rintro e wa ⟨v, rfl, rfl, hra, hfa⟩
    have HKa := hide (HK.out.step hra hfa)
    clear hra hfa
    go_wp2_with fail
    refine (HBx.out _ HKa.out.r).mono ?_
    rintro e wb ⟨v, rfl, rfl, hrb, hfb⟩
    have HKb := hide (HKa.out.step hrb hfb)
    clear hrb hfb
    go_wp2_with fail
    refine (HPC.out _ (HKb.out.lt_ HAV.out) HKb.out.r).mono ?_
    cases PQ with
    | bad a e =>
     rintro e wc ⟨rfl, hfc⟩
     refine post_panicP rfl ?_
     rw [HR0.out]
     exact (⟨rfl, HKb.out.fr.trans hfc⟩ : _ ∧ _)
    | ok y T3 ns3 =>
     rintro e wc ⟨v, rfl, rfl, hrc, hfc⟩
     have HKc := hide (HKb.out.step hrc hfc)
     clear hrc hfc
     have HLF3 := hide (HD.out _ _ _ _ _ HGB.out HPQ.out)
     go_wp2_with (at_builtin; refine wpList_appAt 3 (.int .i64 0) 1 8 Try.underlying31 infoInt rfl (.slice a4 kids.length cap4) kids.length (kids.map (Value.int .i64)) 0 _ 1 [.int .i64 y] rfl rfl (Own.alloc HKc.out.own _) (by omega) (srcI _ _ y rfl) (by unfold maxLen; omega) (by omega) ?_; intro vA wA ho hc hn2 _; (have HKd := hide (HKc.out.app _ ho hc hn2)); clear ho hc hn2)
     go_roundg (gk - 1)
     case rel => exact ⟨f, _, T3, ns3, HR0.out.symm, by have := HLF3.out.len; have := HBL.out; have := HGF.out; omega, by have := HLF3.out.len; have := HBL.out; have := HGF.out; omega, by have := HLF3.out.len; have := HBL.out; have := HGF.out; omega, by simp, by have := HLF3.out.len; have := HBL.out; have := HGF.out; simp only [List.length_append, List.length_singleton]; omega, by have := HLF3.out.few; have := HBL.out; have := HGF.out; omega, HKd.out⟩
     case measure => have := HLF3.out.len; have := HBL.out; have := HGF.out; omega
   | false =>
    have HTx := hide (fun w h => by have := HT1.out w h; rw [show takeT T sBar = T from by unfold takeT; rw [hc1]; rfl] at this; exact this)
    unfold sBar at HTx
    have HRS := hide (show R = (if 1 < kids.length then notR nb ns2.length T (ns2 ++ [{ kind := 3, kids := kids }]) else notR nb (kids.headD 0) T ns2) by rw [← HRr.out, pipeL, if_neg (by rw [hc1]; decide)]; rfl)
    clear hc1
    go_wp2_with fail
    refine (HTx.out _ HK.out.r).mono ?_
    rintro e wa ⟨v, rfl, rfl, hra, hfa⟩
    have HKa := hide (HK.out.step hra hfa)
    clear hra hfa
    obtain ⟨x0, ks, rfl⟩ : ∃ x0 ks, kids = x0 :: ks := by
     cases kids with
     | nil => exact absurd rfl HNE.out
     | cons a b => exact ⟨a, b, rfl⟩
    obtain ⟨gk0, ok0, ck0, hv0, _, _, hg0, hcs0⟩ := HKa.out.own.some_ (by simp)
    injection hv0 with hv0 _ hv1
    subst hv0
    have k0 : wa.cell? ⟨gk0, ok0, none⟩ = some (.int .i64 x0) := hcs0 0 (by simp)
    have hib : (0 : Int) < (((x0 :: ks).length : Nat) : Int) := by simp only [List.length_cons]; omega
    have HIa := hide HKa.out.plain
    have HFa := hide HKa.out.fr
    by_cases h1 : 1 < (x0 :: ks).length
    ·have HRS2 := hide (show R = notR nb ns2.length T (ns2 ++ [{ kind := 3, kids := x0 :: ks }]) from HRS.out.trans (if_pos h1))
     have HLc := hide (by have := HL.out wa T ns2 { kind := 3, kids := x0 :: ks } (.slice none 0 0) (.slice none 0 0) (.slice none 0 0) (.slice none 0 0) (.slice (some ⟨gk0, ok0, none⟩) (x0 :: ks).length cap4) HIa.out (ndOwn HKa.out.own HKa.out.new HAV.out 3) (by have := HGF.out; omega); unfold ndCells sv at this; simp only [] at this; exact this)
     obtain ⟨KL, hKL⟩ : ∃ KL, (x0 :: ks).length = KL := ⟨_, rfl⟩
     rw [hKL] at h1 hib HLc
     have q1 : decide ((1 : Int) < (KL : Int)) = true := decide_eq_true (by omega)
     have HKL := hide hKL
     simp only [hKL]
     clear hKL hcs0 hkl hne hv1 hcap4 h1
     go_wp2_with fail
     refine HLc.out.mono ?_
     rintro e wl ⟨v, rfl, rfl, hrl, hfl⟩
     have HIl := hide hrl
     have HFl := hide (HFa.out.trans hfl)
     clear hrl hfl k0 hg0 hib q1
     unfold notR layR at HRS2
     cases nb with
     | true =>
      have HIal := hide (HIl.out.grown (only_alloc (only_refl wl none) (.cells #[.int .i64 ((ns2.length : Int))] 3)))
      have HLc2 := hide (by have := HL.out (wl.alloc (.cells #[.int .i64 ((ns2.length : Int))] 3)) T (ns2 ++ [{ kind := 3, kids := x0 :: ks }]) { kind := 2, kids := [(ns2.length : Int)] } (.slice none 0 0) (.slice none 0 0) (.slice none 0 0) (.slice none 0 0) (.slice (some ⟨wl.heap.size, 0, none⟩) 1 1) HIal.out (ndKids (l := [(ns2.length : Int)]) (by simp) (Blk.new wl 3 _) (fun k hk => Nat.lt_of_lt_of_le (HAV.out k hk) HFl.out.size) 2 (by simp)) (by have := HGF.out; rw [List.length_append, List.length_singleton]; omega); unfold ndCells sv at this; simp only [] at this; exact this)
      go_wp2_with fail
      refine HLc2.out.mono ?_
      rintro e wn ⟨v, rfl, rfl, hrn, hfn⟩
      have HIn := hide hrn
      have HFn := hide ((HFl.out.alloc _).trans hfn)
      clear hrn hfn
      go_wp2_with fail
      rw [HRS2.out]
      go_ret
      (refine ⟨_, ?_, rfl, HIn.out, HFn.out⟩; exact ret_int (by simp))
     | false =>
      go_wp2_with fail
      rw [HRS2.out]
      go_ret
      exact ⟨_, rfl, rfl, HIl.out, HFl.out⟩
    ·have HRS2 := hide (show R = notR nb x0 T ns2 from HRS.out.trans (if_neg h1))
     obtain ⟨KL, hKL⟩ : ∃ KL, (x0 :: ks).length = KL := ⟨_, rfl⟩
     rw [hKL] at h1 hib
     have q1 : decide ((1 : Int) < (KL : Int)) = false := decide_eq_false (by omega)
     simp only [hKL]
     clear hKL hcs0 hkl hne hv1 hcap4 h1
     unfold notR layR at HRS2
     cases nb with
     | true =>
      have HIal := hide (HIa.out.grown (only_alloc (only_refl wa none) (.cells #[.int .i64 (x0)] 3)))
      have HLc2 := hide (by have := HL.out (wa.alloc (.cells #[.int .i64 (x0)] 3)) T (ns2) { kind := 2, kids := [x0] } (.slice none 0 0) (.slice none 0 0) (.slice none 0 0) (.slice none 0 0) (.slice (some ⟨wa.heap.size, 0, none⟩) 1 1) HIal.out (ndKids (l := [x0]) (by simp) (Blk.new wa 3 _) (fun k hk => Nat.lt_of_lt_of_le (HAV.out k hk) HFa.out.size) 2 (by simp)) (by have := HGF.out; omega); unfold ndCells sv at this; simp only [] at this; exact this)
      go_wp2_with fail
      refine HLc2.out.mono ?_
      rintro e wn ⟨v, rfl, rfl, hrn, hfn⟩
      have HIn := hide hrn
      have HFn := hide ((HFa.out.alloc _).trans hfn)
      clear hrn hfn
      go_wp2_with fail
      rw [HRS2.out]
      go_ret
      exact ⟨_, rfl, rfl, HIn.out, HFn.out⟩
     | false =>
      go_wp2_with fail
      rw [HRS2.out]
      go_ret
      exact ⟨_, rfl, rfl, HIa.out, HFa.out⟩
end Go.Proofs.Ytgpfjcogaheopaa

end
