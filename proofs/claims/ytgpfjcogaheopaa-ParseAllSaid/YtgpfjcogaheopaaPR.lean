/- What stands behind a for. -/
import Derived.Test.YtgpfjcogaheopaaMQ
set_option linter.all false
namespace Go.Proofs.Ytgpfjcogaheopaa
open Go.RowKit Lx
set_option maxRecDepth 100000
structure ForAt (av : Nat → Prop) (base : Nat → Prop) (w W : World) (rb : Nat) (vn : Value) (ts : List Tok) (ns : List Nd) (d A B : Nat) (nm : List UInt8) (inn : Bool) (D : List (List UInt8)) (b : Value) : Prop where
 t : TIs av base W rb vn ts ns d
 box : Blk W B 33 #[.int .i64 13, .string ⟨nm.toArray⟩, .bool inn, .slice none 0 0, b, .slice none 0 0, .slice none 0 0, .slice none 0 0]
 res : Blk W A 33 #[.int .i64 0, .string ⟨#[]⟩, .bool false, .slice none 0 0, .slice none 0 0, .slice none 0 0, .slice none 0 0, .slice none 0 0]
 hA : w.heap.size ≤ A
 hB : w.heap.size ≤ B
 ne : A ≠ B
 words : StrS W b D
 nb : ∀ k, b.ownBlock = some k → w.heap.size ≤ k
 gr : w.grownBy W (some rb)
section
variable {av : Nat → Prop} {base : Nat → Prop} {w W W' wA : World} {rb d A B : Nat} {vn vt0 b vA : Value} {ts ts' ts0 : List Tok} {ns : List Nd} {nm : List UInt8} {inn : Bool} {D : List (List UInt8)}
theorem ForAt.step (h0 : RAt av base w rb vt0 vn ts0 ns d) (h : ForAt av base w W rb vn ts ns d A B nm inn D b) (hg : W.grownBy W' (some rb)) (ht : TIs av base W' rb vn ts' ns d) : ForAt av base w W' rb vn ts' ns d A B nm inn D b := by
 have hrb := Blk.lt h0.blk
 obtain ⟨vt, hb⟩ := h.t.blk
 have hc : Chg (fun k => k = rb) W W' := Chg.of_grown hg (fun k hk => by injection hk with hk; exact hk.symm)
 have hTr := hb.hasT
 refine ⟨ht, Blk.grown h.box hg (fun e => by injection e with e; have := h.hB; omega), Blk.grown h.res hg (fun e => by injection e with e; have := h.hA; omega), h.hA, h.hB, h.ne, Own.chg h.words hc (fun g hgg e => ?_), h.nb, rb_trans h.gr hg⟩
 subst e; exact absurd ((Own.hasT h.words hgg).uniq hTr) (by decide)
theorem ForAt.grown (h0 : RAt av base w rb vt0 vn ts0 ns d) (h : ForAt av base w W rb vn ts ns d A B nm inn D b) (hg : W.grownBy W' none) : ForAt av base w W' rb vn ts ns d A B nm inn D b := h.step h0 (rb_none hg) (h.t.grown hg)
theorem ForAt.boxA (h : ForAt av base w W rb vn ts ns d A B nm inn D b) (o : Obj) (hc : Chg (fun k => b.ownBlock = some k) (W.alloc o) wA) : Blk wA B 33 #[.int .i64 13, .string ⟨nm.toArray⟩, .bool inn, .slice none 0 0, b, .slice none 0 0, .slice none 0 0, .slice none 0 0] ∧ Blk wA A 33 #[.int .i64 0, .string ⟨#[]⟩, .bool false, .slice none 0 0, .slice none 0 0, .slice none 0 0, .slice none 0 0, .slice none 0 0] :=
 ⟨Blk.chg (h.box.alloc o) hc (fun e => absurd ((Own.hasT h.words e).uniq h.box.hasT) (by decide)), Blk.chg (h.res.alloc o) hc (fun e => absurd ((Own.hasT h.words e).uniq h.res.hasT) (by decide))⟩
theorem ForAt.app (h0 : RAt av base w rb vt0 vn ts0 ns d) (h : ForAt av base w W rb vn ts ns d A B nm inn D b) (o : Obj) {x : List UInt8} (ho : Own wA 9 1 vA (D.length + 1) (D.map sv ++ [sv x]) 0) (hc : Chg (fun k => b.ownBlock = some k) (W.alloc o) wA) (hn : ∀ k, vA.ownBlock = some k → b.ownBlock = some k ∨ (W.alloc o).heap.size ≤ k) :
  ForAt av base w (wA.setCell ⟨B, 4, none⟩ vA) rb vn ts ns d A B nm inn (D ++ [x]) vA := by
 obtain ⟨hbx, hrs⟩ := h.boxA o hc
 have h1 : TIs av base (W.alloc o) rb vn ts ns d := h.t.grown (only_alloc (only_refl W none) o)
 have hT9 : ∀ k, b.ownBlock = some k → HasT (W.alloc o) k 9 := fun k e => Own.hasT (Own.alloc h.words o) e
 have hTB : HasT (W.alloc o) B 33 := (h.box.alloc o).hasT
 have hcc : Chg (fun k => b.ownBlock = some k ∨ k = B) (W.alloc o) (wA.setCell ⟨B, 4, none⟩ vA) := Chg.setCell (Chg.mono hc fun k _ e => .inl e) (p := ⟨B, 4, none⟩) (.inl (.inr rfl)) vA
 obtain ⟨ht, hg⟩ := TIs.other h0 h1 (only_alloc h.gr o) hcc (fun k e => by rcases e with e | rfl; exact h.nb k e; exact h.hB) (fun k e hk => by
  rcases e with e | rfl
  ·exact absurd ((hT9 k e).uniq hk) (by decide)
  ·exact absurd (hTB.uniq hk) (by decide))
 refine ⟨ht, Blk.set_ hbx 4 _, Blk.far hrs (p := ⟨B, 4, none⟩) h.ne _, h.hA, h.hB, h.ne, ?_, fun k hk => ?_, hg⟩
 ·unfold StrS
  rw [List.length_append, List.length_singleton, List.map_append]
  exact ho.far (p := ⟨B, 4, none⟩) (fun e => absurd ((Own.hasT ho e).uniq hbx.hasT) (by decide)) _
 ·rcases hn k hk with e | e
  ·exact h.nb k e
  ·rw [World.size_alloc] at e
   have := h.gr.size
   omega
theorem ForAt.other (h0 : RAt av base w rb vt0 vn ts0 ns d) (h : ForAt av base w W rb vn ts ns d A B nm inn D b) (k j : Nat) (hk : k = A ∨ k = B) (u : Value) : TIs av base (W.setCell ⟨k, j, none⟩ u) rb vn ts ns d ∧ w.grownBy (W.setCell ⟨k, j, none⟩ u) (some rb) ∧ StrS (W.setCell ⟨k, j, none⟩ u) b D := by
 have hT : HasT W k 33 := by rcases hk with rfl | rfl; exact h.res.hasT; exact h.box.hasT
 have hc : Chg (fun i => i = k) W (W.setCell ⟨k, j, none⟩ u) := Chg.setCell (S := fun i => i = k) (Chg.refl _ W) (p := ⟨k, j, none⟩) (.inl rfl) u
 obtain ⟨ht, hg⟩ := TIs.other h0 h.t h.gr hc (fun i e => by subst e; rcases hk with rfl | rfl; exact h.hA; exact h.hB) (fun i e hi => by subst e; exact absurd (hT.uniq hi) (by decide))
 exact ⟨ht, hg, Own.far h.words (p := ⟨k, j, none⟩) (fun e => absurd ((Own.hasT h.words e).uniq hT) (by decide)) _⟩
theorem ForAt.setIn (h0 : RAt av base w rb vt0 vn ts0 ns d) (h : ForAt av base w W rb vn ts ns d A B nm inn D b) (i : Bool) : ForAt av base w (W.setCell ⟨B, 2, none⟩ (.bool i)) rb vn ts ns d A B nm i D b := by
 obtain ⟨ht, hg, hw⟩ := h.other h0 B 2 (.inr rfl) (.bool i)
 exact ⟨ht, Blk.set_ h.box 2 _, Blk.far h.res (p := ⟨B, 2, none⟩) h.ne _, h.hA, h.hB, h.ne, hw, h.nb, hg⟩
/-- A node's store into the result. -/
def put8 (W : World) (A : Nat) (c0 c1 c2 c3 c4 c5 c6 c7 : Value) : World := (((((((W.setCell ⟨A, 0, none⟩ c0).setCell ⟨A, 1, none⟩ c1).setCell ⟨A, 2, none⟩ c2).setCell ⟨A, 3, none⟩ c3).setCell ⟨A, 4, none⟩ c4).setCell ⟨A, 5, none⟩ c5).setCell ⟨A, 6, none⟩ c6).setCell ⟨A, 7, none⟩ c7
theorem put8_chg (W : World) (A : Nat) (c0 c1 c2 c3 c4 c5 c6 c7 : Value) : Chg (fun k => k = A) W (put8 W A c0 c1 c2 c3 c4 c5 c6 c7) := by
 unfold put8
 have h := Chg.refl (fun k => k = A) W
 have s : ∀ {X : World} (j : Nat) (u : Value), Chg (fun k => k = A) W X → Chg (fun k => k = A) W (X.setCell ⟨A, j, none⟩ u) := fun j u h => h.setCell (p := ⟨A, j, none⟩) (.inl rfl) u
 exact s _ _ (s _ _ (s _ _ (s _ _ (s _ _ (s _ _ (s _ _ (s _ _ h)))))))
theorem ForAt.fin (h0 : RAt av base w rb vt0 vn ts0 ns d) (hav : ∀ k, av k → k < w.heap.size) (h : ForAt av base w W rb vn ts ns d A B nm inn D b) :
  NdAt av (put8 W A (.int .i64 13) (.string ⟨nm.toArray⟩) (.bool inn) (.slice none 0 0) b (.slice none 0 0) (.slice none 0 0) (.slice none 0 0)) (.slice none 0 0) b (.slice none 0 0) (.slice none 0 0) (.slice none 0 0) { kind := 13, name := nm, inn := inn, words := D } ∧ TIs av base (put8 W A (.int .i64 13) (.string ⟨nm.toArray⟩) (.bool inn) (.slice none 0 0) b (.slice none 0 0) (.slice none 0 0) (.slice none 0 0)) rb vn ts ns d ∧ Blk (put8 W A (.int .i64 13) (.string ⟨nm.toArray⟩) (.bool inn) (.slice none 0 0) b (.slice none 0 0) (.slice none 0 0) (.slice none 0 0)) A 33 #[.int .i64 13, .string ⟨nm.toArray⟩, .bool inn, .slice none 0 0, b, .slice none 0 0, .slice none 0 0, .slice none 0 0] ∧ w.grownBy (put8 W A (.int .i64 13) (.string ⟨nm.toArray⟩) (.bool inn) (.slice none 0 0) b (.slice none 0 0) (.slice none 0 0) (.slice none 0 0)) (some rb) := by
 have hc := put8_chg W A (.int .i64 13) (.string ⟨nm.toArray⟩) (.bool inn) (.slice none 0 0) b (.slice none 0 0) (.slice none 0 0) (.slice none 0 0)
 obtain ⟨ht, hg⟩ := TIs.other h0 h.t h.gr hc (fun i e => by subst e; exact h.hA) (fun i e hi => by subst e; exact absurd (h.res.hasT.uniq hi) (by decide))
 refine ⟨⟨Own.nil _ _ _ _, Own.chg h.words hc (fun g hgg e => by subst e; exact absurd ((Own.hasT h.words hgg).uniq h.res.hasT) (by decide)), Own.nil _ _ _ _, ⟨[], Own.nil _ _ _ _, fun b hb => (by cases hb), fun i hi => absurd hi (by simp)⟩, Own.nil _ _ _ _, fun k hk => (by cases hk), fun k hk e => by have := h.nb k hk; have := hav k e; omega, fun k hk => (by cases hk), fun k hk => (by cases hk)⟩, ht, Blk.set_ (Blk.set_ (Blk.set_ (Blk.set_ (Blk.set_ (Blk.set_ (Blk.set_ (Blk.set_ h.res 0 _) 1 _) 2 _) 3 _) 4 _) 5 _) 6 _) 7 _, hg⟩
end
set_option maxHeartbeats 16000000 in
theorem fors_any (av : Nat → Prop) (base : Nat → Prop) (rb d : Nat) (vn : Value) (ts : List Tok) (ns : List Nd) (w : World) (hav : ∀ k, av k → k < w.heap.size) (h : TIs av base w rb vn ts ns d) :
  Calls Try.prog 94 #[.pointer (some ⟨rb, 0, none⟩)] w (TPost (vNode av) av base w rb vn d (forsF ts ns)) := by
 obtain ⟨vt0, h0⟩ := h
 have HRA := hide h0
 have HAV := hide hav
 have HN := hide (fun W t r (hW : TIs av base W rb vn (t :: r) ns d) (hk : t.k ≠ 4) => (show Calls Try.prog 39 #[.pointer (some ⟨rb, 0, none⟩)] W (TPost vTok av base W rb vn d (.ok t r ns)) by obtain ⟨vt, hW⟩ := hW; exact next_any av base rb d vt vn t r ns W hW hk))
 have HWR := hide (fun W t r (hW : TIs av base W rb vn (t :: r) ns d) => (show Calls Try.prog 24 #[.pointer (some ⟨rb, 0, none⟩)] W fun e w' => e = .panicked [pfault t.a (if t.k = 4 then 23 else 17)] ∧ W.grownBy w' none by obtain ⟨vt, hW⟩ := hW; exact wrong_any av base rb d vt vn t r ns W hW))
 have HT := hide (fun W ts s (hW : TIs av base W rb vn ts ns d) => take_any av base rb d vn ts ns s W hW)
 have HNE := hide (fun W ts s (hW : TIs av base W rb vn ts ns d) => need_any av base rb d vn ts ns s W hW)
 have HBR := hide (fun W ts (hW : TIs av base W rb vn ts ns d) => breaks_any av base rb d vn ts ns W hW)
 have HNM := hide (fun t W h => named_any t W h)
 unfold TPost vTok tokV sv at HN
 unfold TPost vBool sv at HT
 unfold TPost vUnit sv at HNE
 unfold TPost vUnit at HBR
 unfold tokV sv at HNM
 have hfd := run_text
 obtain ⟨t, r, g, off, cap, rfl, rfl, hc, hg, c0, c1, c2⟩ := h0.head
 obtain ⟨d0, d1, d2⟩ := h0.cells
 have lb := Blk.lt h0.blk
 have hib : (0 : Int) < (((t :: r).length : Nat) : Int) := by simp only [List.length_cons]; omega
 have htx := (h0.txt t (List.mem_cons_self ..)).1
 have HGD := hide h0.good
 have HLN := hide (show (t :: r).length ≤ 100000 by have := h0.few; omega)
 have HT0 := hide (show TIs av base w rb vn (t :: r) ns d from ⟨_, h0⟩)
 have HNM0 := hide (fun W => HNM.out t W (by omega))
 obtain ⟨bn, hbn⟩ : ∃ bn, namedB t = bn := ⟨_, rfl⟩
 rw [hbn] at HNM0
 have HBN := hide hbn
 have HNK := hide (show bn = true → t.k = 1 from fun e => by
  have h1 := HBN.out
  rw [e] at h1
  unfold namedB at h1
  rw [Bool.and_eq_true] at h1
  exact eq_of_beq h1.1)
 obtain ⟨R, hR⟩ : ∃ R, forsF (t :: r) ns = R := ⟨_, rfl⟩
 rw [hR]
 have HR := hide (show R = if namedB t = true then (if isB (breaksF r) wIn = true then (if (isB (wordsR (breaksF r).tail) sSemi || isB (wordsR (breaksF r).tail) sLf) = true then (needR wDo (breaksF (wordsR (breaksF r).tail).tail) ns).bind fun _ ts ns => .ok { kind := 13, name := t.t, inn := true, words := wordsT (breaksF r).tail } ts ns else wrongR (wordsR (breaksF r).tail)) else (needR wDo (breaksF (takeT (breaksF r) sSemi)) ns).bind fun _ ts ns => .ok { kind := 13, name := t.t } ts ns) else wrongR (t :: r) from hR.symm)
 obtain ⟨L, hL⟩ : ∃ L, (t :: r).length = L := ⟨_, rfl⟩
 rw [hL] at d0 hib hc
 clear h0 hR hbn hav htx hL
 obtain ⟨tk, nm, ta⟩ := t
 simp only [] at c0 c1 c2 HNM0
 go_enter Try.func94, Try.ntmps94
 go_wp2_with fail
 refine (HNM0.out _).mono ?_
 rintro e w1 ⟨rfl, g1⟩
 have HG1 := hide (none_trans (only_alloc (only_refl w none) (.cells #[.int .i64 0, .string ⟨#[]⟩, .bool false, .slice none 0 0, .slice none 0 0, .slice none 0 0, .slice none 0 0, .slice none 0 0] 33)) g1)
 have HRS := hide (Blk.grown (Blk.new w 33 #[.int .i64 0, .string ⟨#[]⟩, .bool false, .slice none 0 0, .slice none 0 0, .slice none 0 0, .slice none 0 0, .slice none 0 0]) g1 (by simp))
 have HT1 := hide (HT0.out.grown HG1.out)
 obtain ⟨A, hA⟩ : ∃ A, w.heap.size = A := ⟨_, rfl⟩
 rw [hA] at HRS
 have HA := hide (show w.heap.size ≤ A by omega)
 have HA1 := hide (Blk.lt HRS.out)
 clear g1 d0 d1 d2 lb c0 c1 c2 hg hc hib
 cases bn with
 | false =>
  have HRX := hide (show R = wrongR (⟨tk, nm, ta⟩ :: r) by rw [HR.out, HBN.out]; rfl)
  go_wp2_with fail
  refine (HWR.out _ _ _ HT1.out).mono ?_
  rintro e w2 ⟨rfl, g2⟩
  refine post_panicP rfl ?_
  rw [HRX.out]
  exact (⟨rfl, rb_none (none_trans HG1.out g2)⟩ : _ ∧ _)
 | true =>
  have hk4 : tk ≠ 4 := by have : tk = 1 := (by first | exact HNK.out rfl | exact HNK.out trivial); omega
  have HGr := hide (HGD.out.tail hk4)
  have HNx := hide (HN.out _ _ _ HT1.out hk4)
  have HR1 := hide (show R = (if isB (breaksF r) wIn = true then (if (isB (wordsR (breaksF r).tail) sSemi || isB (wordsR (breaksF r).tail) sLf) = true then (needR wDo (breaksF (wordsR (breaksF r).tail).tail) ns).bind fun _ ts ns => .ok { kind := 13, name := nm, inn := true, words := wordsT (breaksF r).tail } ts ns else wrongR (wordsR (breaksF r).tail)) else (needR wDo (breaksF (takeT (breaksF r) sSemi)) ns).bind fun _ ts ns => .ok { kind := 13, name := nm } ts ns) by rw [HR.out, HBN.out]; rfl)
  have HLr := hide (show r.length + 1 ≤ 100000 by have := HLN.out; simpa using this)
  clear hk4 HNK HNM0
  go_wp2_with fail
  refine HNx.out.mono ?_
  rintro e w2 ⟨v, rfl, rfl, ht2, g2⟩
  obtain ⟨B, hB⟩ : ∃ B, w2.heap.size = B := ⟨_, rfl⟩
  have hrb : some A ≠ some rb := fun e => by
   injection e with e
   subst e
   obtain ⟨vv, hv⟩ := HT1.out.blk
   exact absurd (hv.hasT.uniq HRS.out.hasT) (by decide)
  have K2 : Hid (ForAt av base w (w2.alloc (.cells #[.int .i64 13, .string ⟨nm.toArray⟩, .bool false, .slice none 0 0, .slice none 0 0, .slice none 0 0, .slice none 0 0, .slice none 0 0] 33)) rb vn r ns d A B nm false [] (.slice none 0 0)) :=
   hide ⟨ht2.grown (only_alloc (only_refl w2 none) _), by rw [← hB]; exact Blk.new w2 33 _, (Blk.grown HRS.out g2 hrb).alloc _, HA.out, by rw [← hB]; have h1 := HG1.out.size; have h2 := g2.size; omega, by rw [← hB]; have h1 := HA1.out; have h2 := g2.size; omega, Own.nil _ _ _ _, fun k hk => (by cases hk), only_alloc (rb_trans (rb_none HG1.out) g2) _⟩
  clear ht2 g2 hrb HNx
  go_upto_region 4 with (fail)
  obtain ⟨W2, hW2⟩ : ∃ W2, w2.alloc (.cells #[.int .i64 13, .string ⟨nm.toArray⟩, .bool false, .slice none 0 0, .slice none 0 0, .slice none 0 0, .slice none 0 0, .slice none 0 0] 33) = W2 := ⟨_, rfl⟩
  rw [hW2] at K2 ⊢
  clear hW2 hB
  have HQ := hide (HBR.out _ _ K2.out.t)
  have hbk := breaks_good HGr.out
  obtain ⟨r2, hr2⟩ : ∃ r2, breaksF r = r2 := ⟨_, rfl⟩
  rw [hr2] at HQ hbk HR1
  have HG2 := hide hbk.1
  have HL2 := hide (show r2.length + 1 ≤ 100000 by have := HLr.out; omega)
  clear hbk hr2
  go_wp2_with fail
  refine HQ.out.mono ?_
  rintro e w3 ⟨v, rfl, rfl, ht3, g3⟩
  have K3 := hide (ForAt.step HRA.out K2.out g3 ht3)
  clear ht3 g3
  have HQ4 := hide (HT.out _ _ wIn K3.out.t)
  obtain ⟨bi, hbi⟩ : ∃ bi, isB r2 wIn = bi := ⟨_, rfl⟩
  rw [hbi] at HQ4 HR1
  have HBI := hide hbi
  unfold wIn at HQ4
  clear hbi
  go_wp2_with fail
  refine HQ4.out.mono ?_
  rintro e w4 ⟨v, rfl, rfl, ht4, g4⟩
  have K4 := hide (ForAt.step HRA.out K3.out g4 ht4)
  obtain ⟨x0, x1, x2, x3, x4, x5, x6, x7, lB⟩ := box8 K4.out.box
  have zB := Blk.frozen K4.out.box 2
  have K5 := hide (ForAt.setIn HRA.out K4.out bi)
  clear ht4 g4
  go_upto_region 6 with (fail)
  obtain ⟨W5, hW5⟩ : ∃ W5, w4.setCell ⟨B, 2, none⟩ (.bool bi) = W5 := ⟨_, rfl⟩
  rw [hW5] at K5 ⊢
  clear hW5 x0 x1 x2 x3 x4 x5 x6 x7 lB zB
  obtain ⟨x0, x1, x2, x3, x4, x5, x6, x7, lB⟩ := box8 K5.out.box
  clear x0 x1 x3 x4 x5 x6 x7
  cases bi with
  | false =>
   have HR6 := hide (show R = (needR wDo (breaksF (takeT r2 sSemi)) ns).bind fun _ ts ns => .ok { kind := 13, name := nm } ts ns from HR1.out)
   rw [show takeT r2 [105, 110] = r2 from if_neg (by have := HBI.out; unfold wIn at this; rw [this]; decide)] at K5
   have HQ6 := hide (HT.out _ _ sSemi K5.out.t)
   unfold sSemi at HQ6
   go_wp2_with fail
   refine HQ6.out.mono ?_
   rintro e w6 ⟨v, rfl, rfl, ht6, g6⟩
   have K6 := hide (ForAt.step HRA.out K5.out g6 ht6)
   clear ht6 g6 x2 lB
   have HQb := hide (HBR.out _ (takeT r2 [59]) K6.out.t)
   have hbk := breaks_good K6.out.t.good
   obtain ⟨TB, hTB⟩ : ∃ TB, breaksF ((takeT r2 [59])) = TB := ⟨_, rfl⟩
   rw [hTB] at HQb hbk
   have HRb := hide (show R = (needR wDo TB ns).bind fun _ ts ns => .ok { kind := 13, name := nm, inn := false, words := [] } ts ns by rw [show R = (needR wDo (breaksF (takeT r2 [59])) ns).bind fun _ ts ns => .ok { kind := 13, name := nm } ts ns from HR6.out, hTB])
   have HGb := hide hbk.1
   clear hTB hbk
   go_wp2_with fail
   refine HQb.out.mono ?_
   rintro e wb ⟨v, rfl, rfl, htb, gb⟩
   have KB := hide (ForAt.step HRA.out K6.out gb htb)
   clear htb gb
   have HQn := hide (HNE.out _ TB wDo KB.out.t)
   unfold needR at HQn
   obtain ⟨bd, hbd⟩ : ∃ bd, isB TB wDo = bd := ⟨_, rfl⟩
   rw [hbd] at HQn
   have HBD := hide hbd
   unfold wDo at HQn
   clear hbd
   go_wp2_with fail
   refine HQn.out.mono ?_
   cases bd with
   | false =>
    obtain ⟨tz, rz, hz⟩ := HGb.out.ne
    have HRZ := hide (show R = wrongR TB by rw [HRb.out, need_no HBD.out]; rw [hz]; rfl)
    rw [hz] at HRZ ⊢
    rintro e wc ⟨rfl, hfc⟩
    refine post_panicP rfl ?_
    rw [HRZ.out]
    exact (⟨rfl, rb_trans KB.out.gr hfc⟩ : _ ∧ _)
   | true =>
    have HRZ := hide (show R = .ok { kind := 13, name := nm, inn := false, words := [] } TB.tail ns by rw [HRb.out, need_yes HBD.out]; rfl)
    rintro e wd ⟨v, rfl, rfl, htd, gd⟩
    have KD := hide (ForAt.step HRA.out KB.out gd htd)
    clear htd gd
    obtain ⟨x0, x1, x2, x3, x4, x5, x6, x7, lB⟩ := box8 KD.out.box
    obtain ⟨y0, y1, y2, y3, y4, y5, y6, y7, lA⟩ := box8 KD.out.res
    have zA := Blk.frozen KD.out.res 0
    have zA1 := Blk.frozen KD.out.res 1
    have zA2 := Blk.frozen KD.out.res 2
    have zA3 := Blk.frozen KD.out.res 3
    have zA4 := Blk.frozen KD.out.res 4
    have zA5 := Blk.frozen KD.out.res 5
    have zA6 := Blk.frozen KD.out.res 6
    have zA7 := Blk.frozen KD.out.res 7
    have HZW := hide (ForAt.fin HRA.out HAV.out KD.out)
    obtain ⟨hz1, hz2, hz3, hz4⟩ := HZW.out
    unfold put8 at hz1 hz2 hz3 hz4
    clear HZW
    go_wp2_with fail
    rw [HRZ.out]
    generalize ((((((((wd.setCell ⟨A, 0, none⟩ (.int .i64 13)).setCell ⟨A, 1, none⟩ (.string ⟨nm.toArray⟩)).setCell ⟨A, 2, none⟩ (.bool false)).setCell ⟨A, 3, none⟩ (.slice none 0 0)).setCell ⟨A, 4, none⟩ (.slice none 0 0)).setCell ⟨A, 5, none⟩ (.slice none 0 0)).setCell ⟨A, 6, none⟩ (.slice none 0 0)).setCell ⟨A, 7, none⟩ (.slice none 0 0)) = W8 at hz1 hz2 hz3 hz4 ⊢
    obtain ⟨p0, p1, p2, p3, p4, p5, p6, p7, lP⟩ := box8 hz3
    refine bodyPost_ret (v := .agg #[.int .i64 13, .string ⟨nm.toArray⟩, .bool false, .slice none 0 0, .slice none 0 0, .slice none 0 0, .slice none 0 0, .slice none 0 0]) (by simp [results, Try.results94, go_sem, p0, p1, p2, p3, p4, p5, p6, p7]) rfl ?_
    exact ⟨_, rfl, ⟨_, _, _, _, _, rfl, hz1⟩, hz2, hz4⟩
  | true =>
   obtain ⟨hgt, hlt⟩ := is_tail HG2.out HBI.out
   rw [show takeT r2 [105, 110] = r2.tail from if_pos (by have := HBI.out; unfold wIn at this; exact this)] at K5
   have HR6 := hide (show R = (if (isB (wordsR r2.tail) sSemi || isB (wordsR r2.tail) sLf) = true then (needR wDo (breaksF (wordsR r2.tail).tail) ns).bind fun _ ts ns => .ok { kind := 13, name := nm, inn := true, words := wordsT r2.tail } ts ns else wrongR (wordsR r2.tail)) from HR1.out)
   obtain ⟨r3, hr3⟩ : ∃ r3, r2.tail = r3 := ⟨_, rfl⟩
   rw [hr3] at hgt hlt K5 HR6
   have HGT := hide hgt
   have HL3 := hide (show r3.length ≤ 100000 by have := HL2.out; omega)
   clear hgt hlt hr3
   go_upto_block 0 with (fail)
   clear x2 lB
   obtain ⟨WT, hWT⟩ : ∃ WT, wordsT r3 = WT := ⟨_, rfl⟩
   obtain ⟨WR, hWR⟩ : ∃ WR, wordsR r3 = WR := ⟨_, rfl⟩
   have HWT := hide hWT
   have HWR2 := hide hWR
   rw [hWT, hWR] at HR6
   clear hWT hWR
   go_wp2_with fail
   go_loopg [] r3.length (fun g wr => ∃ (D : List (List UInt8)) (T : List Tok) (b : Value), D ++ wordsT T = WT ∧ wordsR T = WR ∧ T.length ≤ g ∧ D.length + T.length ≤ r3.length ∧ ForAt av base w wr rb vn T ns d A B nm true D b)
   case atStart => exact ⟨[], r3, _, HWT.out, HWR2.out, Nat.le_refl _, by simp, K5.out⟩
   case round =>
    obtain ⟨D, T, b, hD, hT, hg, hl, hK⟩ := hrel
    have HD := hide hD
    have HTT := hide hT
    have HLG := hide (And.intro hg hl)
    have K7 := hide hK
    obtain ⟨t7, r7, rfl⟩ := hK.t.good.ne
    obtain ⟨b1, b3, rfl, _, _⟩ := Own.form hK.words
    obtain ⟨vt7, hra7⟩ := hK.t
    obtain ⟨t7', r7', g7, off7, cap7, he7, rfl, hc7, hg7, c07, c17, c27⟩ := hra7.head
    injection he7 with he1 he2
    subst he1 he2
    obtain ⟨d07, d17, d27⟩ := hra7.cells
    have lb7 := Blk.lt hra7.blk
    have hib7 : (0 : Int) < (((t7 :: r7).length : Nat) : Int) := by simp only [List.length_cons]; omega
    obtain ⟨L7, hL7⟩ : ∃ L7, (t7 :: r7).length = L7 := ⟨_, rfl⟩
    rw [hL7] at d07 hib7 hc7
    clear hD hT hg hl hK hra7 hL7
    obtain ⟨tk7, tt7, ta7⟩ := t7
    simp only [] at c07 c17 c27
    by_cases hk : tk7 = 1
    ·subst hk
     have HNx7 := hide (fun W hW => HN.out W ⟨1, tt7, ta7⟩ r7 hW (by simp))
     have HDn := hide (show (D ++ [tt7]) ++ wordsT r7 = WT by rw [← HD.out]; simp [wordsT])
     have HTn := hide (show wordsR r7 = WR by rw [← HTT.out]; simp [wordsR])
     go_upto_region 8 with (fail)
     have K8 := hide (K7.out.grown HRA.out (only_drew (only_refl wr none)))
     have x4 : wr.cell? ⟨B, 4, none⟩ = some (.slice b1 D.length b3) := Blk.cell K7.out.box 4
     have lB := Blk.lt K7.out.box
     refine wp_region_permP [0, 1, 2] [3, 4, 5, 6, 7, 8] (by kernel_rfl) (by kernel_rfl) (fun W' => W'.cell? ⟨B, 4, none⟩ = some (.slice b1 D.length b3)) x4 (by intro c a w d v h; cases d <;> exact h) ?_
     simp only [pick, List.getElem?_cons_zero, List.getElem?_cons_succ]
     refine wpTake_cons ?_ (by rfl) ?_ ?_
     rotate_left
     ·(intro W9 hSW; go_simp; try with_reducible rfl)
     simp only [Act.put, List.setIfInBounds_toArray, List.set_cons_zero, List.set_cons_succ]
     refine wpTake_cons ?_ (by rfl) ?_ ?_
     rotate_left
     ·(intro W9 hSW; go_simp; try with_reducible rfl)
     simp only [Act.put, List.setIfInBounds_toArray, List.set_cons_zero, List.set_cons_succ]
     refine wpTake_cons ?_ (by rfl) ?_ ?_
     rotate_left
     ·(intro W9 hSW; go_simp; try with_reducible rfl)
     simp only [Act.put, List.setIfInBounds_toArray, List.set_cons_zero, List.set_cons_succ]
     refine wpTake_nil ?_
     refine wpForce_cons fun K1 hK1 => ?_
     refine step_callP (by rfl) (by simp [go_sem]) (HNx7.out _ K8.out.t) (fun w' h => by obtain ⟨_, h, _⟩ := h; cases h) ?_ (fun c w' h => by obtain ⟨_, h, _⟩ := h; cases h)
     rintro v w9 ⟨v', hv, rfl, ht9, g9⟩
     injection hv with hv
     subst hv
     have k9 := ForAt.step HRA.out K8.out g9 ht9
     have x49 : w9.cell? ⟨B, 4, none⟩ = some (.slice b1 D.length b3) := Blk.cell k9.box 4
     refine hK1.out _ _ x49 ?_
     simp only [Act.put, List.setIfInBounds_toArray, List.set_cons_zero, List.set_cons_succ]
     refine wpForce_cons fun K2 hK2 => ?_
     refine step_val (.string ⟨tt7.toArray⟩) w9 (by rfl) (by go_simp) ?_
     refine hK2.out _ _ x49 ?_
     simp only [Act.put, List.setIfInBounds_toArray, List.set_cons_zero, List.set_cons_succ]
     refine wpForce_cons fun K3 hK3 => ?_
     refine step_val (.slice (some ⟨w9.heap.size, 0, none⟩) 1 1) (w9.alloc (.cells #[.string ⟨tt7.toArray⟩] 9)) (by rfl) (by go_simp) ?_
     have hbx := (k9.box.alloc (.cells #[.string ⟨tt7.toArray⟩] 9))
     refine hK3.out _ _ (Blk.cell hbx 4) ?_
     simp only [Act.put, List.setIfInBounds_toArray, List.set_cons_zero, List.set_cons_succ]
     refine wpForce_cons fun K4' hK4 => ?_
     refine step_appAt (by rfl) (.tmp 34) (.tmp 38) 28 28 (by rfl) 9 (.string ⟨#[]⟩) 1 16 Try.underlying28 infoStr rfl (.slice b1 D.length b3) D.length (D.map sv) 0 _ 1 [sv tt7] (by rfl) (by rfl) (Own.alloc k9.words _) (by omega) (srcS _ _ tt7 rfl) (by have := HLG.out; have := HL3.out; unfold maxLen; omega) (by have := HLG.out; have := HL3.out; omega) ?_
     intro vA wA ho hc hn _
     obtain ⟨fa, ca, rfl, _, _⟩ := Own.form ho
     have hbA := (k9.boxA _ hc).1
     have x4A : wA.cell? ⟨B, 4, none⟩ = some (.slice b1 D.length b3) := Blk.cell hbA 4
     have zA := Blk.frozen hbA 4
     have lA := Blk.lt hbA
     have K10 := hide (ForAt.app HRA.out k9 _ ho hc hn)
     refine hK4.out _ _ x4A ?_
     simp only [Act.put, List.setIfInBounds_toArray, List.set_cons_zero, List.set_cons_succ]
     refine wpForce_cons fun K5' hK5 => ?_
     refine step_val (.pointer (some ⟨B, 4, none⟩)) wA (by rfl) (by go_simp) ?_
     refine hK5.out _ _ x4A ?_
     simp only [Act.put, List.setIfInBounds_toArray, List.set_cons_zero, List.set_cons_succ]
     refine wpForce_one ?_
     clear hK1 hK2 hK3 hK4 hK5 K1 K2 K3 K4' K5' k9 ho hc hn hbA hbx x4 x49 lB
     go_wp2_with fail
     go_roundg (gk - 1)
     case rel => exact ⟨_, r7, _, HDn.out, HTn.out, by have := HLG.out; simp only [List.length_cons] at this; omega, by have := HLG.out; simp only [List.length_cons] at this; rw [List.length_append, List.length_singleton]; omega, K10.out⟩
     case measure => have := HLG.out; simp only [List.length_cons] at this; omega
    ·have hkb : ((tk7 : Int) == 1) = false := by rw [beq_eq_false_iff_ne]; omega
     have hD2 : D = WT := by rw [← HD.out]; simp [wordsT, hk]
     have hT2 : ⟨tk7, tt7, ta7⟩ :: r7 = WR := by rw [← HTT.out]; simp [wordsR, hk]
     subst hD2
     rw [← hT2] at HR6
     have HGW := hide K7.out.t.good
     have HQs := hide (HT.out _ _ sSemi K7.out.t)
     obtain ⟨s1, hs1⟩ : ∃ s1, isB (⟨tk7, tt7, ta7⟩ :: r7) sSemi = s1 := ⟨_, rfl⟩
     rw [hs1] at HQs HR6
     have HS1 := hide hs1
     unfold sSemi at HQs
     clear hT2 hs1
     go_wp2_with fail
     refine HQs.out.mono ?_
     rintro e wa ⟨v, rfl, rfl, hta, ga⟩
     have Ka := hide (ForAt.step HRA.out K7.out ga hta)
     clear hta ga d07 d17 d27 c07 c17 c27 lb7 hg7 hib7 hk hkb
     cases s1 with
     | true =>
      rw [show takeT (⟨tk7, tt7, ta7⟩ :: r7) [59] = r7 from if_pos (by have := HS1.out; unfold sSemi at this; exact this)] at Ka
      have HR7 := hide (show R = (needR wDo (breaksF r7) ns).bind fun _ ts ns => .ok { kind := 13, name := nm, inn := true, words := D } ts ns from HR6.out)
      go_wp2_with fail
      have HQb := hide (HBR.out _ r7 Ka.out.t)
      have hbk := breaks_good Ka.out.t.good
      obtain ⟨TB, hTB⟩ : ∃ TB, breaksF (r7) = TB := ⟨_, rfl⟩
      rw [hTB] at HQb hbk
      have HRb := hide (show R = (needR wDo TB ns).bind fun _ ts ns => .ok { kind := 13, name := nm, inn := true, words := D } ts ns by rw [HR7.out, hTB])
      have HGb := hide hbk.1
      clear hTB hbk
      go_wp2_with fail
      refine HQb.out.mono ?_
      rintro e wb ⟨v, rfl, rfl, htb, gb⟩
      have KB := hide (ForAt.step HRA.out Ka.out gb htb)
      clear htb gb
      have HQn := hide (HNE.out _ TB wDo KB.out.t)
      unfold needR at HQn
      obtain ⟨bd, hbd⟩ : ∃ bd, isB TB wDo = bd := ⟨_, rfl⟩
      rw [hbd] at HQn
      have HBD := hide hbd
      unfold wDo at HQn
      clear hbd
      go_wp2_with fail
      refine HQn.out.mono ?_
      cases bd with
      | false =>
       obtain ⟨tz, rz, hz⟩ := HGb.out.ne
       have HRZ := hide (show R = wrongR TB by rw [HRb.out, need_no HBD.out]; rw [hz]; rfl)
       rw [hz] at HRZ ⊢
       rintro e wc ⟨rfl, hfc⟩
       refine post_panicP rfl ?_
       rw [HRZ.out]
       exact (⟨rfl, rb_trans KB.out.gr hfc⟩ : _ ∧ _)
      | true =>
       have HRZ := hide (show R = .ok { kind := 13, name := nm, inn := true, words := D } TB.tail ns by rw [HRb.out, need_yes HBD.out]; rfl)
       rintro e wd ⟨v, rfl, rfl, htd, gd⟩
       have KD := hide (ForAt.step HRA.out KB.out gd htd)
       clear htd gd
       obtain ⟨x0, x1, x2, x3, x4, x5, x6, x7, lB⟩ := box8 KD.out.box
       obtain ⟨y0, y1, y2, y3, y4, y5, y6, y7, lA⟩ := box8 KD.out.res
       have zA := Blk.frozen KD.out.res 0
       have zA1 := Blk.frozen KD.out.res 1
       have zA2 := Blk.frozen KD.out.res 2
       have zA3 := Blk.frozen KD.out.res 3
       have zA4 := Blk.frozen KD.out.res 4
       have zA5 := Blk.frozen KD.out.res 5
       have zA6 := Blk.frozen KD.out.res 6
       have zA7 := Blk.frozen KD.out.res 7
       have HZW := hide (ForAt.fin HRA.out HAV.out KD.out)
       obtain ⟨hz1, hz2, hz3, hz4⟩ := HZW.out
       unfold put8 at hz1 hz2 hz3 hz4
       clear HZW
       go_wp2_with fail
       rw [HRZ.out]
       generalize ((((((((wd.setCell ⟨A, 0, none⟩ (.int .i64 13)).setCell ⟨A, 1, none⟩ (.string ⟨nm.toArray⟩)).setCell ⟨A, 2, none⟩ (.bool true)).setCell ⟨A, 3, none⟩ (.slice none 0 0)).setCell ⟨A, 4, none⟩ (.slice b1 D.length b3)).setCell ⟨A, 5, none⟩ (.slice none 0 0)).setCell ⟨A, 6, none⟩ (.slice none 0 0)).setCell ⟨A, 7, none⟩ (.slice none 0 0)) = W8 at hz1 hz2 hz3 hz4 ⊢
       obtain ⟨p0, p1, p2, p3, p4, p5, p6, p7, lP⟩ := box8 hz3
       refine bodyPost_ret (v := .agg #[.int .i64 13, .string ⟨nm.toArray⟩, .bool true, .slice none 0 0, .slice b1 D.length b3, .slice none 0 0, .slice none 0 0, .slice none 0 0]) (by simp [results, Try.results94, go_sem, p0, p1, p2, p3, p4, p5, p6, p7]) rfl ?_
       exact ⟨_, rfl, ⟨_, _, _, _, _, rfl, hz1⟩, hz2, hz4⟩
     | false =>
      rw [show takeT (⟨tk7, tt7, ta7⟩ :: r7) [59] = ⟨tk7, tt7, ta7⟩ :: r7 from if_neg (by have := HS1.out; unfold sSemi at this; rw [this]; decide)] at Ka
      have HQl := hide (HT.out _ _ sLf Ka.out.t)
      obtain ⟨s2, hs2⟩ : ∃ s2, isB (⟨tk7, tt7, ta7⟩ :: r7) sLf = s2 := ⟨_, rfl⟩
      rw [hs2] at HQl HR6
      have HS2 := hide hs2
      unfold sLf at HQl
      clear hs2
      go_wp2_with fail
      refine HQl.out.mono ?_
      rintro e wb ⟨v, rfl, rfl, htb, gb⟩
      have Kb := hide (ForAt.step HRA.out Ka.out gb htb)
      clear htb gb
      cases s2 with
      | true =>
       rw [show takeT (⟨tk7, tt7, ta7⟩ :: r7) [10] = r7 from if_pos (by have := HS2.out; unfold sLf at this; exact this)] at Kb
       have HR7 := hide (show R = (needR wDo (breaksF r7) ns).bind fun _ ts ns => .ok { kind := 13, name := nm, inn := true, words := D } ts ns from HR6.out)
       go_wp2_with fail
       have HQb := hide (HBR.out _ r7 Kb.out.t)
       have hbk := breaks_good Kb.out.t.good
       obtain ⟨TB, hTB⟩ : ∃ TB, breaksF (r7) = TB := ⟨_, rfl⟩
       rw [hTB] at HQb hbk
       have HRb := hide (show R = (needR wDo TB ns).bind fun _ ts ns => .ok { kind := 13, name := nm, inn := true, words := D } ts ns by rw [HR7.out, hTB])
       have HGb := hide hbk.1
       clear hTB hbk
       go_wp2_with fail
       refine HQb.out.mono ?_
       rintro e wb ⟨v, rfl, rfl, htb, gb⟩
       have KB := hide (ForAt.step HRA.out Kb.out gb htb)
       clear htb gb
       have HQn := hide (HNE.out _ TB wDo KB.out.t)
       unfold needR at HQn
       obtain ⟨bd, hbd⟩ : ∃ bd, isB TB wDo = bd := ⟨_, rfl⟩
       rw [hbd] at HQn
       have HBD := hide hbd
       unfold wDo at HQn
       clear hbd
       go_wp2_with fail
       refine HQn.out.mono ?_
       cases bd with
       | false =>
        obtain ⟨tz, rz, hz⟩ := HGb.out.ne
        have HRZ := hide (show R = wrongR TB by rw [HRb.out, need_no HBD.out]; rw [hz]; rfl)
        rw [hz] at HRZ ⊢
        rintro e wc ⟨rfl, hfc⟩
        refine post_panicP rfl ?_
        rw [HRZ.out]
        exact (⟨rfl, rb_trans KB.out.gr hfc⟩ : _ ∧ _)
       | true =>
        have HRZ := hide (show R = .ok { kind := 13, name := nm, inn := true, words := D } TB.tail ns by rw [HRb.out, need_yes HBD.out]; rfl)
        rintro e wd ⟨v, rfl, rfl, htd, gd⟩
        have KD := hide (ForAt.step HRA.out KB.out gd htd)
        clear htd gd
        obtain ⟨x0, x1, x2, x3, x4, x5, x6, x7, lB⟩ := box8 KD.out.box
        obtain ⟨y0, y1, y2, y3, y4, y5, y6, y7, lA⟩ := box8 KD.out.res
        have zA := Blk.frozen KD.out.res 0
        have zA1 := Blk.frozen KD.out.res 1
        have zA2 := Blk.frozen KD.out.res 2
        have zA3 := Blk.frozen KD.out.res 3
        have zA4 := Blk.frozen KD.out.res 4
        have zA5 := Blk.frozen KD.out.res 5
        have zA6 := Blk.frozen KD.out.res 6
        have zA7 := Blk.frozen KD.out.res 7
        have HZW := hide (ForAt.fin HRA.out HAV.out KD.out)
        obtain ⟨hz1, hz2, hz3, hz4⟩ := HZW.out
        unfold put8 at hz1 hz2 hz3 hz4
        clear HZW
        go_wp2_with fail
        rw [HRZ.out]
        generalize ((((((((wd.setCell ⟨A, 0, none⟩ (.int .i64 13)).setCell ⟨A, 1, none⟩ (.string ⟨nm.toArray⟩)).setCell ⟨A, 2, none⟩ (.bool true)).setCell ⟨A, 3, none⟩ (.slice none 0 0)).setCell ⟨A, 4, none⟩ (.slice b1 D.length b3)).setCell ⟨A, 5, none⟩ (.slice none 0 0)).setCell ⟨A, 6, none⟩ (.slice none 0 0)).setCell ⟨A, 7, none⟩ (.slice none 0 0)) = W8 at hz1 hz2 hz3 hz4 ⊢
        obtain ⟨p0, p1, p2, p3, p4, p5, p6, p7, lP⟩ := box8 hz3
        refine bodyPost_ret (v := .agg #[.int .i64 13, .string ⟨nm.toArray⟩, .bool true, .slice none 0 0, .slice b1 D.length b3, .slice none 0 0, .slice none 0 0, .slice none 0 0]) (by simp [results, Try.results94, go_sem, p0, p1, p2, p3, p4, p5, p6, p7]) rfl ?_
        exact ⟨_, rfl, ⟨_, _, _, _, _, rfl, hz1⟩, hz2, hz4⟩
      | false =>
       rw [show takeT (⟨tk7, tt7, ta7⟩ :: r7) [10] = ⟨tk7, tt7, ta7⟩ :: r7 from if_neg (by have := HS2.out; unfold sLf at this; rw [this]; decide)] at Kb
       have HR7 := hide (show R = wrongR (⟨tk7, tt7, ta7⟩ :: r7) from HR6.out)
       go_wp2_with fail
       refine (HWR.out _ _ _ Kb.out.t).mono ?_
       rintro e wc ⟨rfl, gc⟩
       refine post_panicP rfl ?_
       rw [HR7.out]
       exact (⟨rfl, rb_trans Kb.out.gr (rb_none gc)⟩ : _ ∧ _)
end Go.Proofs.Ytgpfjcogaheopaa
