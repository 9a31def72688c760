/- Redirections. -/
import Derived.Test.YtgpfjcogaheopaaMF
set_option linter.all false
namespace Go.Proofs.Ytgpfjcogaheopaa
open Go.RowKit Lx
set_option maxRecDepth 100000
theorem infoRd : (Try.prog.info? 44).map (fun i => (i.zero, i.size, i.bytes)) = some (some (.agg #[.int .i64 0, .string ⟨#[]⟩, .string ⟨#[]⟩]), 3, 40) := by kernel_rfl
theorem srcR (W : World) (b : Nat) (x : Rd) (hb : W.heap.size = b) : Src Try.prog 3 29 (.slice (some ⟨b, 0, none⟩) 1 1) 1 x.cells (W.alloc (.cells #[.int .i64 x.fd, .string ⟨x.op.toArray⟩, .string ⟨x.wd.toArray⟩] 44)) := by
 subst hb
 refine Own.src (P := Try.prog) (tx := 29) (e' := 44) (n := 1) (k := 0) (e := 44) ⟨rfl, .inr ⟨W.heap.size, 0, 1, _, (0, 0), rfl, Blk.new W 44 _, Nat.le_refl _, Nat.le_refl _, by unfold maxLen; omega, by show 0 + 1 * 3 ≤ 3; omega, fun j hj => by rw [Nat.zero_add]; simp [Rd.cells, sv]⟩⟩ (by kernel_rfl) ?_
 intro u hu
 simp only [Rd.cells, List.mem_cons, List.mem_nil_iff, or_false] at hu
 rcases hu with rfl | rfl | rfl <;> rfl
def vRdsN (w0 : World) : World → List Rd → Value → Prop := fun w' l v => RdS w' v l ∧ ∀ b, v.ownBlock = some b → w0.heap.size ≤ b
/-- What holds at a round's head. -/
structure RdAt (av : Nat → Prop) (base : Nat → Prop) (w W : World) (rb : Nat) (vn : Value) (ts : List Tok) (ns : List Nd) (d : Nat) (v : Value) (acc : List Rd) : Prop where
 t : TIs av base W rb vn ts ns d
 own : RdS W v acc
 new : ∀ b, v.ownBlock = some b → w.heap.size ≤ b
 gr : w.grownBy W (some rb)
 len : acc.length + ts.length ≤ 100000
section
variable {av : Nat → Prop} {base : Nat → Prop} {rb d : Nat} {w W W' : World} {vn v : Value} {ts ts' : List Tok} {ns : List Nd} {acc : List Rd}
theorem TIs.blk (h : TIs av base W rb vn ts ns d) : ∃ vt, Blk W rb 54 #[vt, vn, .int .i64 d] := by
 obtain ⟨vt, h⟩ := h
 exact ⟨vt, h.blk⟩
theorem rds_rb (h : TIs av base W rb vn ts ns d) (hg : W.grownBy W' (some rb)) (ho : RdS W v acc) : RdS W' v acc := by
 obtain ⟨vt, hb⟩ := h.blk
 refine Own.chg ho (Chg.of_grown (S := fun k => k = rb) hg (fun k hk => by injection hk with hk; exact hk.symm)) (fun g hgg e => ?_)
 have := (Own.hasT ho hgg).uniq (e ▸ hb.hasT)
 exact absurd this (by decide)
theorem RdAt.step (h : RdAt av base w W rb vn ts ns d v acc) (hg : W.grownBy W' (some rb)) (ht : TIs av base W' rb vn ts' ns d) (hl : ts'.length ≤ ts.length) : RdAt av base w W' rb vn ts' ns d v acc :=
 ⟨ht, rds_rb h.t hg h.own, h.new, rb_trans h.gr hg, by have := h.len; omega⟩
theorem RdAt.grown (h : RdAt av base w W rb vn ts ns d v acc) (hg : W.grownBy W' none) : RdAt av base w W' rb vn ts ns d v acc := h.step (rb_none hg) (h.t.grown hg) (Nat.le_refl _)
theorem RdAt.app {vt0 : Value} {ts0 : List Tok} (h0 : RAt av base w rb vt0 vn ts0 ns d) (h : RdAt av base w W rb vn ts ns d v acc) (o : Obj) {wA : World} {vA : Value} {x : Rd} (ho : Own wA 44 3 vA (acc.length + 1) (acc.flatMap Rd.cells ++ x.cells) 0)
  (hc : Chg (fun b => v.ownBlock = some b) (W.alloc o) wA) (hn : ∀ b, vA.ownBlock = some b → v.ownBlock = some b ∨ (W.alloc o).heap.size ≤ b) (hl : acc.length + 1 + ts.length ≤ 100000) : RdAt av base w wA rb vn ts ns d vA (acc ++ [x]) := by
 obtain ⟨vt, ht⟩ := h.t
 have hown := Own.alloc h.own o
 have hg : w.grownBy wA (some rb) := by
  have h1 : w.grownBy (W.alloc o) (some rb) := only_alloc h.gr o
  refine ⟨hc.os.trans h1.os, hc.tape.trans h1.tape, hc.output.trans h1.output, Nat.le_trans h1.size hc.size, fun k hk hne => (hc.block k (Nat.lt_of_lt_of_le hk h1.size) (fun e => ?_)).trans (h1.block k hk hne)⟩
  have := h.new k e
  omega
 have hb := ht.blk.alloc o
 refine ⟨⟨vt, h0.back hg (Blk.chg hb hc (fun e => ?_)) ((ht.tok.alloc o).chg hc (fun g hgg e => ?_)) ht.good ht.few ht.txt⟩, ?_, fun b hb2 => ?_, hg, ?_⟩
 ·have := (Own.hasT hown e).uniq hb.hasT
  exact absurd this (by decide)
 ·have := (Own.hasT hown e).uniq ((ht.tok.alloc o).hasT hgg)
  exact absurd this (by decide)
 ·unfold RdS
  rw [List.length_append, List.length_singleton, List.flatMap_append]
  simpa using ho
 ·rcases hn b hb2 with h1 | h1
  ·exact h.new b h1
  ·rw [World.size_alloc] at h1
   have := h.gr.size
   omega
 ·rw [List.length_append, List.length_singleton]
  exact hl
/-- A store into a block that was made since the call began. -/
theorem TIs.setFresh {vt0 : Value} {ts0 : List Tok} (h0 : RAt av base w rb vt0 vn ts0 ns d) (h : TIs av base W rb vn ts ns d) (hg : w.grownBy W (some rb)) {B : Nat} {T : TypeId} (hB : w.heap.size ≤ B) (hb : HasT W B T) (hT : T ≠ 41) (j : Nat) (u : Value) : TIs av base (W.setCell ⟨B, j, none⟩ u) rb vn ts ns d := by
 obtain ⟨vt, h⟩ := h
 have hlt := Blk.lt h0.blk
 have hne : rb ≠ B := by omega
 have ht : vt.ownBlock ≠ some B := fun e => hT ((hb.uniq (h.tok.hasT e)))
 exact ⟨vt, h0.back (only_setCell hg (p := ⟨B, j, none⟩) (.inr hB) u) (Blk.far h.blk (p := ⟨B, j, none⟩) hne u) (h.tok.far (p := ⟨B, j, none⟩) ht u) h.good h.few h.txt⟩
end
theorem RAt.two {av : Nat → Prop} {base : Nat → Prop} {rb d : Nat} {w : World} {vn : Value} {t o : Tok} {r : List Tok} {ns : List Nd} {g off L cap : Nat} (h : RAt av base w rb (.slice (some ⟨g, off, none⟩) L cap) vn (t :: o :: r) ns d) : w.cell? ⟨g, off + 3, none⟩ = some (.int .i64 o.k) ∧ w.cell? ⟨g, off + 4, none⟩ = some (.string ⟨o.t.toArray⟩) ∧ w.cell? ⟨g, off + 5, none⟩ = some (.int .i64 o.a) := by
 obtain ⟨g', off', cap', hv, _, _, hcs⟩ := toks_at h.tok (by simp)
 injection hv with hv _ _
 injection hv with hv
 injection hv with e1 e2 _
 subst e1 e2
 have h1 := hcs 1 (by simp)
 simpa [Nat.add_assoc] using h1
set_option maxHeartbeats 16000000 in
theorem redirs_any (av : Nat → Prop) (base : Nat → Prop) (rb d : Nat) (vn : Value) (ts : List Tok) (ns : List Nd) (w : World) (h : TIs av base w rb vn ts ns d) :
  Calls Try.prog 90 #[.pointer (some ⟨rb, 0, none⟩)] w (TPost (vRdsN w) av base w rb vn d (redirF ts ns)) := by
 have Hn := hide (fun W t r (hW : TIs av base W rb vn (t :: r) ns d) (hk : t.k ≠ 4) => (show Calls Try.prog 39 #[.pointer (some ⟨rb, 0, none⟩)] W (TPost vTok av base W rb vn d (.ok t r ns)) by obtain ⟨vt, hW⟩ := hW; exact next_any av base rb d vt vn t r ns W hW hk))
 have Hw := hide (fun W t r (hW : TIs av base W rb vn (t :: r) ns d) => (show Calls Try.prog 24 #[.pointer (some ⟨rb, 0, none⟩)] W fun e w' => e = .panicked [pfault t.a (if t.k = 4 then 23 else 17)] ∧ W.grownBy w' none by obtain ⟨vt, hW⟩ := hW; exact wrong_any av base rb d vt vn t r ns W hW))
 have Hr := hide (fun t W => redirects_any t W)
 unfold TPost vTok tokV sv at Hn
 have hfd := run_text
 obtain ⟨vt0, h0⟩ := h
 have HRA := hide h0
 have HLB := hide (Blk.lt h0.blk)
 have hlen : ts.length ≤ 100000 := by have := h0.few; omega
 have HAT := hide (⟨⟨vt0, h0⟩, Own.nil _ _ _ _, fun b hb => (by cases hb), only_refl w _, by simp; omega⟩ : RdAt av base w w rb vn ts ns d (.slice none 0 0) [])
 unfold redirF
 obtain ⟨R, hR⟩ : ∃ R, redirL (ts.length + 1) [] ts ns = R := ⟨_, rfl⟩
 have HR := hide hR
 rw [hR]
 clear hR h0
 go_enter Try.func90, Try.ntmps90
 go_wp2_with fail
 go_loopg [3] ts.length (fun g v3 wr => ∃ (f : Nat) (acc : List Rd) (T : List Tok), redirL f acc T ns = R ∧ T.length < f ∧ T.length ≤ g ∧ RdAt av base w wr rb vn T ns d v3 acc)
 case atStart => exact ⟨_, [], ts, HR.out, Nat.lt_succ_self _, Nat.le_refl _, HAT.out⟩
 case round =>
  obtain ⟨f, acc, T, hR, hf, hg, hA⟩ := hrel
  obtain ⟨t, r, rfl⟩ := hA.t.good.ne
  have HRr := hide hR
  have HA := hide hA
  have HGF := hide (And.intro hf hg)
  obtain ⟨av3, cv3, rfl, _, _⟩ := Own.form hA.own
  have HTX := hide (show TokOk t from by obtain ⟨_, h⟩ := hA.t; exact h.txt t (List.mem_cons_self ..))
  have HGD := hide (hA.t.good)
  obtain ⟨f, rfl⟩ : ∃ f', f = f' + 1 := ⟨f - 1, by simp only [List.length_cons] at hf; omega⟩
  clear hR hf hg hA
  by_cases k3 : t.k = 3
  ·obtain ⟨tk, tt, ta⟩ := t
   simp only [] at k3
   subst k3
   obtain ⟨c, hct, hc48, hc57⟩ := HTX.out.2 rfl
   simp only [] at hct
   subst hct
   have HGr := hide (HGD.out.tail (by simp))
   obtain ⟨o, r, rfl⟩ := HGr.out.ne
   obtain ⟨bo, hbo⟩ : ∃ bo, rdrB o = bo := ⟨_, rfl⟩
   have Hro := hide (fun W => by have := Hr.out o W; rw [hbo] at this; exact this)
   have Hrt := hide (fun W => by have := Hr.out ⟨3, [c], ta⟩ W; rw [show rdrB ⟨3, [c], ta⟩ = false from rfl] at this; exact this)
   unfold tokV sv at Hro Hrt
   simp only [] at Hrt
   have HX := hide HA.out.t
   have H2 := hide HA.out.t
   obtain ⟨vt, ht⟩ := HX.out
   obtain ⟨t, r, g, off, cap, he, rfl, hc, hg, c0, c1, c2⟩ := ht.head
   injection he with q1 q2
   subst q1 q2
   obtain ⟨d0, d1, d2⟩ := ht.cells
   have lb := Blk.lt ht.blk
   have hib : (0 : Int) < (((⟨3, [c], ta⟩ :: (o :: r)).length : Nat) : Int) := by simp only [List.length_cons]; omega
   obtain ⟨L, hL⟩ : ∃ L, (⟨3, [c], ta⟩ :: (o :: r)).length = L := ⟨_, rfl⟩
   have h29 := ht.two
   have hL9 := hL
   rw [hL] at d0 hib hc
   clear ht hL
   have hib2 : (1 : Int) < (L : Int) := by rw [← hL9]; simp only [List.length_cons]; omega
   clear hL9
   obtain ⟨p0, p1, p2⟩ := h29
   cases bo with
   | false =>
    have HRS := hide (show R = .ok acc (⟨3, [c], ta⟩ :: o :: r) ns by
     rw [← HRr.out, redirL]
     rw [if_neg (by simp [hbo]), if_neg (by rw [show rdrB ⟨3, [c], ta⟩ = false from rfl]; decide)])
    rw [HRS.out]
    unfold TPost vRdsN
    simp only []
    obtain ⟨ok, ot, oa⟩ := o
    simp only [] at Hro p0 p1 p2
    go_wp2_with fail
    refine (Hro.out _).mono ?_
    rintro e w1 ⟨rfl, g1⟩
    have HA1 := hide (HA.out.grown (none_trans (only_alloc (only_refl _ none) _) g1))
    clear g1 d0 d1 d2 lb c0 c1 c2 hg hc p0 p1 p2 HX
    have HX := hide HA1.out.t
    obtain ⟨vt, ht⟩ := HX.out
    obtain ⟨t, r, g, off, cap, he, rfl, hc, hg, c0, c1, c2⟩ := ht.head
    injection he with q1 q2
    subst q1 q2
    obtain ⟨d0, d1, d2⟩ := ht.cells
    have lb := Blk.lt ht.blk
    have hib : (0 : Int) < (((⟨3, [c], ta⟩ :: (⟨ok, ot, oa⟩ :: r)).length : Nat) : Int) := by simp only [List.length_cons]; omega
    obtain ⟨L, hL⟩ : ∃ L, (⟨3, [c], ta⟩ :: (⟨ok, ot, oa⟩ :: r)).length = L := ⟨_, rfl⟩
    rw [hL] at d0 hib hc
    clear ht hL
    go_wp2_with fail
    refine (Hrt.out _).mono ?_
    rintro e w1b ⟨rfl, g1⟩
    have HA2 := hide (HA1.out.grown g1)
    clear g1
    go_wp2_with fail
    go_ret
    exact ⟨_, rfl, ⟨HA2.out.own, HA2.out.new⟩, HA2.out.t, HA2.out.gr⟩
   | true =>
    have hk2 : o.k = 2 := by
     have h4 := hbo
     unfold rdrB at h4
     rw [Bool.and_eq_true] at h4
     simpa using h4.1
    have HGr2 := hide (HGr.out.tail (by omega))
    obtain ⟨wt, r, rfl⟩ := HGr2.out.ne
    have HRS := hide (show R = (if wkB (wt :: r) = true then redirL f (acc ++ [⟨(c.toNat : Int) - 48, o.t, wt.t⟩]) r ns else wrongR (wt :: r)) by
     rw [← HRr.out, redirL]
     rw [if_pos (by simp [hbo])]
     rfl)
    obtain ⟨ok, tt, oa⟩ := o
    simp only [] at Hro p0 p1 p2 hk2
    subst hk2
    go_wp2_with fail
    refine (Hro.out _).mono ?_
    rintro e w1 ⟨rfl, g1⟩
    have HBX0 := hide (Blk.grown (Blk.new wr 44 #[.int .i64 (-1), .string ⟨#[]⟩, .string ⟨#[]⟩]) g1 (by simp))
    have HA0 := hide (HA.out.grown (none_trans (only_alloc (only_refl _ none) _) g1))
    clear g1
    obtain ⟨B, hB⟩ : ∃ B, wr.heap.size = B := ⟨_, rfl⟩
    have HBs := hide (show w.heap.size ≤ B by rw [← hB]; exact HA.out.gr.size)
    have HVB := hide (show ¬ (Value.slice av3 acc.length cv3).ownBlock = some B from fun e => by have := Own.lt HA.out.own e; omega)
    rw [hB] at HBX0
    clear d0 d1 d2 lb hib hib2 hc hg c0 c1 c2 p0 p1 p2 HX
    go_wp2_with fail
    clear hB
    refine (Hn.out _ ⟨3, [c], ta⟩ (⟨2, tt, oa⟩ :: wt :: r) HA0.out.t (by simp)).mono ?_
    rintro e w1b ⟨v, rfl, rfl, ht1, g1⟩
    have hrB : some B ≠ some rb := fun e => by injection e with e; have := HLB.out; have := HBs.out; omega
    have HB1 := hide (Blk.grown HBX0.out g1 hrB)
    have HAb := hide (HA0.out.step g1 ht1 (by simp only [List.length_cons]; omega))
    clear ht1 g1 hrB
    have z1 := Blk.frozen HB1.out 0
    have y1 := Blk.cell HB1.out 0
    have lB := Blk.lt HB1.out
    have hat := str_at' [c] 0 (by simp)
    have hcc1 : (48 : Int) ≤ (c.toNat : Int) := by omega
    have hcc2 : (c.toNat : Int) ≤ 57 := by omega
    go_upto_region 7 with (fail)
    have hB3 := Blk.set_ HB1.out 0 (.int .i64 ((c.toNat : Int) - 48))
    have hA3 := (⟨TIs.setFresh HRA.out HAb.out.t HAb.out.gr HBs.out HB1.out.hasT (by decide) 0 (.int .i64 ((c.toNat : Int) - 48)), Own.far HAb.out.own (p := ⟨B, 0, none⟩) (fun e => HVB.out e) _, HAb.out.new, only_setCell HAb.out.gr (p := ⟨B, 0, none⟩) (.inr HBs.out) _, HAb.out.len⟩ : RdAt av base w (w1b.setCell ⟨B, 0, none⟩ (.int .i64 ((c.toNat : Int) - 48))) rb vn (⟨2, tt, oa⟩ :: wt :: r) ns d (.slice av3 acc.length cv3) acc)
    generalize w1b.setCell ⟨B, 0, none⟩ (.int .i64 ((c.toNat : Int) - 48)) = W1 at hB3 hA3 ⊢
    have HBX : Hid (Blk W1 B 44 #[.int .i64 ((c.toNat : Int) - 48), .string ⟨#[]⟩, .string ⟨#[]⟩]) := hide hB3
    have HA1 := hide hA3
    clear hB3 hA3 z1 y1 lB hat hcc1 hcc2
    go_wp2_with fail
    refine (Hn.out _ ⟨2, tt, oa⟩ (wt :: r) HA1.out.t (by simp)).mono ?_
    rintro e w2 ⟨v, rfl, rfl, ht2, g2⟩
    have hrB : some B ≠ some rb := fun e => by injection e with e; have := HLB.out; have := HBs.out; omega
    have HB2 := hide (Blk.grown HBX.out g2 hrB)
    have HA2 := hide (HA1.out.step g2 ht2 (by simp only [List.length_cons]; omega))
    clear ht2 g2
    have z1 := Blk.frozen HB2.out 1
    have y1 := Blk.cell HB2.out 1
    have lB := Blk.lt HB2.out
    go_upto_region 8 with (fail)
    have hB3 := Blk.set_ HB2.out 1 (.string ⟨tt.toArray⟩)
    have hA3 := (⟨TIs.setFresh HRA.out HA2.out.t HA2.out.gr HBs.out HB2.out.hasT (by decide) 1 (.string ⟨tt.toArray⟩), Own.far HA2.out.own (p := ⟨B, 1, none⟩) (fun e => HVB.out e) _, HA2.out.new, only_setCell HA2.out.gr (p := ⟨B, 1, none⟩) (.inr HBs.out) _, HA2.out.len⟩ : RdAt av base w (w2.setCell ⟨B, 1, none⟩ (.string ⟨tt.toArray⟩)) rb vn (wt :: r) ns d (.slice av3 acc.length cv3) acc)
    generalize w2.setCell ⟨B, 1, none⟩ (.string ⟨tt.toArray⟩) = W3 at hB3 hA3 ⊢
    have HB3 := hide hB3
    have HA3 := hide hA3
    clear hB3 hA3 z1 y1 lB
    obtain ⟨wk, wx, wa⟩ := wt
    have HX3 := hide HA3.out.t
    obtain ⟨vt3, ht3⟩ := HX3.out
    obtain ⟨t3, r3, g3, off3, cap3, he3, rfl, hc3, hg3, c03, c13, c23⟩ := ht3.head
    injection he3 with q1 q2
    subst q1 q2
    obtain ⟨d03, d13, d23⟩ := ht3.cells
    have lb3 := Blk.lt ht3.blk
    have hib3 : (0 : Int) < (((⟨wk, wx, wa⟩ :: r).length : Nat) : Int) := by simp only [List.length_cons]; omega
    obtain ⟨L3, hL3⟩ : ∃ L, (⟨wk, wx, wa⟩ :: r).length = L := ⟨_, rfl⟩
    rw [hL3] at d03 hib3 hc3
    clear ht3 hL3
    by_cases hwk : wk = 1 ∨ wk = 3
    ·have HRT := hide (show R = redirL f (acc ++ [⟨(c.toNat : Int) - 48, tt, wx⟩]) r ns by rw [HRS.out, if_pos]; unfold wkB; rcases hwk with e | e <;> rw [e] <;> rfl)
     have HW4 := hide (show wk ≠ 4 by omega)
     have HRUN : ∀ (K : Prop), (((wk : Int) != 1) = false → K) → (((wk : Int) != 1) = true → ((wk : Int) != 3) = false → K) → K := fun K a b => by
      rcases hwk with e | e
      ·exact a (by rw [e]; rfl)
      ·exact b (by rw [e]; rfl) (by rw [e]; rfl)
     clear hwk
     refine HRUN _ (fun q1 => ?_) (fun q1 q3 => ?_)
     all_goals (
      clear HRUN
      go_wp2_with fail
      refine (Hn.out _ ⟨wk, wx, wa⟩ r HA3.out.t HW4.out).mono ?_
      rintro e w4 ⟨v, rfl, rfl, ht4, g4⟩
      have HB4 := hide (Blk.grown HB3.out g4 hrB)
      have HA4 := hide (HA3.out.step g4 ht4 (by simp only [List.length_cons]; omega))
      clear ht4 g4 d03 d13 d23 lb3 hib3 hc3 hg3 c03 c13 c23
      have z2 := Blk.frozen HB4.out 2
      have y2 := Blk.cell HB4.out 2
      have lB := Blk.lt HB4.out
      go_upto_region 11 with (fail)
      have hB5 := Blk.set_ HB4.out 2 (.string ⟨wx.toArray⟩)
      have hA5 := (⟨TIs.setFresh HRA.out HA4.out.t HA4.out.gr HBs.out HB4.out.hasT (by decide) 2 (.string ⟨wx.toArray⟩), Own.far HA4.out.own (p := ⟨B, 2, none⟩) (fun e => HVB.out e) _, HA4.out.new, only_setCell HA4.out.gr (p := ⟨B, 2, none⟩) (.inr HBs.out) _, HA4.out.len⟩ : RdAt av base w (w4.setCell ⟨B, 2, none⟩ (.string ⟨wx.toArray⟩)) rb vn r ns d (.slice av3 acc.length cv3) acc)
      generalize w4.setCell ⟨B, 2, none⟩ (.string ⟨wx.toArray⟩) = W5 at hB5 hA5 ⊢
      have HA5 := hide hA5
      have b0 : W5.cell? ⟨B, 0, none⟩ = some (.int .i64 ((c.toNat : Int) - 48)) := Blk.cell hB5 0
      have b1 : W5.cell? ⟨B, 1, none⟩ = some (.string ⟨tt.toArray⟩) := Blk.cell hB5 1
      have b2 : W5.cell? ⟨B, 2, none⟩ = some (.string ⟨wx.toArray⟩) := Blk.cell hB5 2
      have lB5 := Blk.lt hB5
      have hal := HA2.out.len
      simp only [List.length_cons] at hal
      clear hB5 hA5 z2 y2 lB
      go_wp2_with (at_builtin; refine wpList_appAt 44 (.agg #[.int .i64 0, .string ⟨#[]⟩, .string ⟨#[]⟩]) 3 40 Try.underlying29 infoRd rfl (.slice av3 acc.length cv3) acc.length (acc.flatMap Rd.cells) 0 _ 1 (Rd.cells ⟨(c.toNat : Int) - 48, tt, wx⟩) rfl rfl (Own.alloc HA5.out.own _) (by omega) (srcR _ _ ⟨(c.toNat : Int) - 48, tt, wx⟩ rfl) (by unfold maxLen; omega) (by omega) ?_; intro vA wA ho hc hn _; (have HA6 := hide (RdAt.app HRA.out HA5.out _ (x := ⟨(c.toNat : Int) - 48, tt, wx⟩) ho hc hn (by omega))); clear ho hc hn)
      go_roundg (gk - 1)
      case rel => exact ⟨f, _, r, HRT.out.symm, by have := HGF.out.1; simp only [List.length_cons] at this; omega, by have := HGF.out.2; simp only [List.length_cons] at this; omega, HA6.out⟩
      case measure => have := HGF.out.2; simp only [List.length_cons] at this; omega)
    ·have HRT := hide (show R = wrongR (⟨wk, wx, wa⟩ :: r) by rw [HRS.out, if_neg]; unfold wkB; simp only [not_or] at hwk; simp [hwk.1, hwk.2])
     have q1 : ((wk : Int) != 1) = true := by rw [bne_iff_ne]; omega
     have q3 : ((wk : Int) != 3) = true := by rw [bne_iff_ne]; omega
     go_wp2_with fail
     refine (Hw.out _ ⟨wk, wx, wa⟩ r HA3.out.t).mono ?_
     rintro e w4 ⟨rfl, g4⟩
     refine post_panicP rfl ?_
     rw [HRT.out]
     exact (⟨rfl, rb_trans HA3.out.gr (rb_none g4)⟩ : _ ∧ _)
  ·obtain ⟨bt, hbt⟩ : ∃ bt, rdrB t = bt := ⟨_, rfl⟩
   have Hrt := hide (fun W => by have := Hr.out t W; rw [hbt] at this; exact this)
   unfold tokV sv at Hrt
   cases bt with
   | false =>
    have HRS := hide (show R = .ok acc (t :: r) ns by
     rw [← HRr.out, redirL]
     rw [if_neg (by rw [show (t.k == 3) = false from beq_eq_false_iff_ne.2 k3]; simp), if_neg (by rw [hbt]; decide)])
    rw [HRS.out]
    unfold TPost vRdsN
    simp only []
    obtain ⟨tk, tt, ta⟩ := t
    simp only [] at k3 Hrt
    have q3 : ((tk : Int) == 3) = false := by rw [beq_eq_false_iff_ne]; omega
    have HX := hide HA.out.t
    obtain ⟨vt, ht⟩ := HX.out
    obtain ⟨t, r, g, off, cap, he, rfl, hc, hg, c0, c1, c2⟩ := ht.head
    injection he with q1 q2
    subst q1 q2
    obtain ⟨d0, d1, d2⟩ := ht.cells
    have lb := Blk.lt ht.blk
    have hib : (0 : Int) < (((⟨tk, tt, ta⟩ :: r).length : Nat) : Int) := by simp only [List.length_cons]; omega
    obtain ⟨L, hL⟩ : ∃ L, (⟨tk, tt, ta⟩ :: r).length = L := ⟨_, rfl⟩
    rw [hL] at d0 hib hc
    clear ht hL
    go_wp2_with fail
    refine (Hrt.out _).mono ?_
    rintro e w1 ⟨rfl, g1⟩
    have HA1 := hide (HA.out.grown (none_trans (only_alloc (only_refl _ none) _) g1))
    clear g1
    go_wp2_with fail
    go_ret
    exact ⟨_, rfl, ⟨HA1.out.own, HA1.out.new⟩, HA1.out.t, HA1.out.gr⟩
   | true =>
    have hk2 : t.k = 2 := by
     have h4 := hbt
     unfold rdrB at h4
     rw [Bool.and_eq_true] at h4
     simpa using h4.1
    have HK2 := hide hk2
    have HGr := hide (HGD.out.tail (by omega))
    obtain ⟨wt, r, rfl⟩ := HGr.out.ne
    have HRS := hide (show R = (if wkB (wt :: r) = true then redirL f (acc ++ [⟨-1, t.t, wt.t⟩]) r ns else wrongR (wt :: r)) by
     rw [← HRr.out, redirL]
     rw [if_neg (by rw [show (t.k == 3) = false from beq_eq_false_iff_ne.2 k3]; simp), if_pos hbt]
     rfl)
    obtain ⟨tk, tt, ta⟩ := t
    simp only [] at k3 Hrt hk2
    subst hk2
    have HX := hide HA.out.t
    obtain ⟨vt, ht⟩ := HX.out
    obtain ⟨t, r, g, off, cap, he, rfl, hc, hg, c0, c1, c2⟩ := ht.head
    injection he with q1 q2
    subst q1 q2
    obtain ⟨d0, d1, d2⟩ := ht.cells
    have lb := Blk.lt ht.blk
    have hib : (0 : Int) < (((⟨2, tt, ta⟩ :: (wt :: r)).length : Nat) : Int) := by simp only [List.length_cons]; omega
    obtain ⟨L, hL⟩ : ∃ L, (⟨2, tt, ta⟩ :: (wt :: r)).length = L := ⟨_, rfl⟩
    rw [hL] at d0 hib hc
    clear ht hL
    go_wp2_with fail
    refine (Hrt.out _).mono ?_
    rintro e w1 ⟨rfl, g1⟩
    have HBX := hide (Blk.grown (Blk.new wr 44 #[.int .i64 (-1), .string ⟨#[]⟩, .string ⟨#[]⟩]) g1 (by simp))
    have HA1 := hide (HA.out.grown (none_trans (only_alloc (only_refl _ none) _) g1))
    clear g1
    obtain ⟨B, hB⟩ : ∃ B, wr.heap.size = B := ⟨_, rfl⟩
    have HBs := hide (show w.heap.size ≤ B by rw [← hB]; exact HA.out.gr.size)
    have HVB := hide (show ¬ (Value.slice av3 acc.length cv3).ownBlock = some B from fun e => by have := Own.lt HA.out.own e; omega)
    rw [hB] at HBX
    clear d0 d1 d2 lb hib hc hg c0 c1 c2 HX
    go_wp2_with fail
    clear hB
    refine (Hn.out _ ⟨2, tt, ta⟩ (wt :: r) HA1.out.t (by simp)).mono ?_
    rintro e w2 ⟨v, rfl, rfl, ht2, g2⟩
    have hrB : some B ≠ some rb := fun e => by injection e with e; have := HLB.out; have := HBs.out; omega
    have HB2 := hide (Blk.grown HBX.out g2 hrB)
    have HA2 := hide (HA1.out.step g2 ht2 (by simp only [List.length_cons]; omega))
    clear ht2 g2
    have z1 := Blk.frozen HB2.out 1
    have y1 := Blk.cell HB2.out 1
    have lB := Blk.lt HB2.out
    go_upto_region 8 with (fail)
    have hB3 := Blk.set_ HB2.out 1 (.string ⟨tt.toArray⟩)
    have hA3 := (⟨TIs.setFresh HRA.out HA2.out.t HA2.out.gr HBs.out HB2.out.hasT (by decide) 1 (.string ⟨tt.toArray⟩), Own.far HA2.out.own (p := ⟨B, 1, none⟩) (fun e => HVB.out e) _, HA2.out.new, only_setCell HA2.out.gr (p := ⟨B, 1, none⟩) (.inr HBs.out) _, HA2.out.len⟩ : RdAt av base w (w2.setCell ⟨B, 1, none⟩ (.string ⟨tt.toArray⟩)) rb vn (wt :: r) ns d (.slice av3 acc.length cv3) acc)
    generalize w2.setCell ⟨B, 1, none⟩ (.string ⟨tt.toArray⟩) = W3 at hB3 hA3 ⊢
    have HB3 := hide hB3
    have HA3 := hide hA3
    clear hB3 hA3 z1 y1 lB
    obtain ⟨wk, wx, wa⟩ := wt
    have HX3 := hide HA3.out.t
    obtain ⟨vt3, ht3⟩ := HX3.out
    obtain ⟨t3, r3, g3, off3, cap3, he3, rfl, hc3, hg3, c03, c13, c23⟩ := ht3.head
    injection he3 with q1 q2
    subst q1 q2
    obtain ⟨d03, d13, d23⟩ := ht3.cells
    have lb3 := Blk.lt ht3.blk
    have hib3 : (0 : Int) < (((⟨wk, wx, wa⟩ :: r).length : Nat) : Int) := by simp only [List.length_cons]; omega
    obtain ⟨L3, hL3⟩ : ∃ L, (⟨wk, wx, wa⟩ :: r).length = L := ⟨_, rfl⟩
    rw [hL3] at d03 hib3 hc3
    clear ht3 hL3
    by_cases hwk : wk = 1 ∨ wk = 3
    ·have HRT := hide (show R = redirL f (acc ++ [⟨-1, tt, wx⟩]) r ns by rw [HRS.out, if_pos]; unfold wkB; rcases hwk with e | e <;> rw [e] <;> rfl)
     have HW4 := hide (show wk ≠ 4 by omega)
     have HRUN : ∀ (K : Prop), (((wk : Int) != 1) = false → K) → (((wk : Int) != 1) = true → ((wk : Int) != 3) = false → K) → K := fun K a b => by
      rcases hwk with e | e
      ·exact a (by rw [e]; rfl)
      ·exact b (by rw [e]; rfl) (by rw [e]; rfl)
     clear hwk
     refine HRUN _ (fun q1 => ?_) (fun q1 q3 => ?_)
     all_goals (
      clear HRUN
      go_wp2_with fail
      refine (Hn.out _ ⟨wk, wx, wa⟩ r HA3.out.t HW4.out).mono ?_
      rintro e w4 ⟨v, rfl, rfl, ht4, g4⟩
      have HB4 := hide (Blk.grown HB3.out g4 hrB)
      have HA4 := hide (HA3.out.step g4 ht4 (by simp only [List.length_cons]; omega))
      clear ht4 g4 d03 d13 d23 lb3 hib3 hc3 hg3 c03 c13 c23
      have z2 := Blk.frozen HB4.out 2
      have y2 := Blk.cell HB4.out 2
      have lB := Blk.lt HB4.out
      go_upto_region 11 with (fail)
      have hB5 := Blk.set_ HB4.out 2 (.string ⟨wx.toArray⟩)
      have hA5 := (⟨TIs.setFresh HRA.out HA4.out.t HA4.out.gr HBs.out HB4.out.hasT (by decide) 2 (.string ⟨wx.toArray⟩), Own.far HA4.out.own (p := ⟨B, 2, none⟩) (fun e => HVB.out e) _, HA4.out.new, only_setCell HA4.out.gr (p := ⟨B, 2, none⟩) (.inr HBs.out) _, HA4.out.len⟩ : RdAt av base w (w4.setCell ⟨B, 2, none⟩ (.string ⟨wx.toArray⟩)) rb vn r ns d (.slice av3 acc.length cv3) acc)
      generalize w4.setCell ⟨B, 2, none⟩ (.string ⟨wx.toArray⟩) = W5 at hB5 hA5 ⊢
      have HA5 := hide hA5
      have b0 : W5.cell? ⟨B, 0, none⟩ = some (.int .i64 (-1)) := Blk.cell hB5 0
      have b1 : W5.cell? ⟨B, 1, none⟩ = some (.string ⟨tt.toArray⟩) := Blk.cell hB5 1
      have b2 : W5.cell? ⟨B, 2, none⟩ = some (.string ⟨wx.toArray⟩) := Blk.cell hB5 2
      have lB5 := Blk.lt hB5
      have hal := HA2.out.len
      simp only [List.length_cons] at hal
      clear hB5 hA5 z2 y2 lB
      go_wp2_with (at_builtin; refine wpList_appAt 44 (.agg #[.int .i64 0, .string ⟨#[]⟩, .string ⟨#[]⟩]) 3 40 Try.underlying29 infoRd rfl (.slice av3 acc.length cv3) acc.length (acc.flatMap Rd.cells) 0 _ 1 (Rd.cells ⟨-1, tt, wx⟩) rfl rfl (Own.alloc HA5.out.own _) (by omega) (srcR _ _ ⟨-1, tt, wx⟩ rfl) (by unfold maxLen; omega) (by omega) ?_; intro vA wA ho hc hn _; (have HA6 := hide (RdAt.app HRA.out HA5.out _ (x := ⟨-1, tt, wx⟩) ho hc hn (by omega))); clear ho hc hn)
      go_roundg (gk - 1)
      case rel => exact ⟨f, _, r, HRT.out.symm, by have := HGF.out.1; simp only [List.length_cons] at this; omega, by have := HGF.out.2; simp only [List.length_cons] at this; omega, HA6.out⟩
      case measure => have := HGF.out.2; simp only [List.length_cons] at this; omega)
    ·have HRT := hide (show R = wrongR (⟨wk, wx, wa⟩ :: r) by rw [HRS.out, if_neg]; unfold wkB; simp only [not_or] at hwk; simp [hwk.1, hwk.2])
     have q1 : ((wk : Int) != 1) = true := by rw [bne_iff_ne]; omega
     have q3 : ((wk : Int) != 3) = true := by rw [bne_iff_ne]; omega
     go_wp2_with fail
     refine (Hw.out _ ⟨wk, wx, wa⟩ r HA3.out.t).mono ?_
     rintro e w4 ⟨rfl, g4⟩
     refine post_panicP rfl ?_
     rw [HRT.out]
     exact (⟨rfl, rb_trans HA3.out.gr (rb_none g4)⟩ : _ ∧ _)
end Go.Proofs.Ytgpfjcogaheopaa
