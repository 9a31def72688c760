/- The document's fors. -/
import Derived.Test.YtgpfjcogaheopaaEM
import Derived.Test.YtgpfjcogaheopaaPR
set_option linter.all false
namespace Go.Proofs.Ytgpfjcogaheopaa
open Go.RowKit Lx
set_option maxRecDepth 100000
/-- The node behind a for. -/
def vFd (w0 : World) : World → Nd → Value → Prop := fun w' n v => ∃ b, v = .agg #[.int .i64 13, .string ⟨n.name.toArray⟩, .bool n.inn, .slice none 0 0, b, .slice none 0 0, .slice none 0 0, .slice none 0 0] ∧ StrS w' b n.words ∧ (∀ k, b.ownBlock = some k → w0.heap.size ≤ k) ∧ n = { kind := 13, name := n.name, inn := n.inn, words := n.words }
def bFd (w0 : World) : World → Value → Prop := fun w' v => ∃ n, vFd w0 w' n v
structure ForD (w W : World) (rb : Nat) (T : List Tok) (st : DS) (A B : Nat) (nm : List UInt8) (inn : Bool) (D : List (List UInt8)) (b : Value) : Prop where
 st : DIs W rb T st
 box : Blk W B 33 #[.int .i64 13, .string ⟨nm.toArray⟩, .bool inn, .slice none 0 0, b, .slice none 0 0, .slice none 0 0, .slice none 0 0]
 res : Blk W A 33 #[.int .i64 0, .string ⟨#[]⟩, .bool false, .slice none 0 0, .slice none 0 0, .slice none 0 0, .slice none 0 0, .slice none 0 0]
 hA : w.heap.size ≤ A
 hB : w.heap.size ≤ B
 ne : A ≠ B
 words : StrS W b D
 nb : ∀ k, b.ownBlock = some k → w.heap.size ≤ k
 gr : w.grownBy W (some rb)
 rbl : rb < w.heap.size
section
variable {w W W' wA : World} {rb A B d : Nat} {T : List Tok} {st st' : DS} {nm : List UInt8} {inn : Bool} {D : List (List UInt8)} {b vA : Value} {R : PR Nd}
theorem ForD.step (h : ForD w W rb T st A B nm inn D b) (hg : W.grownBy W' (some rb)) (ht : DIs W' rb T st') : ForD w W' rb T st' A B nm inn D b :=
 ⟨ht, Blk.grown h.box hg (fun e => by injection e with e; have := h.hB; have := h.rbl; omega), Blk.grown h.res hg (fun e => by injection e with e; have := h.hA; have := h.rbl; omega), h.hA, h.hB, h.ne, own_rb hg h.st.hasT h.words (by decide), h.nb, only_trans h.gr hg, h.rbl⟩
theorem ForD.grown (h : ForD w W rb T st A B nm inn D b) (hg : W.grownBy W' none) : ForD w W' rb T st A B nm inn D b := h.step (gr_rb hg) (h.st.grown hg)
theorem ForD.start {ts : List Tok} {d : Nat} (h : DIs w rb T (.ok ts d)) : ForD w ((w.alloc (.cells #[.int .i64 0, .string ⟨#[]⟩, .bool false, .slice none 0 0, .slice none 0 0, .slice none 0 0, .slice none 0 0, .slice none 0 0] 33)).alloc (.cells #[.int .i64 13, .string ⟨#[]⟩, .bool false, .slice none 0 0, .slice none 0 0, .slice none 0 0, .slice none 0 0, .slice none 0 0] 33)) rb T (.ok ts d) w.heap.size (w.heap.size + 1) [] false [] (.slice none 0 0) := by
 have h1 := Blk.new (w.alloc (.cells #[.int .i64 0, .string ⟨#[]⟩, .bool false, .slice none 0 0, .slice none 0 0, .slice none 0 0, .slice none 0 0, .slice none 0 0] 33)) 33 #[.int .i64 13, .string ⟨#[]⟩, .bool false, .slice none 0 0, .slice none 0 0, .slice none 0 0, .slice none 0 0, .slice none 0 0]
 rw [World.size_alloc] at h1
 exact ⟨(h.grown (only_alloc (only_refl w none) _)).grown (only_alloc (only_refl _ none) _), h1, (Blk.new w 33 _).alloc _, Nat.le_refl _, by omega, by omega, Own.nil _ _ _ _, fun k hk => (by cases hk), only_alloc (only_alloc (only_refl w _) _) _, h.lb⟩
theorem ForD.boxA (h : ForD w W rb T st A B nm inn D b) (o : Obj) (hc : Chg (fun k => b.ownBlock = some k) (W.alloc o) wA) : Blk wA B 33 #[.int .i64 13, .string ⟨nm.toArray⟩, .bool inn, .slice none 0 0, b, .slice none 0 0, .slice none 0 0, .slice none 0 0] ∧ Blk wA A 33 #[.int .i64 0, .string ⟨#[]⟩, .bool false, .slice none 0 0, .slice none 0 0, .slice none 0 0, .slice none 0 0, .slice none 0 0] :=
 ⟨Blk.chg (h.box.alloc o) hc (fun e => absurd ((Own.hasT h.words e).uniq h.box.hasT) (by decide)), Blk.chg (h.res.alloc o) hc (fun e => absurd ((Own.hasT h.words e).uniq h.res.hasT) (by decide))⟩
theorem ForD.app (h : ForD w W rb T st A B nm inn D b) (o : Obj) {x : List UInt8} (ho : Own wA 9 1 vA (D.length + 1) (D.map sv ++ [sv x]) 0) (hc : Chg (fun k => b.ownBlock = some k) (W.alloc o) wA) (hn : ∀ k, vA.ownBlock = some k → b.ownBlock = some k ∨ (W.alloc o).heap.size ≤ k) :
  ForD w (wA.setCell ⟨B, 4, none⟩ vA) rb T st A B nm inn (D ++ [x]) vA := by
 obtain ⟨hbx, hrs⟩ := h.boxA o hc
 have hcc : Chg (fun k => b.ownBlock = some k ∨ k = B) (W.alloc o) (wA.setCell ⟨B, 4, none⟩ vA) := Chg.setCell (Chg.mono hc fun k _ e => .inl e) (p := ⟨B, 4, none⟩) (.inl (.inr rfl)) vA
 have hlow : ∀ k, (b.ownBlock = some k ∨ k = B) → w.heap.size ≤ k := fun k e => by
  rcases e with e | rfl
  ·exact h.nb k e
  ·exact h.hB
 refine ⟨(h.st.grown (only_alloc (only_refl W none) o)).chg hcc (fun k e => by have := hlow k e; have := h.rbl; omega), Blk.set_ hbx 4 _, Blk.far hrs (p := ⟨B, 4, none⟩) h.ne _, h.hA, h.hB, h.ne, ?_, fun k hk => ?_, gr_app h.gr o hcc hlow, h.rbl⟩
 ·unfold StrS
  rw [List.length_append, List.length_singleton, List.map_append]
  exact ho.far (p := ⟨B, 4, none⟩) (fun e => absurd ((Own.hasT ho e).uniq hbx.hasT) (by decide)) _
 ·rcases hn k hk with e | e
  ·exact h.nb k e
  ·rw [World.size_alloc] at e
   have := h.gr.size
   omega
theorem ForD.other (h : ForD w W rb T st A B nm inn D b) (k j : Nat) (hk : k = A ∨ k = B) (u : Value) : DIs (W.setCell ⟨k, j, none⟩ u) rb T st ∧ w.grownBy (W.setCell ⟨k, j, none⟩ u) (some rb) ∧ StrS (W.setCell ⟨k, j, none⟩ u) b D := by
 have hT : HasT W k 33 := by rcases hk with rfl | rfl; exact h.res.hasT; exact h.box.hasT
 have hl : w.heap.size ≤ k := by rcases hk with rfl | rfl; exact h.hA; exact h.hB
 exact ⟨h.st.fresh (Nat.lt_of_lt_of_le h.rbl hl) j u, only_setCell h.gr (p := ⟨k, j, none⟩) (.inr hl) u, Own.far h.words (p := ⟨k, j, none⟩) (fun e => absurd ((Own.hasT h.words e).uniq hT) (by decide)) _⟩
theorem ForD.setIn (h : ForD w W rb T st A B nm inn D b) (i : Bool) : ForD w (W.setCell ⟨B, 2, none⟩ (.bool i)) rb T st A B nm i D b := by
 obtain ⟨ht, hg, hw⟩ := h.other B 2 (.inr rfl) (.bool i)
 exact ⟨ht, Blk.set_ h.box 2 _, Blk.far h.res (p := ⟨B, 2, none⟩) h.ne _, h.hA, h.hB, h.ne, hw, h.nb, hg, h.rbl⟩
theorem ForD.setNm (h : ForD w W rb T st A B nm inn D b) (x : List UInt8) : ForD w (W.setCell ⟨B, 1, none⟩ (.string ⟨x.toArray⟩)) rb T st A B x inn D b := by
 obtain ⟨ht, hg, hw⟩ := h.other B 1 (.inr rfl) (.string ⟨x.toArray⟩)
 exact ⟨ht, Blk.set_ h.box 1 _, Blk.far h.res (p := ⟨B, 1, none⟩) h.ne _, h.hA, h.hB, h.ne, hw, h.nb, hg, h.rbl⟩
theorem ForD.fin {n tot : Nat} (h : ForD w W rb T st A B nm inn D b) (hs : Sim R d n tot (fun Z => .ok { kind := 13, name := nm, inn := inn, words := D } Z []) st) :
  Blk (put8 W A (.int .i64 13) (.string ⟨nm.toArray⟩) (.bool inn) (.slice none 0 0) b (.slice none 0 0) (.slice none 0 0) (.slice none 0 0)) A 33 #[.int .i64 13, .string ⟨nm.toArray⟩, .bool inn, .slice none 0 0, b, .slice none 0 0, .slice none 0 0, .slice none 0 0] ∧
  DPost (vFd w) (bFd w) rb T d w R (.returned (.agg #[.int .i64 13, .string ⟨nm.toArray⟩, .bool inn, .slice none 0 0, b, .slice none 0 0, .slice none 0 0, .slice none 0 0])) (put8 W A (.int .i64 13) (.string ⟨nm.toArray⟩) (.bool inn) (.slice none 0 0) b (.slice none 0 0) (.slice none 0 0) (.slice none 0 0)) := by
 have hc := put8_chg W A (.int .i64 13) (.string ⟨nm.toArray⟩) (.bool inn) (.slice none 0 0) b (.slice none 0 0) (.slice none 0 0) (.slice none 0 0)
 have hst := h.st.chg hc (fun k e => by subst e; have := h.hA; have := h.rbl; omega)
 have hgr : w.grownBy (put8 W A (.int .i64 13) (.string ⟨nm.toArray⟩) (.bool inn) (.slice none 0 0) b (.slice none 0 0) (.slice none 0 0) (.slice none 0 0)) (some rb) :=
  ⟨hc.os.trans h.gr.os, hc.tape.trans h.gr.tape, hc.output.trans h.gr.output, Nat.le_trans h.gr.size hc.size, fun k hk hne => (hc.block k (Nat.lt_of_lt_of_le hk h.gr.size) (fun e => by have := h.hA; omega)).trans (h.gr.block k hk hne)⟩
 have hv : vFd w (put8 W A (.int .i64 13) (.string ⟨nm.toArray⟩) (.bool inn) (.slice none 0 0) b (.slice none 0 0) (.slice none 0 0) (.slice none 0 0)) { kind := 13, name := nm, inn := inn, words := D } (.agg #[.int .i64 13, .string ⟨nm.toArray⟩, .bool inn, .slice none 0 0, b, .slice none 0 0, .slice none 0 0, .slice none 0 0]) :=
  ⟨b, rfl, Own.chg h.words hc (fun g hgg e => by subst e; exact absurd ((Own.hasT h.words hgg).uniq h.res.hasT) (by decide)), h.nb, rfl⟩
 refine ⟨Blk.set_ (Blk.set_ (Blk.set_ (Blk.set_ (Blk.set_ (Blk.set_ (Blk.set_ (Blk.set_ h.res 0 _) 1 _) 2 _) 3 _) 4 _) 5 _) 6 _) 7 _, ?_⟩
 cases st with
 | ok Z d2 =>
  obtain ⟨rfl, hR, _⟩ := hs
  rw [hR]
  exact ⟨_, rfl, hv, hst, hgr⟩
 | er a k =>
  have hR : R = .bad a k := hs
  rw [hR]
  exact ⟨_, rfl, ⟨_, hv⟩, hst, hgr⟩
end
/-- What is left behind a for's words. -/
def ForS (R : PR Nd) (d : Nat) (nm : List UInt8) (inn : Bool) (D : List (List UInt8)) (st : DS) : Prop := Sim R d 500 0 (fun Z => (needR wDo (breaksF Z) []).bind fun _ ts ns => .ok { kind := 13, name := nm, inn := inn, words := D } ts ns) st
theorem fors_nil (n tot : Nat) {R : PR Nd} {d : Nat} {C : List Tok → PR Nd} {t : Tok} {r : List Tok} (h : R = wrongR (t :: r)) : Sim R d n tot C (wrongD (.ok (t :: r) d)) := h
set_option maxHeartbeats 16000000 in
theorem dfors_any (rb : Nat) (T ts : List Tok) (d : Nat) (w : World) (h : DIs w rb T (.ok ts d)) :
  Calls Try.prog 86 #[.pointer (some ⟨rb, 0, none⟩)] w (DPost (vFd w) (bFd w) rb T d w (forsF ts [])) := by
 have Hx := hide (fun W st (hW : DIs W rb T st) => dwrong_any rb T st W hW)
 have HNd := hide (fun W st s (hW : DIs W rb T st) => dneed_any rb T st s W hW)
 have HBk := hide (fun W st (hW : DIs W rb T st) => dbreaks_any rb T st W hW)
 have HWd := hide (fun W st s (hW : DIs W rb T st) => dword_any rb T st s W hW)
 have HSg := hide (fun W st s (hW : DIs W rb T st) => dsign_any rb T st s W hW)
 have HN := hide (fun s W h => dname_any s W h)
 unfold Qb sv at HWd HSg
 unfold Qu at Hx HNd HBk
 unfold sv at HNd HN
 have HGD := hide h.good
 have HAT := hide (ForD.start h)
 obtain ⟨R, hR⟩ : ∃ R, forsF ts [] = R := ⟨_, rfl⟩
 have HR := hide hR
 rw [hR]
 clear hR h
 obtain ⟨t, r, rfl⟩ := HGD.out.1.ne
 go_enter Try.func86, Try.ntmps86
 go_upto_region 2 with (fail)
 generalize (w.alloc (.cells #[.int .i64 0, .string ⟨#[]⟩, .bool false, .slice none 0 0, .slice none 0 0, .slice none 0 0, .slice none 0 0, .slice none 0 0] 33)).alloc (.cells #[.int .i64 13, .string ⟨#[]⟩, .bool false, .slice none 0 0, .slice none 0 0, .slice none 0 0, .slice none 0 0, .slice none 0 0] 33) = W0 at HAT ⊢
 generalize w.heap.size + 1 = B at HAT ⊢
 generalize w.heap.size = A at HAT ⊢
 obtain ⟨vt, a, f, h, hd, hdd⟩ := HAT.out.st
 obtain ⟨c0, c1, c2, c3, c4⟩ := h.cells
 obtain ⟨g, off, cap, t9, r9, rfl, hc, hg, hd2, t0, t1, t2⟩ := h.tok_
 have lb := h.lb
 have hlt := h.lt
 have hib : (0 : Int) ≤ (a : Int) ∧ (a : Int) < ((T.length : Nat) : Int) := by omega
 have hTl := h.tg.len
 obtain ⟨LT, hL⟩ : ∃ LT, T.length = LT := ⟨_, rfl⟩
 have hAL : (a : Int) ≤ 500 := by omega
 have HDA := hide h
 have HDD := hide (And.intro hd hdd)
 have hZ := hd.symm.trans hd2
 injection hZ with hZ1 hZ2
 subst hZ1 hZ2
 rw [hL] at c0 hib hc hTl
 have z1 := Blk.frozen h.blk 1
 clear h hd hdd hd2 hL hlt
 have HTX := hide (HGD.out.2.2.1 t (List.mem_cons_self ..)).1
 have HR1 := hide (show R = if namedB t = true then (if isB (breaksF r) wIn = true then (if (isB (wordsR (breaksF r).tail) sSemi || isB (wordsR (breaksF r).tail) sLf) = true then (needR wDo (breaksF (wordsR (breaksF r).tail).tail) []).bind fun _ ts ns => .ok { kind := 13, name := t.t, inn := true, words := wordsT (breaksF r).tail } ts ns else wrongR (wordsR (breaksF r).tail)) else (needR wDo (breaksF (takeT (breaksF r) sSemi)) []).bind fun _ ts ns => .ok { kind := 13, name := t.t } ts ns) else wrongR (t :: r) from HR.out.symm)
 obtain ⟨tk, tt, ta⟩ := t
 simp only [] at t0 t1 t2 HTX HR1
 have Hk : Hid (∀ X : World, W0.grownBy X none → (X.cell? ⟨rb, 0, none⟩ = some (.slice (some ⟨g, off, none⟩) LT cap) ∧ X.cell? ⟨rb, 1, none⟩ = some (.int .i64 a) ∧ X.cell? ⟨g, off + a * 3, none⟩ = some (.int .i64 tk) ∧ X.cell? ⟨g, off + a * 3 + 1, none⟩ = some (.string ⟨tt.toArray⟩) ∧ X.cell? ⟨g, off + a * 3 + 2, none⟩ = some (.int .i64 ta))) :=
  hide (fun X hw => ⟨old_cell hw lb c0, old_cell hw lb c1, old_cell hw hg t0, old_cell hw hg t1, old_cell hw hg t2⟩)
 go_region_held3 (fun X => X.cell? ⟨rb, 0, none⟩ = some (.slice (some ⟨g, off, none⟩) LT cap) ∧ X.cell? ⟨rb, 1, none⟩ = some (.int .i64 a) ∧ X.cell? ⟨g, off + a * 3, none⟩ = some (.int .i64 tk) ∧ X.cell? ⟨g, off + a * 3 + 1, none⟩ = some (.string ⟨tt.toArray⟩) ∧ X.cell? ⟨g, off + a * 3 + 2, none⟩ = some (.int .i64 ta))
  (first | go_keep | exact Hk.out _ (by repeat' (first | (with_reducible exact only_refl _ _) | (with_reducible refine none_setCell ?_ ?_ _) | (with_reducible refine none_trans ?_ hg) | (with_reducible refine only_drew ?_) | (with_reducible refine only_alloc ?_ _) | omega | (simp; done))))
  (fail)
 have hg3 := only_drew (only_alloc (only_refl W0 none) (.cells #[.int .i64 tk, .string ⟨tt.toArray⟩, .int .i64 ta] 41))
 have HB4 := hide (show Blk (W0.alloc (.cells #[.int .i64 tk, .string ⟨tt.toArray⟩, .int .i64 ta] 41)).drew W0.heap.size 41 #[.int .i64 tk, .string ⟨tt.toArray⟩, .int .i64 ta] from Blk.new W0 41 _)
 have HA3 := hide (HAT.out.grown hg3)
 have e3 := old_cell hg3 lb c3
 have le := Nat.lt_of_lt_of_le lb hg3.size
 generalize (W0.alloc (.cells #[.int .i64 tk, .string ⟨tt.toArray⟩, .int .i64 ta] 41)).drew = W3, W0.heap.size = B4 at HB4 HA3 e3 le ⊢
 clear Hk hg3
 clear c0 c1 c2 c3 c4 t0 t1 t2 hg lb hib hTl hAL hc z1
 have x0 : W3.cell? ⟨B4, 0, none⟩ = some (.int .i64 tk) := Blk.cell HB4.out 0
 have x1 : W3.cell? ⟨B4, 1, none⟩ = some (.string ⟨tt.toArray⟩) := Blk.cell HB4.out 1
 have lx := Blk.lt HB4.out
 obtain ⟨sb, hsb⟩ : ∃ sb, (!namedB ⟨tk, tt, ta⟩) = sb := ⟨_, rfl⟩
 have HSB := hide hsb
 go_upto_region 3 with (fail)
 go_cut [37] (fun v37 wx => v37 = .bool sb ∧ W3.grownBy wx none)
 case first =>
  by_cases k1 : tk = 1
  ·subst k1
   have h1 := sz tt
   have Hn := hide (fun W => HN.out tt W (by have := HTX.out; omega))
   have hsv : sb = !(nameF tt == tt.length) := by rw [← hsb]; rfl
   obtain ⟨k9, hk9⟩ : ∃ k, nameF tt = k := ⟨_, rfl⟩
   rw [hk9] at Hn hsv
   obtain ⟨q9, hq9⟩ : ∃ q, ((k9 : Int) != (tt.length : Int)) = q := ⟨_, rfl⟩
   have HSV := hide (show sb = q9 by
    rw [hsv, ← hq9]
    by_cases e : k9 = tt.length
    ·rw [e]; simp
    ·rw [show (k9 == tt.length) = false from beq_eq_false_iff_ne.2 e, show ((k9 : Int) != (tt.length : Int)) = true from by rw [bne_iff_ne]; omega]; rfl)
   clear hsb hsv hk9
   go_wp2_with fail
   go_quiet ((go_at_call 68; exact Calls.quiet_of_same (Hn.out _)))
   go_wp2_with fail
   go_meet
   exact ⟨by rw [HSV.out], only_drewN (only_refl W3 none) _⟩
  ·have qk : ((tk : Int) != 1) = true := by rw [bne_iff_ne]; omega
   have hsv : sb = true := by rw [← hsb]; unfold namedB; rw [show (tk == 1) = false from beq_eq_false_iff_ne.2 k1]; rfl
   have HSV := hide hsv
   clear hsb hsv
   go_wp2_with fail
   go_quiet (fail)
   go_wp2_with fail
   go_meet
   exact ⟨by rw [HSV.out], only_drewN (only_refl W3 none) _⟩
 case rest =>
  obtain ⟨rfl, hg5⟩ := hcut
  have HB5 := hide (Blk.grown HB4.out hg5 (by simp))
  have HA5 := hide (HA3.out.grown hg5)
  clear hg5 hsb x0 x1 lx e3 le
  cases sb with
  | true =>
   have HS := hide (fors_nil (d := d) 500 0 (C := fun Z => .ok { kind := 13, name := [], inn := false, words := [] } Z []) (show R = wrongR (⟨tk, tt, ta⟩ :: r) from HR1.out.trans (if_neg (by have := HSB.out; rw [Bool.not_eq_true'] at this; rw [this]; decide))))
   go_wp2_with fail
   refine (Hx.out wc _ HA5.out.st).mono ?_
   rintro e w6 ⟨rfl, h6, g6⟩
   have HA6 := hide (HA5.out.step g6 h6)
   clear h6 g6
   obtain ⟨x0, x1, x2, x3, x4, x5, x6, x7, lB⟩ := box8 HA6.out.box
   obtain ⟨y0, y1, y2, y3, y4, y5, y6, y7, lA⟩ := box8 HA6.out.res
   have zA0 := Blk.frozen HA6.out.res 0
   have zA1 := Blk.frozen HA6.out.res 1
   have zA2 := Blk.frozen HA6.out.res 2
   have zA3 := Blk.frozen HA6.out.res 3
   have zA4 := Blk.frozen HA6.out.res 4
   have zA5 := Blk.frozen HA6.out.res 5
   have zA6 := Blk.frozen HA6.out.res 6
   have zA7 := Blk.frozen HA6.out.res 7
   have HZW := hide (ForD.fin HA6.out HS.out)
   obtain ⟨hz3, hz4⟩ := HZW.out
   unfold put8 at hz3 hz4
   clear HZW
   go_wp2_with fail
   generalize ((((((((w6.setCell ⟨A, 0, none⟩ (.int .i64 13)).setCell ⟨A, 1, none⟩ (.string ⟨#[]⟩)).setCell ⟨A, 2, none⟩ (.bool false)).setCell ⟨A, 3, none⟩ (.slice none 0 0)).setCell ⟨A, 4, none⟩ (.slice none 0 0)).setCell ⟨A, 5, none⟩ (.slice none 0 0)).setCell ⟨A, 6, none⟩ (.slice none 0 0)).setCell ⟨A, 7, none⟩ (.slice none 0 0)) = W8 at hz3 hz4 ⊢
   obtain ⟨p0, p1, p2, p3, p4, p5, p6, p7, lP⟩ := box8 hz3
   refine bodyPost_ret (v := .agg #[.int .i64 13, .string ⟨#[]⟩, .bool false, .slice none 0 0, .slice none 0 0, .slice none 0 0, .slice none 0 0, .slice none 0 0]) (by simp [results, Try.results86, go_sem, p0, p1, p2, p3, p4, p5, p6, p7]) rfl ?_
   exact hz4
  | false =>
   have hnm : namedB ⟨tk, tt, ta⟩ = true := by have := HSB.out; rwa [Bool.not_eq_false'] at this
   have HK1 := hide (show tk = 1 by unfold namedB at hnm; rw [Bool.and_eq_true] at hnm; exact eq_of_beq hnm.1)
   have HR2 := hide (HR1.out.trans (if_pos hnm))
   clear hnm
   have x1 : wc.cell? ⟨B4, 1, none⟩ = some (.string ⟨tt.toArray⟩) := Blk.cell HB5.out 1
   have lx := Blk.lt HB5.out
   have lB := Blk.lt HA5.out.box
   have zB := Blk.frozen HA5.out.box 1
   have y1 : wc.cell? ⟨B, 1, none⟩ = some (.string ⟨#[]⟩) := Blk.cell HA5.out.box 1
   have HA6 := hide (HA5.out.setNm tt)
   go_upto_region 7 with (fail)
   generalize wc.setCell ⟨B, 1, none⟩ (.string ⟨tt.toArray⟩) = W6 at HA6 ⊢
   clear x1 lx lB zB y1
   obtain ⟨vt, a, f, h, hd, hdd⟩ := HA6.out.st
   obtain ⟨c0, c1, c2, c3, c4⟩ := h.cells
   obtain ⟨g, off, cap, t9, r9, rfl, hc, hg, hd2, t0, t1, t2⟩ := h.tok_
   have lb := h.lb
   have hlt := h.lt
   have hib : (0 : Int) ≤ (a : Int) ∧ (a : Int) < ((T.length : Nat) : Int) := by omega
   have hTl := h.tg.len
   obtain ⟨LT, hL⟩ : ∃ LT, T.length = LT := ⟨_, rfl⟩
   have hAL : (a : Int) ≤ 500 := by omega
   have HDA := hide h
   have HDD := hide (And.intro hd hdd)
   have hZ := hd.symm.trans hd2
   injection hZ with hZ1 hZ2
   subst hZ1 hZ2
   rw [hL] at c0 hib hc hTl
   have z1 := Blk.frozen h.blk 1
   clear h hd hdd hd2 hL hlt
   have hnx := DIs.next HDA.out HDD.out.1 HDD.out.2 rfl (show tk ≠ 4 by rw [HK1.out]; decide)
   have HA7 := hide (HA6.out.step (only_setCell (only_refl W6 (some rb)) (p := ⟨rb, 1, none⟩) (.inl rfl) (.int .i64 ((a : Int) + 1))) hnx)
   clear hnx
   go_upto_region 8 with (fail)
   generalize W6.setCell ⟨rb, 1, none⟩ (.int .i64 ((a : Int) + 1)) = W7 at HA7 ⊢
   clear c0 c1 c2 c3 c4 t0 t1 t2 hg lb hib hTl hAL hc z1
   have HQ := hide (HBk.out W7 _ HA7.out.st)
   unfold breaksD at HQ
   simp only [] at HQ
   obtain ⟨r2, hr2⟩ : ∃ r2, breaksF r = r2 := ⟨_, rfl⟩
   rw [hr2] at HQ HR2
   clear hr2
   go_wp2_with fail
   refine HQ.out.mono ?_
   rintro e w8 ⟨rfl, h8, g8⟩
   have HA8 := hide (HA7.out.step g8 h8)
   have HQ9 := hide (HWd.out w8 _ wIn HA8.out.st)
   have hwl := HA8.out.st.good.2.1
   have HEQ := hide (show wrdD (.ok r2 d) wIn = isB r2 wIn from (hwl.wrd fiW_no.2.2.2.2.2.2.2.1).symm)
   obtain ⟨bi, hbi⟩ : ∃ bi, isB r2 wIn = bi := ⟨_, rfl⟩
   rw [HEQ.out, hbi] at HQ9
   rw [hbi] at HR2
   have HBI := hide hbi
   unfold wIn at HQ9
   clear h8 g8 hbi hwl
   go_wp2_with fail
   refine HQ9.out.mono ?_
   rintro e w9 ⟨rfl, g9⟩
   have HA9 := hide (HA8.out.grown g9)
   clear g9
   have lB := Blk.lt HA9.out.box
   have zB := Blk.frozen HA9.out.box 2
   have y2 : w9.cell? ⟨B, 2, none⟩ = some (.bool false) := Blk.cell HA9.out.box 2
   have HA10 := hide (HA9.out.setIn bi)
   go_upto_region 10 with (fail)
   generalize w9.setCell ⟨B, 2, none⟩ (.bool bi) = W10 at HA10 ⊢
   clear lB zB y2
   have x2 : W10.cell? ⟨B, 2, none⟩ = some (.bool bi) := Blk.cell HA10.out.box 2
   have lB := Blk.lt HA10.out.box
   go_upto_if 57 with (fail)
   clear x2 lB
   go_cut [] (fun wx => ∃ (inn : Bool) (D : List (List UInt8)) (b : Value) (st : DS), ForD w wx rb T st A B tt inn D b ∧ ForS R d tt inn D st)
   case rest =>
    obtain ⟨inn, D, b, st, hA, hS⟩ := hcut
    obtain ⟨b1, b3, rfl, _, _⟩ := Own.form hA.words
    have HA := hide hA
    have HQb := hide (HBk.out wc st HA.out.st)
    have HS1 := hide (Sim.breaks (R := R) (d := d) (n := 500) (tot := 0) (C := fun Z => (needR wDo Z []).bind fun _ ts ns => PR.ok ({ kind := 13, name := tt, inn := inn, words := D } : Nd) ts ns) hS)
    clear hA hS
    go_wp2_with fail
    refine HQb.out.mono ?_
    rintro e w11 ⟨rfl, h11, g11⟩
    have HA11 := hide (HA.out.step g11 h11)
    have HQn := hide (HNd.out w11 _ wDo HA11.out.st)
    have HS2 := hide (show Sim R d 500 0 (fun Z => .ok { kind := 13, name := tt, inn := inn, words := D } Z []) (needD wDo (breaksD st)) from Sim.need HS1.out)
    unfold wDo at HQn HS2
    obtain ⟨st2, hst2⟩ : ∃ s, needD [100, 111] (breaksD st) = s := ⟨_, rfl⟩
    rw [hst2] at HQn HS2
    clear h11 g11 hst2
    go_wp2_with fail
    refine HQn.out.mono ?_
    rintro e w12 ⟨rfl, h12, g12⟩
    have HA12 := hide (HA11.out.step g12 h12)
    clear h12 g12
    obtain ⟨x0, x1, x2, x3, x4, x5, x6, x7, lB⟩ := box8 HA12.out.box
    obtain ⟨y0, y1, y2, y3, y4, y5, y6, y7, lA⟩ := box8 HA12.out.res
    have zA0 := Blk.frozen HA12.out.res 0
    have zA1 := Blk.frozen HA12.out.res 1
    have zA2 := Blk.frozen HA12.out.res 2
    have zA3 := Blk.frozen HA12.out.res 3
    have zA4 := Blk.frozen HA12.out.res 4
    have zA5 := Blk.frozen HA12.out.res 5
    have zA6 := Blk.frozen HA12.out.res 6
    have zA7 := Blk.frozen HA12.out.res 7
    have HZW := hide (ForD.fin HA12.out HS2.out)
    obtain ⟨hz3, hz4⟩ := HZW.out
    unfold put8 at hz3 hz4
    clear HZW
    go_wp2_with fail
    generalize ((((((((w12.setCell ⟨A, 0, none⟩ (.int .i64 13)).setCell ⟨A, 1, none⟩ (.string ⟨tt.toArray⟩)).setCell ⟨A, 2, none⟩ (.bool inn)).setCell ⟨A, 3, none⟩ (.slice none 0 0)).setCell ⟨A, 4, none⟩ (.slice b1 D.length b3)).setCell ⟨A, 5, none⟩ (.slice none 0 0)).setCell ⟨A, 6, none⟩ (.slice none 0 0)).setCell ⟨A, 7, none⟩ (.slice none 0 0)) = W8 at hz3 hz4 ⊢
    obtain ⟨p0, p1, p2, p3, p4, p5, p6, p7, lP⟩ := box8 hz3
    refine bodyPost_ret (v := .agg #[.int .i64 13, .string ⟨tt.toArray⟩, .bool inn, .slice none 0 0, .slice b1 D.length b3, .slice none 0 0, .slice none 0 0, .slice none 0 0]) (by simp [results, Try.results86, go_sem, p0, p1, p2, p3, p4, p5, p6, p7]) rfl ?_
    exact hz4
   case first =>
    cases bi with
    | false =>
     have HGo := hide HA10.out.st.good
     have HEs := hide (show sgnD (.ok r2 d) sSemi = isB r2 sSemi from (HGo.out.2.1.sgn (by decide)).symm)
     have HQs := hide (HSg.out W10 _ sSemi HA10.out.st)
     obtain ⟨bs, hbs⟩ : ∃ b, isB r2 sSemi = b := ⟨_, rfl⟩
     rw [HEs.out, hbs] at HQs
     unfold sSemi at HQs
     have HBS := hide hbs
     clear hbs
     have HR3 := hide (show R = (needR wDo (breaksF (takeT r2 sSemi)) []).bind fun _ ts ns => .ok { kind := 13, name := tt } ts ns from HR2.out)
     go_wp2_with fail
     refine HQs.out.mono ?_
     rintro e w11 ⟨rfl, g11⟩
     have HA11 := hide (HA10.out.grown g11)
     clear g11
     cases bs with
     | false =>
      go_wp2_with fail
      go_meet
      exact ⟨false, [], _, _, HA11.out, rfl, by rw [HR3.out, show takeT r2 sSemi = r2 from if_neg (by rw [HBS.out]; decide)], by have := HGo.out.2.2.2.1; omega, HGo.out.2.2.2.1, HGo.out.1, HGo.out.2.1⟩
     | true =>
      obtain ⟨tz, r3, hr3⟩ := HGo.out.1.ne
      subst hr3
      have HK2 := hide (is_k HBS.out).1
      have HGr := hide (HGo.out.1.tail HK2.out)
      obtain ⟨vt, a, f, h, hd, hdd⟩ := HA11.out.st
      obtain ⟨c0, c1, c2, c3, c4⟩ := h.cells
      obtain ⟨g, off, cap, t9, r9, rfl, hc, hg, hd2, t0, t1, t2⟩ := h.tok_
      have lb := h.lb
      have hlt := h.lt
      have hib : (0 : Int) ≤ (a : Int) ∧ (a : Int) < ((T.length : Nat) : Int) := by omega
      have hTl := h.tg.len
      obtain ⟨LT, hL⟩ : ∃ LT, T.length = LT := ⟨_, rfl⟩
      have hAL : (a : Int) ≤ 500 := by omega
      have HDA := hide h
      have HDD := hide (And.intro hd hdd)
      have hZ := hd.symm.trans hd2
      injection hZ with hZ1 hZ2
      subst hZ1 hZ2
      rw [hL] at c0 hib hc hTl
      have z1 := Blk.frozen h.blk 1
      clear h hd hdd hd2 hL hlt
      have hnx := DIs.next HDA.out HDD.out.1 HDD.out.2 rfl HK2.out
      have HA12 := hide (HA11.out.step (only_setCell (only_refl w11 (some rb)) (p := ⟨rb, 1, none⟩) (.inl rfl) (.int .i64 ((a : Int) + 1))) hnx)
      clear hnx
      go_wp2_with fail
      go_meet
      exact ⟨false, [], _, _, HA12.out, rfl, by rw [HR3.out, show takeT (tz :: r3) sSemi = r3 from if_pos HBS.out], by have := HGo.out.2.2.2.1; simp only [List.length_cons] at this; omega, by have := HGo.out.2.2.2.1; simp only [List.length_cons] at this; omega, HGr.out, HGo.out.2.1.tail⟩
    | true =>
     have HGo := hide HA10.out.st.good
     obtain ⟨tz, r3, hr3⟩ := HGo.out.1.ne
     subst hr3
     have HK2 := hide (is_k HBI.out).1
     have HGr := hide (And.intro (HGo.out.1.tail HK2.out) (HGo.out.2.1.tail))
     have HL3 := hide (show r3.length ≤ 500 by have := HGo.out.2.2.2.1; simp only [List.length_cons] at this; omega)
     have HR3 := hide (show R = (if (isB (wordsR r3) sSemi || isB (wordsR r3) sLf) = true then (needR wDo (breaksF (wordsR r3).tail) []).bind fun _ ts ns => .ok { kind := 13, name := tt, inn := true, words := wordsT r3 } ts ns else wrongR (wordsR r3)) from HR2.out)
     obtain ⟨vt, a, f, h, hd, hdd⟩ := HA10.out.st
     obtain ⟨c0, c1, c2, c3, c4⟩ := h.cells
     obtain ⟨g, off, cap, t9, r9, rfl, hc, hg, hd2, t0, t1, t2⟩ := h.tok_
     have lb := h.lb
     have hlt := h.lt
     have hib : (0 : Int) ≤ (a : Int) ∧ (a : Int) < ((T.length : Nat) : Int) := by omega
     have hTl := h.tg.len
     obtain ⟨LT, hL⟩ : ∃ LT, T.length = LT := ⟨_, rfl⟩
     have hAL : (a : Int) ≤ 500 := by omega
     have HDA := hide h
     have HDD := hide (And.intro hd hdd)
     have hZ := hd.symm.trans hd2
     injection hZ with hZ1 hZ2
     subst hZ1 hZ2
     rw [hL] at c0 hib hc hTl
     have z1 := Blk.frozen h.blk 1
     clear h hd hdd hd2 hL hlt
     have hnx := DIs.next HDA.out HDD.out.1 HDD.out.2 rfl HK2.out
     have HA12 := hide (HA10.out.step (only_setCell (only_refl W10 (some rb)) (p := ⟨rb, 1, none⟩) (.inl rfl) (.int .i64 ((a : Int) + 1))) hnx)
     clear hnx
     go_upto_block 0 with (fail)
     generalize W10.setCell ⟨rb, 1, none⟩ (.int .i64 ((a : Int) + 1)) = W12 at HA12 ⊢
     clear c0 c1 c2 c3 c4 t0 t1 t2 hg lb hib hTl hAL hc z1
     obtain ⟨WT, hWT⟩ : ∃ WT, wordsT r3 = WT := ⟨_, rfl⟩
     obtain ⟨WR, hWR⟩ : ∃ WR, wordsR r3 = WR := ⟨_, rfl⟩
     have HWT := hide hWT
     have HWR2 := hide hWR
     rw [hWT, hWR] at HR3
     clear hWT hWR
     go_wp2_with fail
     go_loopg [] r3.length (fun g wr => ∃ (D : List (List UInt8)) (Z : List Tok) (b : Value), D ++ wordsT Z = WT ∧ wordsR Z = WR ∧ Z.length ≤ g ∧ D.length + Z.length ≤ r3.length ∧ ForD w wr rb T (.ok Z d) A B tt true D b)
     case atStart => exact ⟨[], r3, _, HWT.out, HWR2.out, Nat.le_refl _, by simp, HA12.out⟩
     case round =>
      obtain ⟨D, Z, b, hD, hT, hg9, hl9, hK⟩ := hrel
      have HD := hide hD
      have HTT := hide hT
      have HLG := hide (And.intro hg9 hl9)
      have HK := hide hK
      obtain ⟨t7, r7, rfl⟩ := hK.st.good.1.ne
      obtain ⟨b1, b3, rfl, _, _⟩ := Own.form hK.words
      obtain ⟨wk, hwk⟩ : ∃ x, x = wr := ⟨_, rfl⟩
      subst hwk
      clear hD hT hg9 hl9 hK
      obtain ⟨tk7, tt7, ta7⟩ := t7
      obtain ⟨vt, a, f, h, hd, hdd⟩ := HK.out.st
      obtain ⟨c0, c1, c2, c3, c4⟩ := h.cells
      obtain ⟨g, off, cap, t9, r9, rfl, hc, hg, hd2, t0, t1, t2⟩ := h.tok_
      have lb := h.lb
      have hlt := h.lt
      have hib : (0 : Int) ≤ (a : Int) ∧ (a : Int) < ((T.length : Nat) : Int) := by omega
      have hTl := h.tg.len
      obtain ⟨LT, hL⟩ : ∃ LT, T.length = LT := ⟨_, rfl⟩
      have hAL : (a : Int) ≤ 500 := by omega
      have HDA := hide h
      have HDD := hide (And.intro hd hdd)
      have hZ := hd.symm.trans hd2
      injection hZ with hZ1 hZ2
      subst hZ1 hZ2
      rw [hL] at c0 hib hc hTl
      have z1 := Blk.frozen h.blk 1
      clear h hd hdd hd2 hL hlt
      simp only [] at t0 t1 t2
      go_upto_region 12 with (fail)
      go_cut [83] (fun v83 wx => v83 = .bool (tk7 == 1) ∧ wk.grownBy wx none)
      case first =>
       by_cases k7 : tk7 = 1
       ·subst k7
        go_wp2_with fail
        go_quiet (fail)
        go_wp2_with fail
        go_meet
        exact ⟨rfl, only_drewN (only_refl wk none) nq⟩
       ·have qk : ((tk7 : Int) == 1) = false := by rw [beq_eq_false_iff_ne]; omega
        have QK := hide (show (tk7 == 1) = false from beq_eq_false_iff_ne.2 k7)
        go_wp2_with fail
        go_quiet (fail)
        go_wp2_with fail
        go_meet
        exact ⟨by rw [QK.out], only_drewN (only_refl wk none) nq⟩
      case rest =>
       obtain ⟨rfl, hg7⟩ := hcut
       have HK7 := hide (HK.out.grown hg7)
       have HDA7 := hide (HDA.out.grown hg7)
       by_cases k7 : tk7 = 1
       ·subst k7
        have hDn : (D ++ [tt7]) ++ wordsT r7 = WT := by rw [← HD.out]; simp [wordsT]
        have HDn := hide hDn
        have HTn := hide (show wordsR r7 = WR by rw [← HTT.out]; simp [wordsR])
        have j0 := old_cell hg7 lb c0
        have j1 := old_cell hg7 lb c1
        have j2 := old_cell hg7 hg t1
        have x4 : wc.cell? ⟨B, 4, none⟩ = some (.slice b1 D.length b3) := Blk.cell HK7.out.box 4
        have lB := Blk.lt HK7.out.box
        have lb7 := HDA7.out.lb
        have hg77 := Nat.lt_of_lt_of_le hg hg7.size
        have HOLD := hide (HDA.out.old g rfl)
        have hrbl := HK.out.rbl
        clear hg7 c0 c1 c2 c3 c4 t0 t1 t2 lb hg z1 hDn
        go_upto_region 13 with (fail)
        refine wp_region_perm [0, 1, 2, 3, 4, 5, 6, 7, 8, 9, 10, 11, 12] [13, 14, 15, 16] (by kernel_rfl) (by kernel_rfl) (fun X => X.cell? ⟨rb, 0, none⟩ = some (.slice (some ⟨g, off, none⟩) LT cap) ∧ X.cell? ⟨rb, 1, none⟩ = some (.int .i64 a) ∧ X.cell? ⟨g, off + a * 3 + 1, none⟩ = some (.string ⟨tt7.toArray⟩) ∧ X.cell? ⟨B, 4, none⟩ = some (.slice b1 D.length b3)) ⟨j0, j1, j2, x4⟩ ?_
        simp only [pick, List.getElem?_cons_zero, List.getElem?_cons_succ]
        refine wpTake_cons ?_ (by rfl) ?_ ?_
        rotate_left
        ·(intro W9 hSW; obtain ⟨i0, i1, i2, i4⟩ := hSW; go_simp; try with_reducible rfl)
        simp only [Act.put, List.setIfInBounds_toArray, List.set_cons_zero, List.set_cons_succ]
        refine wpTake_cons ?_ (by rfl) ?_ ?_
        rotate_left
        ·(intro W9 hSW; obtain ⟨i0, i1, i2, i4⟩ := hSW; go_simp; try with_reducible rfl)
        simp only [Act.put, List.setIfInBounds_toArray, List.set_cons_zero, List.set_cons_succ]
        refine wpTake_cons ?_ (by rfl) ?_ ?_
        rotate_left
        ·(intro W9 hSW; obtain ⟨i0, i1, i2, i4⟩ := hSW; go_simp; try with_reducible rfl)
        simp only [Act.put, List.setIfInBounds_toArray, List.set_cons_zero, List.set_cons_succ]
        refine wpTake_cons ?_ (by rfl) ?_ ?_
        rotate_left
        ·(intro W9 hSW; obtain ⟨i0, i1, i2, i4⟩ := hSW; go_simp; try with_reducible rfl)
        simp only [Act.put, List.setIfInBounds_toArray, List.set_cons_zero, List.set_cons_succ]
        refine wpTake_cons ?_ (by rfl) ?_ ?_
        rotate_left
        ·(intro W9 hSW; obtain ⟨i0, i1, i2, i4⟩ := hSW; go_simp; try with_reducible rfl)
        simp only [Act.put, List.setIfInBounds_toArray, List.set_cons_zero, List.set_cons_succ]
        refine wpTake_cons ?_ (by rfl) ?_ ?_
        rotate_left
        ·(intro W9 hSW; obtain ⟨i0, i1, i2, i4⟩ := hSW; go_simp; try with_reducible rfl)
        simp only [Act.put, List.setIfInBounds_toArray, List.set_cons_zero, List.set_cons_succ]
        refine wpTake_cons ?_ (by rfl) ?_ ?_
        rotate_left
        ·(intro W9 hSW; obtain ⟨i0, i1, i2, i4⟩ := hSW; go_simp; try with_reducible rfl)
        simp only [Act.put, List.setIfInBounds_toArray, List.set_cons_zero, List.set_cons_succ]
        refine wpTake_cons ?_ (by rfl) ?_ ?_
        rotate_left
        ·(intro W9 hSW; obtain ⟨i0, i1, i2, i4⟩ := hSW; go_simp; try with_reducible rfl)
        simp only [Act.put, List.setIfInBounds_toArray, List.set_cons_zero, List.set_cons_succ]
        refine wpTake_cons ?_ (by rfl) ?_ ?_
        rotate_left
        ·(intro W9 hSW; obtain ⟨i0, i1, i2, i4⟩ := hSW; go_simp; try with_reducible rfl)
        simp only [Act.put, List.setIfInBounds_toArray, List.set_cons_zero, List.set_cons_succ]
        refine wpTake_cons ?_ (by rfl) ?_ ?_
        rotate_left
        ·(intro W9 hSW; obtain ⟨i0, i1, i2, i4⟩ := hSW; go_simp; try with_reducible rfl)
        simp only [Act.put, List.setIfInBounds_toArray, List.set_cons_zero, List.set_cons_succ]
        refine wpTake_cons ?_ (by rfl) ?_ ?_
        rotate_left
        ·(intro W9 hSW; obtain ⟨i0, i1, i2, i4⟩ := hSW; go_simp; try with_reducible rfl)
        simp only [Act.put, List.setIfInBounds_toArray, List.set_cons_zero, List.set_cons_succ]
        refine wpTake_cons ?_ (by rfl) ?_ ?_
        rotate_left
        ·(intro W9 hSW; obtain ⟨i0, i1, i2, i4⟩ := hSW; go_simp; try with_reducible rfl)
        simp only [Act.put, List.setIfInBounds_toArray, List.set_cons_zero, List.set_cons_succ]
        refine wpTake_cons ?_ (by rfl) ?_ ?_
        rotate_left
        ·(intro W9 hSW; obtain ⟨i0, i1, i2, i4⟩ := hSW; go_simp; try with_reducible rfl)
        simp only [Act.put, List.setIfInBounds_toArray, List.set_cons_zero, List.set_cons_succ]
        refine wpTake_nil ?_
        refine wpForce_cons fun K1 hK1 => ?_
        refine step_val (.slice (some ⟨wc.heap.size, 0, none⟩) 1 1) (wc.drew.alloc (.cells #[.string ⟨tt7.toArray⟩] 9)) (by rfl) (by go_simp) ?_
        have hgA := only_alloc (only_drew (only_refl wc none)) (.cells #[.string ⟨tt7.toArray⟩] 9)
        refine hK1.out _ _ ⟨old_cell hgA lb7 j0, old_cell hgA lb7 j1, old_cell hgA hg77 j2, old_cell hgA lB x4⟩ ?_
        simp only [Act.put, List.setIfInBounds_toArray, List.set_cons_zero, List.set_cons_succ]
        refine wpForce_cons fun K2 hK2 => ?_
        have hKd := HK7.out.grown (only_drew (only_refl wc none))
        refine step_appAt (by rfl) (.tmp 85) (.tmp 97) 28 28 (by rfl) 9 (.string ⟨#[]⟩) 1 16 Try.underlying28 infoStr rfl (.slice b1 D.length b3) D.length (D.map sv) 0 _ 1 [sv tt7] (by rfl) (by rfl) (Own.alloc hKd.words _) (by omega) (srcS _ _ tt7 rfl) (by have := HLG.out; have := HL3.out; unfold maxLen; omega) (by have := HLG.out; have := HL3.out; omega) ?_
        intro vA wA ho hc7 hn _
        obtain ⟨fa, ca, rfl, _, _⟩ := Own.form ho
        have hbA := (hKd.boxA _ hc7).1
        have x4A : wA.cell? ⟨B, 4, none⟩ = some (.slice b1 D.length b3) := Blk.cell hbA 4
        have zA := Blk.frozen hbA 4
        have lA := Blk.lt hbA
        have K10 := hide (ForD.app hKd _ ho hc7 hn)
        have hlow : ∀ k, (Value.slice b1 D.length b3).ownBlock = some k → w.heap.size ≤ k := hKd.nb
        have m0 : wA.cell? ⟨rb, 0, none⟩ = some (.slice (some ⟨g, off, none⟩) LT cap) := (Chg.cell hc7 (p := ⟨rb, 0, none⟩) (Nat.lt_of_lt_of_le lb7 hgA.size) (fun e => by have := hlow _ e; simp only [] at this; omega)).trans (old_cell hgA lb7 j0)
        have m1 : wA.cell? ⟨rb, 1, none⟩ = some (.int .i64 a) := (Chg.cell hc7 (p := ⟨rb, 1, none⟩) (Nat.lt_of_lt_of_le lb7 hgA.size) (fun e => by have := hlow _ e; simp only [] at this; omega)).trans (old_cell hgA lb7 j1)
        have m2 : wA.cell? ⟨g, off + a * 3 + 1, none⟩ = some (.string ⟨tt7.toArray⟩) := (Chg.cell hc7 (p := ⟨g, off + a * 3 + 1, none⟩) (Nat.lt_of_lt_of_le hg77 hgA.size) (fun e => by have := hlow _ e; have := HOLD.out; simp only [] at *; omega)).trans (old_cell hgA hg77 j2)
        refine hK2.out _ _ ⟨m0, m1, m2, x4A⟩ ?_
        simp only [Act.put, List.setIfInBounds_toArray, List.set_cons_zero, List.set_cons_succ]
        refine wpForce_cons fun K3 hK3 => ?_
        refine step_val (.pointer (some ⟨B, 4, none⟩)) wA (by rfl) (by go_simp) ?_
        refine hK3.out _ _ ⟨m0, m1, m2, x4A⟩ ?_
        simp only [Act.put, List.setIfInBounds_toArray, List.set_cons_zero, List.set_cons_succ]
        refine wpForce_one ?_
        clear hK1 hK2 hK3 K1 K2 K3 ho hc7 hn hbA hKd hlow m0 m1 m2 x4 lB hgA j0 j1 j2 lb7 hg77 hc hib hTl hAL HDA HDD
        go_wp2_with fail
        refine NoPanic.normal ?_
        generalize wA.setCell ⟨B, 4, none⟩ (.slice fa (D.length + 1) ca) = W13 at K10 ⊢
        clear x4A zA lA
        obtain ⟨vt, a, f, h, hd, hdd⟩ := K10.out.st
        obtain ⟨c0, c1, c2, c3, c4⟩ := h.cells
        obtain ⟨g, off, cap, t9, r9, rfl, hc, hg, hd2, t0, t1, t2⟩ := h.tok_
        have lb := h.lb
        have hlt := h.lt
        have hib : (0 : Int) ≤ (a : Int) ∧ (a : Int) < ((T.length : Nat) : Int) := by omega
        have hTl := h.tg.len
        obtain ⟨LT, hL⟩ : ∃ LT, T.length = LT := ⟨_, rfl⟩
        have hAL : (a : Int) ≤ 500 := by omega
        have HDA := hide h
        have HDD := hide (And.intro hd hdd)
        have hZ := hd.symm.trans hd2
        injection hZ with hZ1 hZ2
        subst hZ2
        clear hZ1
        rw [hL] at c0 hib hc hTl
        have z1 := Blk.frozen h.blk 1
        clear h hd hdd hd2 hL hlt
        have hnx := DIs.next HDA.out HDD.out.1 HDD.out.2 rfl (show (1 : Nat) ≠ 4 by decide)
        have K11 := hide (K10.out.step (only_setCell (only_refl W13 (some rb)) (p := ⟨rb, 1, none⟩) (.inl rfl) (.int .i64 ((a : Int) + 1))) hnx)
        clear hnx
        go_wp2_with fail
        go_roundg (gk - 1)
        case rel => exact ⟨_, r7, _, HDn.out, HTn.out, by have := HLG.out; simp only [List.length_cons] at this; omega, by have := HLG.out; simp only [List.length_cons] at this; rw [List.length_append, List.length_singleton]; omega, K11.out⟩
        case measure => have := HLG.out; simp only [List.length_cons] at this; omega
       ·have qk : (tk7 == 1) = false := beq_eq_false_iff_ne.2 k7
        clear hg7 c0 c1 c2 c3 c4 t0 t1 t2 lb hg z1 hc hib hTl hAL HDA HDD HDA7
        have hD2 : D = WT := by rw [← HD.out]; simp [wordsT, k7]
        have hT2 : ⟨tk7, tt7, ta7⟩ :: r7 = WR := by rw [← HTT.out]; simp [wordsR, k7]
        subst hD2
        rw [← hT2] at HR3
        clear hT2 k7
        have HGo7 := hide HK7.out.st.good
        have HE1 := hide (show sgnD (.ok (⟨tk7, tt7, ta7⟩ :: r7) d) sSemi = isB (⟨tk7, tt7, ta7⟩ :: r7) sSemi from (HGo7.out.2.1.sgn (by decide)).symm)
        have HE2 := hide (show sgnD (.ok (⟨tk7, tt7, ta7⟩ :: r7) d) sLf = isB (⟨tk7, tt7, ta7⟩ :: r7) sLf from (HGo7.out.2.1.sgn (by decide)).symm)
        obtain ⟨s1, hs1⟩ : ∃ s1, isB (⟨tk7, tt7, ta7⟩ :: r7) sSemi = s1 := ⟨_, rfl⟩
        obtain ⟨s2, hs2⟩ : ∃ s2, isB (⟨tk7, tt7, ta7⟩ :: r7) sLf = s2 := ⟨_, rfl⟩
        have HS12 := hide (And.intro hs1 hs2)
        have HQ1 := hide (HSg.out wc _ sSemi HK7.out.st)
        rw [HE1.out, hs1] at HQ1
        unfold sSemi at HQ1
        rw [hs1, hs2] at HR3
        have HQ2 := hide (fun W (hW : DIs W rb T (.ok (⟨tk7, tt7, ta7⟩ :: r7) d)) => HSg.out W _ sLf hW)
        rw [HE2.out, hs2] at HQ2
        unfold sLf at HQ2
        clear hs1 hs2
        go_wp2_with fail
        refine HQ1.out.mono ?_
        rintro e wa ⟨rfl, ga⟩
        have Ka := hide (HK7.out.grown ga)
        clear ga
        go_wp2_with fail
        refine (HQ2.out _ Ka.out.st).mono ?_
        rintro e wb ⟨rfl, gb⟩
        have Kb := hide (Ka.out.grown gb)
        clear gb
        have HOK := hide (fun h : (s1 || s2) = true => (show ∃ t r, (⟨tk7, tt7, ta7⟩ :: r7 : List Tok) = t :: r ∧ t.k ≠ 4 from ⟨_, _, rfl, by
         have hs := HS12.out
         rw [Bool.or_eq_true] at h
         rcases h with h | h
         ·exact (is_k (hs.1.trans h)).1
         ·exact (is_k (hs.2.trans h)).1⟩))
        cases s1 with
        | true =>
         have HK4 := hide (show tk7 ≠ 4 by obtain ⟨t, r, e, h⟩ := HOK.out (by simp); injection e with e1 e2; rw [← e1] at h; exact h)
         have HR4 := hide (show R = (needR wDo (breaksF r7) []).bind fun _ ts ns => .ok { kind := 13, name := tt, inn := true, words := D } ts ns from HR3.out.trans (by simp))
         obtain ⟨vt, a, f, h, hd, hdd⟩ := Kb.out.st
         obtain ⟨c0, c1, c2, c3, c4⟩ := h.cells
         obtain ⟨g, off, cap, t9, r9, rfl, hc, hg, hd2, t0, t1, t2⟩ := h.tok_
         have lb := h.lb
         have hlt := h.lt
         have hib : (0 : Int) ≤ (a : Int) ∧ (a : Int) < ((T.length : Nat) : Int) := by omega
         have hTl := h.tg.len
         obtain ⟨LT, hL⟩ : ∃ LT, T.length = LT := ⟨_, rfl⟩
         have hAL : (a : Int) ≤ 500 := by omega
         have HDA := hide h
         have HDD := hide (And.intro hd hdd)
         have hZ := hd.symm.trans hd2
         injection hZ with hZ1 hZ2
         subst hZ2
         clear hZ1
         rw [hL] at c0 hib hc hTl
         have z1 := Blk.frozen h.blk 1
         clear h hd hdd hd2 hL hlt
         have hnx := DIs.next HDA.out HDD.out.1 HDD.out.2 rfl HK4.out
         have Kc := hide (Kb.out.step (only_setCell (only_refl wb (some rb)) (p := ⟨rb, 1, none⟩) (.inl rfl) (.int .i64 ((a : Int) + 1))) hnx)
         clear hnx
         go_wp2_with fail
         go_meet
         exact ⟨true, D, _, _, Kc.out, rfl, HR4.out, by have := HGo7.out.2.2.2.1; simp only [List.length_cons] at this; omega, by have := HGo7.out.2.2.2.1; simp only [List.length_cons] at this; omega, HGo7.out.1.tail HK4.out, HGo7.out.2.1.tail⟩
        | false =>
         cases s2 with
         | true =>
          have HK4 := hide (show tk7 ≠ 4 by obtain ⟨t, r, e, h⟩ := HOK.out (by simp); injection e with e1 e2; rw [← e1] at h; exact h)
          have HR4 := hide (show R = (needR wDo (breaksF r7) []).bind fun _ ts ns => .ok { kind := 13, name := tt, inn := true, words := D } ts ns from HR3.out.trans (by simp))
          obtain ⟨vt, a, f, h, hd, hdd⟩ := Kb.out.st
          obtain ⟨c0, c1, c2, c3, c4⟩ := h.cells
          obtain ⟨g, off, cap, t9, r9, rfl, hc, hg, hd2, t0, t1, t2⟩ := h.tok_
          have lb := h.lb
          have hlt := h.lt
          have hib : (0 : Int) ≤ (a : Int) ∧ (a : Int) < ((T.length : Nat) : Int) := by omega
          have hTl := h.tg.len
          obtain ⟨LT, hL⟩ : ∃ LT, T.length = LT := ⟨_, rfl⟩
          have hAL : (a : Int) ≤ 500 := by omega
          have HDA := hide h
          have HDD := hide (And.intro hd hdd)
          have hZ := hd.symm.trans hd2
          injection hZ with hZ1 hZ2
          subst hZ2
          clear hZ1
          rw [hL] at c0 hib hc hTl
          have z1 := Blk.frozen h.blk 1
          clear h hd hdd hd2 hL hlt
          have hnx := DIs.next HDA.out HDD.out.1 HDD.out.2 rfl HK4.out
          have Kc := hide (Kb.out.step (only_setCell (only_refl wb (some rb)) (p := ⟨rb, 1, none⟩) (.inl rfl) (.int .i64 ((a : Int) + 1))) hnx)
          clear hnx
          go_wp2_with fail
          go_meet
          exact ⟨true, D, _, _, Kc.out, rfl, HR4.out, by have := HGo7.out.2.2.2.1; simp only [List.length_cons] at this; omega, by have := HGo7.out.2.2.2.1; simp only [List.length_cons] at this; omega, HGo7.out.1.tail HK4.out, HGo7.out.2.1.tail⟩
         | false =>
          have HSw := hide (fors_nil (d := d) 500 0 (C := fun Z => .ok { kind := 13, name := tt, inn := true, words := D } Z []) (show R = wrongR (⟨tk7, tt7, ta7⟩ :: r7) from HR3.out))
          go_wp2_with fail
          refine (Hx.out wb _ Kb.out.st).mono ?_
          rintro e w16 ⟨rfl, h16, g16⟩
          have HA16 := hide (Kb.out.step g16 h16)
          clear h16 g16
          obtain ⟨x0, x1, x2, x3, x4, x5, x6, x7, lB⟩ := box8 HA16.out.box
          obtain ⟨y0, y1, y2, y3, y4, y5, y6, y7, lA⟩ := box8 HA16.out.res
          have zA0 := Blk.frozen HA16.out.res 0
          have zA1 := Blk.frozen HA16.out.res 1
          have zA2 := Blk.frozen HA16.out.res 2
          have zA3 := Blk.frozen HA16.out.res 3
          have zA4 := Blk.frozen HA16.out.res 4
          have zA5 := Blk.frozen HA16.out.res 5
          have zA6 := Blk.frozen HA16.out.res 6
          have zA7 := Blk.frozen HA16.out.res 7
          have HZW := hide (ForD.fin HA16.out HSw.out)
          obtain ⟨hz3, hz4⟩ := HZW.out
          unfold put8 at hz3 hz4
          clear HZW
          go_wp2_with fail
          generalize ((((((((w16.setCell ⟨A, 0, none⟩ (.int .i64 13)).setCell ⟨A, 1, none⟩ (.string ⟨tt.toArray⟩)).setCell ⟨A, 2, none⟩ (.bool true)).setCell ⟨A, 3, none⟩ (.slice none 0 0)).setCell ⟨A, 4, none⟩ (.slice b1 D.length b3)).setCell ⟨A, 5, none⟩ (.slice none 0 0)).setCell ⟨A, 6, none⟩ (.slice none 0 0)).setCell ⟨A, 7, none⟩ (.slice none 0 0)) = W8 at hz3 hz4 ⊢
          obtain ⟨p0, p1, p2, p3, p4, p5, p6, p7, lP⟩ := box8 hz3
          refine bodyPost_ret (v := .agg #[.int .i64 13, .string ⟨tt.toArray⟩, .bool true, .slice none 0 0, .slice b1 D.length b3, .slice none 0 0, .slice none 0 0, .slice none 0 0]) (by simp [results, Try.results86, go_sem, p0, p1, p2, p3, p4, p5, p6, p7]) rfl ?_
          exact hz4
end Go.Proofs.Ytgpfjcogaheopaa
