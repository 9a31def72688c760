/- The document's redirections. -/
import Derived.Test.YtgpfjcogaheopaaMG
import Derived.Test.YtgpfjcogaheopaaPI
import Derived.Deep.LoopGhost
set_option linter.all false
namespace Go.Proofs.Ytgpfjcogaheopaa
open Go.RowKit Lx
set_option maxRecDepth 100000
/-- What a call of the document's reader answers. -/
def DPost {α : Type} (val : World → α → Value → Prop) (bad : World → Value → Prop) (rb : Nat) (T : List Tok) (d : Nat) (w : World) : PR α → Ending → World → Prop
 | .ok x ts _, e, w' => ∃ v, e = .returned v ∧ val w' x v ∧ DIs w' rb T (.ok ts d) ∧ w.grownBy w' (some rb)
 | .bad a k, e, w' => ∃ v, e = .returned v ∧ bad w' v ∧ DIs w' rb T (.er a k) ∧ w.grownBy w' (some rb)
def vRdD (w0 : World) : World → List Rd → Value → Prop := fun w' l v => RdS w' v l ∧ (∀ b, v.ownBlock = some b → w0.heap.size ≤ b) ∧ l.length ≤ 1000
def bRdD (w0 : World) : World → Value → Prop := fun w' v => ∃ l, vRdD w0 w' l v
structure RdD (w W : World) (rb : Nat) (T ts : List Tok) (d : Nat) (v : Value) (acc : List Rd) : Prop where
 st : DIs W rb T (.ok ts d)
 own : RdS W v acc
 new : ∀ b, v.ownBlock = some b → w.heap.size ≤ b
 gr : w.grownBy W (some rb)
 len : acc.length + ts.length ≤ 500
 rbl : rb < w.heap.size
section
variable {w W W' wA : World} {rb d : Nat} {T ts ts' : List Tok} {v vA : Value} {acc : List Rd}
theorem RdD.grown (h : RdD w W rb T ts d v acc) (hg : W.grownBy W' none) : RdD w W' rb T ts d v acc := ⟨h.st.grown hg, old_own hg h.own, h.new, only_trans h.gr (gr_rb hg), h.len, h.rbl⟩
theorem RdD.fresh {B : Nat} (h : RdD w W rb T ts d v acc) (hB : w.heap.size ≤ B) (hv : ¬ v.ownBlock = some B) (j : Nat) (u : Value) : RdD w (W.setCell ⟨B, j, none⟩ u) rb T ts d v acc :=
 ⟨h.st.fresh (Nat.lt_of_lt_of_le h.rbl hB) j u, Own.far h.own (p := ⟨B, j, none⟩) hv u, h.new, only_setCell h.gr (p := ⟨B, j, none⟩) (.inr hB) u, h.len, h.rbl⟩
theorem rds_rbset (h : RdS W v acc) (hb : HasT W rb 50) (j : Nat) (u : Value) : RdS (W.setCell ⟨rb, j, none⟩ u) v acc := Own.far h (p := ⟨rb, j, none⟩) (fun e => absurd ((Own.hasT h e).uniq hb) (by decide)) u
theorem RdD.next {t : Tok} {r : List Tok} {vt : Value} {a : Nat} {f : Int} (h : RdD w W rb T (t :: r) d v acc) (hd : DAt W rb T vt a d 0 f) (he : T.drop a = t :: r ∧ d ≤ 26) (hk : t.k ≠ 4) : RdD w (W.setCell ⟨rb, 1, none⟩ (.int .i64 ((a : Int) + 1))) rb T r d v acc :=
 ⟨DIs.next hd he.1 he.2 rfl hk, rds_rbset h.own h.st.hasT 1 _, h.new, only_setCell h.gr (p := ⟨rb, 1, none⟩) (.inl rfl) _, by have := h.len; simp only [List.length_cons] at this; omega, h.rbl⟩
theorem DIs.chg {st : DS} (h : DIs W rb T st) {S : Nat → Prop} (hc : Chg S W wA) (hS : ∀ k, S k → rb < k) : DIs wA rb T st := by
 have key : ∀ (vt : Value) (a : Nat) (d e f : Int), DAt W rb T vt a d e f → DAt wA rb T vt a d e f := fun vt a d e f h =>
  ⟨Blk.chg h.blk hc (fun e => by have := hS _ e; omega), h.tok.chg hc (fun g hg e => by have := hS _ e; have := h.old g hg; omega), h.lt, h.tg, h.old⟩
 cases st with
 | ok ts d =>
  obtain ⟨vt, a, f, h, h2⟩ := h
  exact ⟨vt, a, f, key _ _ _ _ _ h, h2⟩
 | er x k =>
  obtain ⟨vt, i, d, h, h2⟩ := h
  exact ⟨vt, i, d, key _ _ _ _ _ h, h2⟩
theorem gr_app {row : Option Nat} {S : Nat → Prop} (hg : w.grownBy W row) (o : Obj) (hc : Chg S (W.alloc o) wA) (hS : ∀ k, S k → w.heap.size ≤ k) : w.grownBy wA row := by
 have h1 := only_alloc hg o
 exact ⟨hc.os.trans h1.os, hc.tape.trans h1.tape, hc.output.trans h1.output, Nat.le_trans h1.size hc.size, fun k hk hne => (hc.block k (Nat.lt_of_lt_of_le hk h1.size) (fun e => by have := hS k e; omega)).trans (h1.block k hk hne)⟩
theorem RdD.app (h : RdD w W rb T ts d v acc) (o : Obj) {x : Rd} (ho : Own wA 44 3 vA (acc.length + 1) (acc.flatMap Rd.cells ++ x.cells) 0) (hc : Chg (fun b => v.ownBlock = some b) (W.alloc o) wA) (hn : ∀ b, vA.ownBlock = some b → v.ownBlock = some b ∨ (W.alloc o).heap.size ≤ b) (hl : acc.length + 1 + ts.length ≤ 500) : RdD w wA rb T ts d vA (acc ++ [x]) := by
 refine ⟨(h.st.grown (only_alloc (only_refl W none) o)).chg hc (fun k e => by have := h.new k e; have := h.rbl; omega), ?_, fun b hb => ?_, gr_app h.gr o hc h.new, by rw [List.length_append, List.length_singleton]; exact hl, h.rbl⟩
 ·unfold RdS
  rw [List.length_append, List.length_singleton, List.flatMap_append]
  simpa using ho
 ·rcases hn b hb with e | e
  · exact h.new b e
  · rw [World.size_alloc] at e
    have := h.gr.size
    omega
end
set_option maxHeartbeats 16000000 in
theorem dredirs_any (rb : Nat) (T ts : List Tok) (d : Nat) (w : World) (h : DIs w rb T (.ok ts d)) :
  Calls Try.prog 85 #[.pointer (some ⟨rb, 0, none⟩)] w (DPost (vRdD w) (bRdD w) rb T d w (redirF ts [])) := by
 have Hx := hide (fun W st (hW : DIs W rb T st) => dwrong_any rb T st W hW)
 have Hr := hide (fun s W => dredirSign_any s W)
 unfold Qb rdsB at Hr
 have HAT := hide (⟨h, Own.nil _ _ _ _, fun b hb => (by cases hb), only_refl w _, by have := h.good.2.2.2.1; simp only [List.length_nil]; omega, h.lb⟩ : RdD w w rb T ts d (.slice none 0 0) [])
 unfold redirF
 obtain ⟨R, hR⟩ : ∃ R, redirL (ts.length + 1) [] ts [] = R := ⟨_, rfl⟩
 have HR := hide hR
 rw [hR]
 clear hR h
 go_enter Try.func85, Try.ntmps85
 go_wp2_with fail
 go_loopg [3, 4, 5, 6] ts.length (fun g v3 v4 v5 v6 wr => ∃ (f : Nat) (acc : List Rd) (Z : List Tok), redirL f acc Z [] = R ∧ Z.length < f ∧ Z.length ≤ g ∧ RdD w wr rb T Z d v3 acc)
 case atStart => exact ⟨_, [], ts, HR.out, Nat.lt_succ_self _, Nat.le_refl _, HAT.out⟩
 case round =>
  obtain ⟨f0, acc, Z, hR, hf, hg, hA⟩ := hrel
  have hgd := hA.st.good
  obtain ⟨t, r, rfl⟩ := hgd.1.ne
  have HRr := hide hR
  have HA := hide hA
  have HGF := hide (And.intro hf hg)
  obtain ⟨av3, cv3, rfl, _, _⟩ := Own.form hA.own
  have HTX := hide (hgd.2.2.1 t (List.mem_cons_self ..))
  have HGD := hide hgd.1
  have HWL := hide hgd.2.1
  obtain ⟨f0, rfl⟩ : ∃ f', f0 = f' + 1 := ⟨f0 - 1, by simp only [List.length_cons] at hf; omega⟩
  have HVB := hide (fun e : (Value.slice av3 acc.length cv3).ownBlock = some (wr.heap.size + 1) => (show False by have := Own.lt hA.own e; omega))
  have HBB := hide (And.intro hA.gr.size (Nat.le_succ_of_le hA.gr.size))
  clear hR hf hg hA hgd
  obtain ⟨vt, a, f, h, hd, hdd⟩ := HA.out.st
  obtain ⟨c0, c1, c2, c3, c4⟩ := h.cells
  obtain ⟨g, off, cap, t9, r9, rfl, hc, hg, hd2, t0, t1, t2⟩ := h.tok_
  have lb := h.lb
  have hlt := h.lt
  have hib : (0 : Int) ≤ (a : Int) ∧ (a : Int) < ((T.length : Nat) : Int) := by omega
  have hTl := h.tg.len
  obtain ⟨L, hL⟩ : ∃ L, T.length = L := ⟨_, rfl⟩
  have hAL : (a : Int) ≤ 500 := by omega
  have HDA := hide h
  have HDD := hide (And.intro hd hdd)
  have hZ := hd.symm.trans hd2
  injection hZ with hZ1 hZ2
  subst hZ1 hZ2
  rw [hL] at c0 hib hc hTl
  have z1 := Blk.frozen h.blk 1
  clear h hd hdd hd2 hL hlt
  obtain ⟨tk, tt, ta⟩ := t
  simp only [] at t0 t1 t2
  go_upto_region 3 with (fail)
  have Hk : Hid (∀ X : World, wr.grownBy X none → (X.cell? ⟨rb, 0, none⟩ = some (.slice (some ⟨g, off, none⟩) L cap) ∧ X.cell? ⟨rb, 1, none⟩ = some (.int .i64 a) ∧ X.cell? ⟨g, off + a * 3, none⟩ = some (.int .i64 tk) ∧ X.cell? ⟨g, off + a * 3 + 1, none⟩ = some (.string ⟨tt.toArray⟩) ∧ X.cell? ⟨g, off + a * 3 + 2, none⟩ = some (.int .i64 ta))) :=
    hide (fun X hw => ⟨old_cell hw lb c0, old_cell hw lb c1, old_cell hw hg t0, old_cell hw hg t1, old_cell hw hg t2⟩)
  go_region_held3 (fun X => X.cell? ⟨rb, 0, none⟩ = some (.slice (some ⟨g, off, none⟩) L cap) ∧ X.cell? ⟨rb, 1, none⟩ = some (.int .i64 a) ∧ X.cell? ⟨g, off + a * 3, none⟩ = some (.int .i64 tk) ∧ X.cell? ⟨g, off + a * 3 + 1, none⟩ = some (.string ⟨tt.toArray⟩) ∧ X.cell? ⟨g, off + a * 3 + 2, none⟩ = some (.int .i64 ta))
    (first | go_keep | exact Hk.out _ (by repeat' (first | (with_reducible exact only_refl _ _) | (with_reducible refine none_setCell ?_ ?_ _) | (with_reducible refine none_trans ?_ hg) | (with_reducible refine only_drew ?_) | (with_reducible refine only_alloc ?_ _) | omega | (simp; done))))
    (fail)
  have hg3 := only_drew (only_alloc (only_refl wr none) (.cells #[.int .i64 tk, .string ⟨tt.toArray⟩, .int .i64 ta] 41))
  have HB4 := hide (show Blk (wr.alloc (.cells #[.int .i64 tk, .string ⟨tt.toArray⟩, .int .i64 ta] 41)).drew wr.heap.size 41 #[.int .i64 tk, .string ⟨tt.toArray⟩, .int .i64 ta] from Blk.new wr 41 _)
  have HA3 := hide (HA.out.grown hg3)
  have hs3 : (wr.alloc (.cells #[.int .i64 tk, .string ⟨tt.toArray⟩, .int .i64 ta] 41)).drew.heap.size = wr.heap.size + 1 := World.size_alloc _ _
  generalize (wr.alloc (.cells #[.int .i64 tk, .string ⟨tt.toArray⟩, .int .i64 ta] 41)).drew = W3, wr.heap.size = B4 at HB4 HA3 hs3 HVB HBB ⊢
  clear Hk hg3
  clear c0 c1 c2 c3 c4 t0 t1 t2 hg lb hib hTl hAL hc z1
  go_upto_region 5 with (fail)
  have hg4 := only_alloc (only_refl W3 none) (.cells #[.int .i64 (-1), .string ⟨#[]⟩, .string ⟨#[]⟩] 44)
  have HB4 := hide (Blk.grown HB4.out hg4 (by simp))
  have HA4 := hide (HA3.out.grown hg4)
  have HB5 := hide (Blk.new W3 44 #[.int .i64 (-1), .string ⟨#[]⟩, .string ⟨#[]⟩])
  rw [hs3] at HB5
  generalize W3.alloc (.cells #[.int .i64 (-1), .string ⟨#[]⟩, .string ⟨#[]⟩] 44) = W4 at HB4 HA4 HB5 ⊢
  clear hg4 hs3
  obtain ⟨B5, hB5⟩ : ∃ B, B4 + 1 = B := ⟨_, rfl⟩
  rw [hB5] at HB5 HVB
  have HBB := hide (show w.heap.size ≤ B4 ∧ w.heap.size ≤ B5 by have := HBB.out; omega)
  have HB45 := hide (show B4 ≠ B5 by omega)
  rw [hB5]
  clear hB5
  have x0 : W4.cell? ⟨B4, 0, none⟩ = some (.int .i64 tk) := Blk.cell HB4.out 0
  have x1 : W4.cell? ⟨B4, 1, none⟩ = some (.string ⟨tt.toArray⟩) := Blk.cell HB4.out 1
  have lx := Blk.lt HB4.out
  go_upto_if 25 with (fail)
  go_cut [] (fun wc => ∃ (fd : Int) (o : Tok) (q : List Tok), Blk wc B4 41 #[.int .i64 o.k, .string ⟨o.t.toArray⟩, .int .i64 o.a] ∧ Blk wc B5 44 #[.int .i64 fd, .string ⟨#[]⟩, .string ⟨#[]⟩] ∧ RdD w wc rb T (o :: q) d (.slice av3 acc.length cv3) acc ∧ q.length ≤ r.length ∧ (rdrB o = false → R = .ok acc (o :: q) []) ∧ (rdrB o = true → ∀ wt q2, q = wt :: q2 → R = (if wkB (wt :: q2) = true then redirL f0 (acc ++ [⟨fd, o.t, wt.t⟩]) q2 [] else wrongR (wt :: q2))))
  case first =>
   by_cases k3 : tk = 3
   · subst k3
     obtain ⟨c, hct, hc48, hc57⟩ := HTX.out.2 rfl
     simp only [] at hct
     subst hct
     obtain ⟨o, q, hq, hro⟩ := HWL.out.2.2.1 rfl
     subst hq
     have hk2 : o.k = 2 := by
      have h4 := hro
      unfold rdrB at h4
      rw [Bool.and_eq_true] at h4
      simpa using h4.1
     have HRO := hide hro
     have HRS := hide (fun (wt : Tok) (q2 : List Tok) (e : q = wt :: q2) => (show R = (if wkB (wt :: q2) = true then redirL f0 (acc ++ [⟨(c.toNat : Int) - 48, o.t, wt.t⟩]) q2 [] else wrongR (wt :: q2)) by
      subst e
      rw [← HRr.out, redirL]
      rw [if_pos (by simp [hro])]
      rfl))
     obtain ⟨ok, ot, oa⟩ := o
     simp only [] at hk2
     subst hk2
     clear hro
     have hat := str_at' [c] 0 (by simp)
     have hcc1 : (48 : Int) ≤ (c.toNat : Int) := by omega
     have hcc2 : (c.toNat : Int) ≤ 57 := by omega
     have y0 : W4.cell? ⟨B5, 0, none⟩ = some (.int .i64 (-1)) := Blk.cell HB5.out 0
     have z5 := Blk.frozen HB5.out 0
     have ly := Blk.lt HB5.out
     go_upto_region 7 with (fail)
     have hb5 := Blk.set_ HB5.out 0 (.int .i64 ((c.toNat : Int) - 48))
     have hb4 := Blk.far HB4.out (p := ⟨B5, 0, none⟩) HB45.out (.int .i64 ((c.toNat : Int) - 48))
     have ha5 := HA4.out.fresh (B := B5) HBB.out.2 HVB.out 0 (.int .i64 ((c.toNat : Int) - 48))
     generalize W4.setCell ⟨B5, 0, none⟩ (.int .i64 ((c.toNat : Int) - 48)) = W5 at hb5 hb4 ha5 ⊢
     have HB5 : Hid (Blk W5 B5 44 #[.int .i64 ((c.toNat : Int) - 48), .string ⟨#[]⟩, .string ⟨#[]⟩]) := hide hb5
     have HB4 := hide hb4
     have HA5 := hide ha5
     clear hb5 hb4 ha5 x0 x1 lx y0 z5 ly hat hcc1 hcc2
     obtain ⟨vt, a, f, h, hd, hdd⟩ := HA5.out.st
     obtain ⟨c0, c1, c2, c3, c4⟩ := h.cells
     obtain ⟨g, off, cap, t9, r9, rfl, hc, hg, hd2, t0, t1, t2⟩ := h.tok_
     have lb := h.lb
     have hlt := h.lt
     have hib : (0 : Int) ≤ (a : Int) ∧ (a : Int) < ((T.length : Nat) : Int) := by omega
     have hTl := h.tg.len
     obtain ⟨L, hL⟩ : ∃ L, T.length = L := ⟨_, rfl⟩
     have hAL : (a : Int) ≤ 500 := by omega
     have HDA := hide h
     have HDD := hide (And.intro hd hdd)
     have hZ := hd.symm.trans hd2
     injection hZ with hZ1 hZ2
     subst hZ1 hZ2
     rw [hL] at c0 hib hc hTl
     have z1 := Blk.frozen h.blk 1
     clear h hd hdd hd2 hL hlt
     go_upto_region 8 with (fail)
     have hb5 := Blk.far HB5.out (p := ⟨rb, 1, none⟩) (show B5 ≠ rb by have := HBB.out.2; have := HA5.out.rbl; omega) (.int .i64 ((a : Int) + 1))
     have hb4 := Blk.far HB4.out (p := ⟨rb, 1, none⟩) (show B4 ≠ rb by have := HBB.out.1; have := HA5.out.rbl; omega) (.int .i64 ((a : Int) + 1))
     have ha6 := HA5.out.next HDA.out HDD.out (by show (3 : Nat) ≠ 4; decide)
     generalize W5.setCell ⟨rb, 1, none⟩ (.int .i64 ((a : Int) + 1)) = W6 at hb5 hb4 ha6 ⊢
     have HB5 := hide hb5
     have HB4 := hide hb4
     have HA6 := hide ha6
     clear hb5 hb4 ha6
     clear c0 c1 c2 c3 c4 t0 t1 t2 hg lb hib hTl hAL hc z1
     obtain ⟨vt, a, f, h, hd, hdd⟩ := HA6.out.st
     obtain ⟨c0, c1, c2, c3, c4⟩ := h.cells
     obtain ⟨g, off, cap, t9, r9, rfl, hc, hg, hd2, t0, t1, t2⟩ := h.tok_
     have lb := h.lb
     have hlt := h.lt
     have hib : (0 : Int) ≤ (a : Int) ∧ (a : Int) < ((T.length : Nat) : Int) := by omega
     have hTl := h.tg.len
     obtain ⟨L, hL⟩ : ∃ L, T.length = L := ⟨_, rfl⟩
     have hAL : (a : Int) ≤ 500 := by omega
     have HDA := hide h
     have HDD := hide (And.intro hd hdd)
     have hZ := hd.symm.trans hd2
     injection hZ with hZ1 hZ2
     subst hZ1 hZ2
     rw [hL] at c0 hib hc hTl
     have z1 := Blk.frozen h.blk 1
     clear h hd hdd hd2 hL hlt
     have zx0 := Blk.frozen HB4.out 0
     have zx1 := Blk.frozen HB4.out 1
     have zx2 := Blk.frozen HB4.out 2
     have lx := Blk.lt HB4.out
     have x0 : W6.cell? ⟨B4, 0, none⟩ = some (.int .i64 3) := Blk.cell HB4.out 0
     have x1 : W6.cell? ⟨B4, 1, none⟩ = some (.string ⟨[c].toArray⟩) := Blk.cell HB4.out 1
     have x2 : W6.cell? ⟨B4, 2, none⟩ = some (.int .i64 ta) := Blk.cell HB4.out 2
     refine wp_region_qtail 10 (by kernel_rfl) (by kernel_rfl) ?_
     simp only [List.take_succ_cons, List.take_zero, List.drop_succ_cons, List.drop_zero]
     repeat (go_big_quiet_step (fail))
     refine wpQuiet_nil ?_
     rintro _ ⟨nq, rfl⟩
     go_wp2
     go_meet
     have hgq := only_drewN (only_refl W6 none) nq
     have hb4 := ((Blk.set_ (Blk.grown HB4.out hgq (by simp)) 0 (.int .i64 ((2 : Nat) : Int))).set_ 1 (.string ⟨ot.toArray⟩)).set_ 2 (.int .i64 oa)
     have hb5 := ((Blk.far (Blk.grown HB5.out hgq (by simp)) (p := ⟨B4, 0, none⟩) (fun e => HB45.out e.symm) (.int .i64 ((2 : Nat) : Int))).far (p := ⟨B4, 1, none⟩) (fun e => HB45.out e.symm) (.string ⟨ot.toArray⟩)).far (p := ⟨B4, 2, none⟩) (fun e => HB45.out e.symm) (.int .i64 oa)
     have hv4 : ¬ (Value.slice av3 acc.length cv3).ownBlock = some B4 := fun e => absurd ((Own.hasT HA6.out.own e).uniq HB4.out.hasT) (by decide)
     have ha7 := (((HA6.out.grown hgq).fresh (B := B4) HBB.out.1 hv4 0 (.int .i64 ((2 : Nat) : Int))).fresh (B := B4) HBB.out.1 hv4 1 (.string ⟨ot.toArray⟩)).fresh (B := B4) HBB.out.1 hv4 2 (.int .i64 oa)
     exact ⟨_, ⟨2, ot, oa⟩, q, hb4, hb5, ha7, by simp only [List.length_cons]; omega, fun e => absurd (HRO.out.symm.trans e) (by decide), fun _ => HRS.out⟩
   · have q3 : ((tk : Int) == 3) = false := by rw [beq_eq_false_iff_ne]; omega
     have Q3 := hide (show (tk == 3) = false by rw [beq_eq_false_iff_ne]; exact k3)
     go_wp2_with fail
     go_meet
     refine ⟨-1, ⟨tk, tt, ta⟩, r, HB4.out, HB5.out, HA4.out, Nat.le_refl _, fun e => ?_, fun e wt q2 hq => ?_⟩
     ·rw [← HRr.out, redirL]
      rw [if_neg (by simp only [Q3.out, Bool.false_and]; decide), if_neg (by rw [e]; decide)]
     ·subst hq
      rw [← HRr.out, redirL]
      rw [if_neg (by simp only [Q3.out, Bool.false_and]; decide), if_pos e]
      rfl
  case rest =>
   obtain ⟨fd, o, q, h4, h5, hA9, hqr, hno, hyes⟩ := hcut
   have HB4 := hide h4
   have HB5 := hide h5
   have HA9 := hide hA9
   have HQR := hide hqr
   have HNO := hide hno
   have HYES := hide hyes
   clear h4 h5 hA9 hqr hno hyes HA4 HA3 x0 x1 lx
   obtain ⟨bt, hbt⟩ : ∃ bt, rdrB o = bt := ⟨_, rfl⟩
   have HBT := hide hbt
   obtain ⟨ok, ot, oa⟩ := o
   have x0 : wc.cell? ⟨B4, 0, none⟩ = some (.int .i64 ok) := Blk.cell HB4.out 0
   have x1 : wc.cell? ⟨B4, 1, none⟩ = some (.string ⟨ot.toArray⟩) := Blk.cell HB4.out 1
   have lx := Blk.lt HB4.out
   cases bt with
   | false =>
     by_cases k2 : ok = 2
     ·subst k2
      have Hro := hide (fun W => by have := Hr.out ot W; rw [show rdrW.contains ot = false from hbt] at this; exact this)
      unfold sv at Hro
      clear hbt
      go_wp2_with fail
      refine (Hro.out _).mono ?_
      rintro e w8 ⟨rfl, g8⟩
      have HA8 := hide (HA9.out.grown g8)
      clear g8
      go_wp2_with fail
      rw [HNO.out HBT.out]
      go_ret
      exact ⟨_, rfl, ⟨HA8.out.own, HA8.out.new, by have := HA8.out.len; omega⟩, HA8.out.st, HA8.out.gr⟩
     ·have q2 : ((ok : Int) != 2) = true := by rw [bne_iff_ne]; omega
      clear hbt
      go_wp2_with fail
      rw [HNO.out HBT.out]
      go_ret
      exact ⟨_, rfl, ⟨HA9.out.own, HA9.out.new, by have := HA9.out.len; omega⟩, HA9.out.st, HA9.out.gr⟩
   | true =>
     have hk2 : ok = 2 := by
      have h4 := hbt
      unfold rdrB at h4
      rw [Bool.and_eq_true] at h4
      simpa using h4.1
     subst hk2
     have Hro := hide (fun W => by have := Hr.out ot W; rw [show rdrW.contains ot = true from hbt] at this; exact this)
     unfold sv at Hro
     have HGr := hide (HA9.out.st.good.1.tail (by show (2 : Nat) ≠ 4; decide))
     obtain ⟨wt, q, rfl⟩ := HGr.out.ne
     have HRS := hide (HYES.out HBT.out wt q rfl)
     clear hbt
     go_wp2_with fail
     refine (Hro.out _).mono ?_
     rintro e w8 ⟨rfl, g8⟩
     have HB4 := hide (Blk.grown HB4.out g8 (by simp))
     have HB5 := hide (Blk.grown HB5.out g8 (by simp))
     have HA8 := hide (HA9.out.grown g8)
     clear g8 x0 x1 lx
     have x1 : w8.cell? ⟨B4, 1, none⟩ = some (.string ⟨ot.toArray⟩) := Blk.cell HB4.out 1
     have lx := Blk.lt HB4.out
     have y1 : w8.cell? ⟨B5, 1, none⟩ = some (.string ⟨#[]⟩) := Blk.cell HB5.out 1
     have z5 := Blk.frozen HB5.out 1
     have ly := Blk.lt HB5.out
     go_upto_region 11 with (fail)
     have hb5 := Blk.set_ HB5.out 1 (.string ⟨ot.toArray⟩)
     have ha5 := HA8.out.fresh (B := B5) HBB.out.2 HVB.out 1 (.string ⟨ot.toArray⟩)
     generalize w8.setCell ⟨B5, 1, none⟩ (.string ⟨ot.toArray⟩) = W5 at hb5 ha5 ⊢
     have HB6 := hide (show Blk W5 B5 44 #[.int .i64 fd, .string ⟨ot.toArray⟩, .string ⟨#[]⟩] from hb5)
     have HA6 := hide ha5
     clear hb5 ha5 x1 lx y1 z5 ly
     obtain ⟨vt, a, f, h, hd, hdd⟩ := HA6.out.st
     obtain ⟨c0, c1, c2, c3, c4⟩ := h.cells
     obtain ⟨g, off, cap, t9, r9, rfl, hc, hg, hd2, t0, t1, t2⟩ := h.tok_
     have lb := h.lb
     have hlt := h.lt
     have hib : (0 : Int) ≤ (a : Int) ∧ (a : Int) < ((T.length : Nat) : Int) := by omega
     have hTl := h.tg.len
     obtain ⟨L, hL⟩ : ∃ L, T.length = L := ⟨_, rfl⟩
     have hAL : (a : Int) ≤ 500 := by omega
     have HDA := hide h
     have HDD := hide (And.intro hd hdd)
     have hZ := hd.symm.trans hd2
     injection hZ with hZ1 hZ2
     subst hZ1 hZ2
     rw [hL] at c0 hib hc hTl
     have z1 := Blk.frozen h.blk 1
     clear h hd hdd hd2 hL hlt
     go_upto_region 12 with (fail)
     have hb7 := Blk.far HB6.out (p := ⟨rb, 1, none⟩) (show B5 ≠ rb by have := HBB.out.2; have := HA6.out.rbl; omega) (.int .i64 ((a : Int) + 1))
     have ha7 := HA6.out.next HDA.out HDD.out (by show (2 : Nat) ≠ 4; decide)
     generalize W5.setCell ⟨rb, 1, none⟩ (.int .i64 ((a : Int) + 1)) = W7 at hb7 ha7 ⊢
     have HB7 := hide hb7
     have HA7 := hide ha7
     clear c0 c1 c2 c3 c4 t0 t1 t2 hg lb hib hTl hAL hc z1 hb7 ha7
     obtain ⟨tk, tt, ta⟩ := wt
     obtain ⟨vt, a, f, h, hd, hdd⟩ := HA7.out.st
     obtain ⟨c0, c1, c2, c3, c4⟩ := h.cells
     obtain ⟨g, off, cap, t9, r9, rfl, hc, hg, hd2, t0, t1, t2⟩ := h.tok_
     have lb := h.lb
     have hlt := h.lt
     have hib : (0 : Int) ≤ (a : Int) ∧ (a : Int) < ((T.length : Nat) : Int) := by omega
     have hTl := h.tg.len
     obtain ⟨L, hL⟩ : ∃ L, T.length = L := ⟨_, rfl⟩
     have hAL : (a : Int) ≤ 500 := by omega
     have HDA := hide h
     have HDD := hide (And.intro hd hdd)
     have hZ := hd.symm.trans hd2
     injection hZ with hZ1 hZ2
     subst hZ1 hZ2
     rw [hL] at c0 hib hc hTl
     have z1 := Blk.frozen h.blk 1
     clear h hd hdd hd2 hL hlt
     have Hk : Hid (∀ X : World, W7.grownBy X none → (X.cell? ⟨rb, 0, none⟩ = some (.slice (some ⟨g, off, none⟩) L cap) ∧ X.cell? ⟨rb, 1, none⟩ = some (.int .i64 a) ∧ X.cell? ⟨g, off + a * 3, none⟩ = some (.int .i64 tk) ∧ X.cell? ⟨g, off + a * 3 + 1, none⟩ = some (.string ⟨tt.toArray⟩) ∧ X.cell? ⟨g, off + a * 3 + 2, none⟩ = some (.int .i64 ta))) :=
      hide (fun X hw => ⟨old_cell hw lb c0, old_cell hw lb c1, old_cell hw hg t0, old_cell hw hg t1, old_cell hw hg t2⟩)
     go_region_held3 (fun X => X.cell? ⟨rb, 0, none⟩ = some (.slice (some ⟨g, off, none⟩) L cap) ∧ X.cell? ⟨rb, 1, none⟩ = some (.int .i64 a) ∧ X.cell? ⟨g, off + a * 3, none⟩ = some (.int .i64 tk) ∧ X.cell? ⟨g, off + a * 3 + 1, none⟩ = some (.string ⟨tt.toArray⟩) ∧ X.cell? ⟨g, off + a * 3 + 2, none⟩ = some (.int .i64 ta))
      (first | go_keep | exact Hk.out _ (by repeat' (first | (with_reducible exact only_refl _ _) | (with_reducible refine none_setCell ?_ ?_ _) | (with_reducible refine none_trans ?_ hg) | (with_reducible refine only_drew ?_) | (with_reducible refine only_alloc ?_ _) | omega | (simp; done))))
      (fail)
     have hg8 := only_drew (only_alloc (only_refl W7 none) (.cells #[.int .i64 tk, .string ⟨tt.toArray⟩, .int .i64 ta] 41))
     have HB8 := hide (Blk.grown HB7.out hg8 (by simp))
     have HA8 := hide (HA7.out.grown hg8)
     have HX8 := hide (show Blk (W7.alloc (.cells #[.int .i64 tk, .string ⟨tt.toArray⟩, .int .i64 ta] 41)).drew W7.heap.size 41 #[.int .i64 tk, .string ⟨tt.toArray⟩, .int .i64 ta] from Blk.new W7 41 _)
     have HBW := hide (show B5 < W7.heap.size from Blk.lt HB7.out)
     generalize (W7.alloc (.cells #[.int .i64 tk, .string ⟨tt.toArray⟩, .int .i64 ta] 41)).drew = W8, W7.heap.size = B6 at HB8 HA8 HX8 HBW ⊢
     clear Hk hg8
     clear c0 c1 c2 c3 c4 t0 t1 t2 hg lb hib hTl hAL hc z1
     have p0 : W8.cell? ⟨B6, 0, none⟩ = some (.int .i64 tk) := Blk.cell HX8.out 0
     have p1 : W8.cell? ⟨B6, 1, none⟩ = some (.string ⟨tt.toArray⟩) := Blk.cell HX8.out 1
     have l6 := Blk.lt HX8.out
     go_upto_region 13 with (fail)
     by_cases hwk : tk = 1 ∨ tk = 3
     ·have HRT := hide (show R = redirL f0 (acc ++ [⟨fd, ot, tt⟩]) q [] by rw [HRS.out, if_pos]; unfold wkB; rcases hwk with e | e <;> rw [e] <;> rfl)
      have HW4 := hide (show tk ≠ 4 by omega)
      have HRUN : ∀ (K : Prop), (((tk : Int) != 1) = false → K) → (((tk : Int) != 1) = true → ((tk : Int) != 3) = false → K) → K := fun K a b => by
       rcases hwk with e | e
       ·exact a (by rw [e]; rfl)
       ·exact b (by rw [e]; rfl) (by rw [e]; rfl)
      clear hwk
      go_cut [85] (fun v85 wc => v85 = .bool false ∧ wc = W8)
      case first =>
       refine HRUN _ (fun q1 => ?_) (fun q1 q3 => ?_)
       all_goals (
        clear HRUN
        go_wp2_with fail
        go_meet
        exact ⟨rfl, rfl⟩)
      case rest =>
       clear HRUN
       obtain ⟨rfl, hwc⟩ := hcut
       subst hwc
       have y2 : wc.cell? ⟨B5, 2, none⟩ = some (.string ⟨#[]⟩) := Blk.cell HB8.out 2
       have z5 := Blk.frozen HB8.out 2
       have ly := Blk.lt HB8.out
       go_upto_region 16 with (fail)
       have hb9 := Blk.set_ HB8.out 2 (.string ⟨tt.toArray⟩)
       have ha9 := HA8.out.fresh (B := B5) HBB.out.2 HVB.out 2 (.string ⟨tt.toArray⟩)
       generalize wc.setCell ⟨B5, 2, none⟩ (.string ⟨tt.toArray⟩) = W9 at hb9 ha9 ⊢
       have HB9 := hide (show Blk W9 B5 44 #[.int .i64 fd, .string ⟨ot.toArray⟩, .string ⟨tt.toArray⟩] from hb9)
       have HA9 := hide ha9
       clear hb9 ha9 p0 p1 l6 y2 z5 ly
       obtain ⟨vt, a, f, h, hd, hdd⟩ := HA9.out.st
       obtain ⟨c0, c1, c2, c3, c4⟩ := h.cells
       obtain ⟨g, off, cap, t9, r9, rfl, hc, hg, hd2, t0, t1, t2⟩ := h.tok_
       have lb := h.lb
       have hlt := h.lt
       have hib : (0 : Int) ≤ (a : Int) ∧ (a : Int) < ((T.length : Nat) : Int) := by omega
       have hTl := h.tg.len
       obtain ⟨L, hL⟩ : ∃ L, T.length = L := ⟨_, rfl⟩
       have hAL : (a : Int) ≤ 500 := by omega
       have HDA := hide h
       have HDD := hide (And.intro hd hdd)
       have hZ := hd.symm.trans hd2
       injection hZ with hZ1 hZ2
       subst hZ1 hZ2
       rw [hL] at c0 hib hc hTl
       have z1 := Blk.frozen h.blk 1
       clear h hd hdd hd2 hL hlt
       go_upto_region 17 with (fail)
       have hbA := Blk.far HB9.out (p := ⟨rb, 1, none⟩) (show B5 ≠ rb by have := HBB.out.2; have := HA9.out.rbl; omega) (.int .i64 ((a : Int) + 1))
       have haA := HA9.out.next HDA.out HDD.out HW4.out
       generalize W9.setCell ⟨rb, 1, none⟩ (.int .i64 ((a : Int) + 1)) = WA at hbA haA ⊢
       have b0 : WA.cell? ⟨B5, 0, none⟩ = some (.int .i64 fd) := Blk.cell hbA 0
       have b1 : WA.cell? ⟨B5, 1, none⟩ = some (.string ⟨ot.toArray⟩) := Blk.cell hbA 1
       have b2 : WA.cell? ⟨B5, 2, none⟩ = some (.string ⟨tt.toArray⟩) := Blk.cell hbA 2
       have lb5 := Blk.lt hbA
       have HAA := hide haA
       have hal := HA.out.len
       have hqr := HQR.out
       simp only [List.length_cons] at hal hqr
       clear c0 c1 c2 c3 c4 t0 t1 t2 hg lb hib hTl hAL hc z1 hbA haA
       go_wp2_with (at_builtin; refine wpList_appAt 44 (.agg #[.int .i64 0, .string ⟨#[]⟩, .string ⟨#[]⟩]) 3 40 Try.underlying29 infoRd rfl (.slice av3 acc.length cv3) acc.length (acc.flatMap Rd.cells) 0 _ 1 (Rd.cells ⟨fd, ot, tt⟩) rfl rfl (Own.alloc HAA.out.own _) (by omega) (srcR _ _ ⟨fd, ot, tt⟩ rfl) (by unfold maxLen; omega) (by omega) ?_; intro vA wA ho hc hn2 _; (have HAB := hide (RdD.app HAA.out _ ho hc hn2 (by omega))); (obtain ⟨aA, cA, rfl, _, _⟩ := Own.form ho); clear ho hc hn2)
       go_roundg (gk - 1)
       case rel => exact ⟨f0, _, q, HRT.out.symm, by have := HGF.out.1; simp only [List.length_cons] at this; omega, by have := HGF.out.2; simp only [List.length_cons] at this; omega, by simpa using HAB.out⟩
       case measure => have := HGF.out.2; simp only [List.length_cons] at this; omega
     ·have HRT := hide (show R = .bad ta (if tk = 4 then 23 else 17) from HRS.out.trans (if_neg (by unfold wkB; simp only [not_or] at hwk; simp [hwk.1, hwk.2])))
      have q1 : ((tk : Int) != 1) = true := by rw [bne_iff_ne]; omega
      have q3 : ((tk : Int) != 3) = true := by rw [bne_iff_ne]; omega
      have HWX := hide (Hx.out W8 _ HA8.out.st)
      unfold wrongD Qu at HWX
      simp only [] at HWX
      go_wp2_with fail
      refine HWX.out.mono ?_
      rintro e w4 ⟨rfl, h4, g4⟩
      have H4 := hide (And.intro h4 (And.intro (own_rb g4 HA8.out.st.hasT HA8.out.own (by decide)) (only_trans HA8.out.gr g4)))
      clear h4 g4
      go_wp2_with fail
      rw [HRT.out]
      go_ret
      exact ⟨_, rfl, ⟨acc, H4.out.2.1, HA8.out.new, by have := HA8.out.len; omega⟩, H4.out.1, H4.out.2.2⟩
end Go.Proofs.Ytgpfjcogaheopaa
