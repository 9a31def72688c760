/- Several texts in one. -/
import Derived.Test.YtgpfjcogaheopaaPU
import Derived.Test.YtgpfjcogaheopaaPL
import Derived.Test.YtgpfjcogaheopaaMB
import Derived.Recover
import Derived.Defers
import Derived.Laws.Pointers
import Derived.Test.YtgpfjcogaheopaaQA
import Derived.Test.YtgpfjcogaheopaaPerm
set_option linter.all false
section
/- The readers' recursion; what is given up with is caught; the lexer's tokens. -/
namespace Go.Proofs.Ytgpfjcogaheopaa
open Go.RowKit Lx
set_option maxRecDepth 100000
theorem lst_okc (f : Nat) (hc : Okp (fun ts => cmpH ts = true) 89 (core f) f) : Okc 23 (lst f) f :=
 list_ok f (fun d => itemF (pipeF (cmdF (cmpF (core f)) d))) (fun d => item_dec (pipe_dec (cmd_dec (cmp_dec (core_dec f)) d)))
  (item_ok f (fun d => pipeF (cmdF (cmpF (core f)) d)) (fun d => pipe_dec (cmd_dec (cmp_dec (core_dec f)) d))
   (pipe_ok f (cmdF (cmpF (core f))) (fun d => cmd_dec (cmp_dec (core_dec f)) d)
    (command_ok f (cmpF (core f)) (cmp_dec (core_dec f)) (compound_ok f (core f) (core_dec f) hc))))
theorem core_all : ∀ f, Okp (fun ts => cmpH ts = true) 89 (core f) f
 | 0 => fun av base rb d ts ns w hav h hn _ => by have := h.good.pos; omega
 | f + 1 => core_ok f (lst f) (lst_left f) (lst_okc f (core_all f))
theorem lst_all (f : Nat) : Okc 23 (lst f) f := lst_okc f (core_all f)
/-! ### what the closure does -/
theorem cl_idle (b2 b3 b4 : Nat) (w : World) : CallsD Try.prog 21 #[.pointer (some ⟨b2, 0, none⟩), .pointer (some ⟨b3, 0, none⟩), .pointer (some ⟨b4, 0, none⟩)] .returning w fun e u' w' => e = .returned (.tuple #[]) ∧ u' = .returning ∧ w' = w := by
 refine callsD_of_wpS Try.func21 rfl fun c₀ cs hu => ?_
 apply wpS_seq
 apply wpS_region
 simp [wpOpsS, go_sem, recoverD, hu, Try.ntmps21, Exit.thenS]
 simp only [Array.replicate_succ, Array.replicate_zero, List.push_toArray, List.append_toArray, List.nil_append, List.cons_append, List.setIfInBounds_toArray, List.set_cons_zero, List.set_cons_succ]
 refine wpS_of_wp ?_
 go_wp2
 refine ⟨rfl, .returning, ?_, _, results_none rfl _ _ _, rfl, rfl, rfl⟩
 cases c₀
 simp_all
def caughtP (a e : Int) : PanicEntry := { v := .iface 56 (.agg #[.int .i64 a, .int .i64 e]), recovered := true }
theorem cl_panic (b2 b3 b4 : Nat) (a e x y : Int) (v : Value) (w : World) (h2 : Blk w b2 23 #[v]) (h3 : Blk w b3 3 #[.int .i64 x]) (h4 : Blk w b4 24 #[.int .i64 y]) : CallsD Try.prog 21 #[.pointer (some ⟨b2, 0, none⟩), .pointer (some ⟨b3, 0, none⟩), .pointer (some ⟨b4, 0, none⟩)] (.panicking [pfault a e]) w fun en u' w' => en = .returned (.tuple #[]) ∧ u' = .panicking [caughtP a e] ∧
  Blk w' b2 23 #[.slice none 0 0] ∧ Blk w' b3 3 #[.int .i64 a] ∧ Blk w' b4 24 #[.int .i64 e] ∧ Chg (fun k => k = b2 ∨ k = b3 ∨ k = b4) w w' := by
 unfold pfault caughtP
 have hta : ∀ W : World, (Instr.typeAssert (.iface 56 (.agg #[.int .i64 a, .int .i64 e])) 20 56 true).run Try.prog W = .ok (.tuple #[.agg #[.int .i64 a, .int .i64 e], .bool true]) W := fun _ => by kernel_rfl
 have n1 : b2 ≠ b3 := fun h => absurd ((h ▸ h2.hasT).uniq h3.hasT) (by decide)
 have n2 : b2 ≠ b4 := fun h => absurd ((h ▸ h2.hasT).uniq h4.hasT) (by decide)
 have n3 : b3 ≠ b4 := fun h => absurd ((h ▸ h3.hasT).uniq h4.hasT) (by decide)
 have HA2 := hide h2
 have HA3 := hide h3
 have HA4 := hide h4
 clear h2 h3 h4
 refine callsD_of_wpS Try.func21 rfl fun c₀ cs hu => ?_
 apply wpS_seq
 apply wpS_region
 simp [wpOpsS, go_sem, recoverD, hu, Try.ntmps21, Exit.thenS]
 simp only [Array.replicate_succ, Array.replicate_zero, List.push_toArray, List.append_toArray, List.nil_append, List.cons_append, List.setIfInBounds_toArray, List.set_cons_zero, List.set_cons_succ]
 refine wpS_of_wp ?_
 go_wp2_with fail
 have k2 := HA2.out.alloc (.cells #[.int .i64 a, .int .i64 e] 56)
 have k3 := HA3.out.alloc (.cells #[.int .i64 a, .int .i64 e] 56)
 have k4 := HA4.out.alloc (.cells #[.int .i64 a, .int .i64 e] 56)
 have kf := Blk.new w 56 #[.int .i64 a, .int .i64 e]
 have hch : Chg (fun k => k = b2 ∨ k = b3 ∨ k = b4) w (w.alloc (.cells #[.int .i64 a, .int .i64 e] 56)) := (Chg.refl _ w).alloc _
 have nf2 : w.heap.size ≠ b2 := by have := Blk.lt HA2.out; omega
 have nf3 : w.heap.size ≠ b3 := by have := Blk.lt HA3.out; omega
 generalize w.alloc (.cells #[.int .i64 a, .int .i64 e] 56) = W at k2 k3 k4 kf hch ⊢
 obtain ⟨bf, hbf⟩ : ∃ bf, w.heap.size = bf := ⟨_, rfl⟩
 rw [hbf] at kf nf2 nf3 ⊢
 have K2 := hide (Blk.chg k2 (Chg.refl nobody W |>.drew) (fun h => h))
 have K3 := hide (Blk.chg k3 (Chg.refl nobody W |>.drew) (fun h => h))
 have K4 := hide (Blk.chg k4 (Chg.refl nobody W |>.drew) (fun h => h))
 have KF := hide (Blk.chg kf (Chg.refl nobody W |>.drew) (fun h => h))
 have HCH := hide (hch.drew)
 have e0 : W.cell? ⟨bf, 0, none⟩ = some (.int .i64 a) := Blk.cell kf 0
 have e1 : W.cell? ⟨bf, 1, none⟩ = some (.int .i64 e) := Blk.cell kf 1
 have c2 : W.cell? ⟨b2, 0, none⟩ = some v := Blk.cell k2 0
 have c3 : W.cell? ⟨b3, 0, none⟩ = some (.int .i64 x) := Blk.cell k3 0
 have c4 : W.cell? ⟨b4, 0, none⟩ = some (.int .i64 y) := Blk.cell k4 0
 have z2 := Blk.frozen k2 0
 have z3 := Blk.frozen k3 0
 have z4 := Blk.frozen k4 0
 have l2 := Blk.lt k2
 have l3 := Blk.lt k3
 have l4 := Blk.lt k4
 clear k2 k3 k4 kf hch hbf
 refine wp_region_perm [0, 1, 2, 3] [4, 5, 6] (by kernel_rfl) (by kernel_rfl) (fun W' => W'.cell? ⟨bf, 0, none⟩ = some (.int .i64 a) ∧ W'.cell? ⟨bf, 1, none⟩ = some (.int .i64 e)) ⟨e0, e1⟩ ?_
 simp only [pick, List.getElem?_cons_zero, List.getElem?_cons_succ]
 refine wpTake_cons ?_ (by rfl) ?_ ?_
 rotate_left
 ·(intro W9 hSW; obtain ⟨hs0, hs1⟩ := hSW; go_simp; try with_reducible rfl)
 simp only [Act.put, List.setIfInBounds_toArray, List.set_cons_zero, List.set_cons_succ]
 refine wpTake_cons ?_ (by rfl) ?_ ?_
 rotate_left
 ·(intro W9 hSW; obtain ⟨hs0, hs1⟩ := hSW; go_simp; try with_reducible rfl)
 simp only [Act.put, List.setIfInBounds_toArray, List.set_cons_zero, List.set_cons_succ]
 refine wpTake_cons ?_ (by rfl) ?_ ?_
 rotate_left
 ·(intro W9 hSW; obtain ⟨hs0, hs1⟩ := hSW; go_simp; try with_reducible rfl)
 simp only [Act.put, List.setIfInBounds_toArray, List.set_cons_zero, List.set_cons_succ]
 refine wpTake_cons ?_ (by rfl) ?_ ?_
 rotate_left
 ·(intro W9 hSW; obtain ⟨hs0, hs1⟩ := hSW; go_simp; try with_reducible rfl)
 simp only [Act.put, List.setIfInBounds_toArray, List.set_cons_zero, List.set_cons_succ]
 refine wpTake_nil ?_
 refine wpForce_cons fun G1 hG1 => ?_
 refine step_skip (W.drew.setCell ⟨b2, 0, none⟩ (.slice none 0 0)) (by rfl) (by go_simp) ?_
 have KF1 := hide (Blk.far KF.out (p := ⟨b2, 0, none⟩) nf2 (.slice none 0 0))
 refine hG1.out _ _ ⟨Blk.cell KF1.out 0, Blk.cell KF1.out 1⟩ ?_
 simp only [Act.put]
 refine wpForce_cons fun G2 hG2 => ?_
 have q3 := Blk.far K3.out (p := ⟨b2, 0, none⟩) (Ne.symm n1) (.slice none 0 0)
 have c31 : (W.drew.setCell ⟨b2, 0, none⟩ (.slice none 0 0)).cell? ⟨b3, 0, none⟩ = some (.int .i64 x) := Blk.cell q3 0
 have z31 := Blk.frozen q3 0
 have l31 := Blk.lt q3
 refine step_skip ((W.drew.setCell ⟨b2, 0, none⟩ (.slice none 0 0)).setCell ⟨b3, 0, none⟩ (.int .i64 a)) (by rfl) (by go_simp) ?_
 have KF2 := hide (Blk.far KF1.out (p := ⟨b3, 0, none⟩) nf3 (.int .i64 a))
 refine hG2.out _ _ ⟨Blk.cell KF2.out 0, Blk.cell KF2.out 1⟩ ?_
 simp only [Act.put]
 refine wpForce_one ?_
 have q4 := Blk.far (Blk.far K4.out (p := ⟨b2, 0, none⟩) (Ne.symm n2) (.slice none 0 0)) (p := ⟨b3, 0, none⟩) (Ne.symm n3) (.int .i64 a)
 have c42 : ((W.drew.setCell ⟨b2, 0, none⟩ (.slice none 0 0)).setCell ⟨b3, 0, none⟩ (.int .i64 a)).cell? ⟨b4, 0, none⟩ = some (.int .i64 y) := Blk.cell q4 0
 have z42 := Blk.frozen q4 0
 have l42 := Blk.lt q4
 have R2 := hide (Blk.far (Blk.far (Blk.set_ K2.out 0 (.slice none 0 0)) (p := ⟨b3, 0, none⟩) n1 (.int .i64 a)) (p := ⟨b4, 0, none⟩) n2 (.int .i64 e))
 have R3 := hide (Blk.far (Blk.set_ q3 0 (.int .i64 a)) (p := ⟨b4, 0, none⟩) n3 (.int .i64 e))
 have R4 := hide (Blk.set_ q4 0 (.int .i64 e))
 have RC := hide (((HCH.out.setCell (p := ⟨b2, 0, none⟩) (.inl (.inl rfl)) (.slice none 0 0)).setCell (p := ⟨b3, 0, none⟩) (.inl (.inr (.inl rfl))) (.int .i64 a)).setCell (p := ⟨b4, 0, none⟩) (.inl (.inr (.inr rfl))) (.int .i64 e))
 clear hG1 hG2 G1 G2
 go_wp2
 refine NoPanic.normal ?_
 go_wp2
 refine ⟨rfl, _, rfl, _, results_none rfl _ _ _, rfl, rfl, R2.out, R3.out, R4.out, RC.out⟩
end Go.Proofs.Ytgpfjcogaheopaa

end
section
/- Parse. -/
namespace Go.Proofs.Ytgpfjcogaheopaa
open Go.RowKit Lx
set_option maxRecDepth 100000
def ParsePost (w : World) (p : Ps) (e : Ending) (w' : World) : Prop := ∃ v, e = .returned (.tuple #[v, .int .i64 p.a, .int .i64 p.e]) ∧ NdS (fun k => k < w.heap.size) w' v p.ns ∧ (∀ b, v.ownBlock = some b → w.heap.size ≤ b) ∧ w.grownBy w' none
theorem parse_res {w : World} {a b c : Nat} {v x y : Value} (h2 : w.cell? ⟨a, 0, none⟩ = some v) (h3 : w.cell? ⟨b, 0, none⟩ = some x) (h4 : w.cell? ⟨c, 0, none⟩ = some y) {tmps : Array Value} (t2 : tmps.getD 2 undef = .pointer (some ⟨a, 0, none⟩)) (t3 : tmps.getD 3 undef = .pointer (some ⟨b, 0, none⟩)) (t4 : tmps.getD 4 undef = .pointer (some ⟨c, 0, none⟩)) :
  (results Try.f11 tmps).run Try.prog w = .ok (.tuple #[v, x, y]) w := by
 have t2' : tmps[2]?.getD undef = .pointer (some ⟨a, 0, none⟩) := by simpa using t2
 have t3' : tmps[3]?.getD undef = .pointer (some ⟨b, 0, none⟩) := by simpa using t3
 have t4' : tmps[4]?.getD undef = .pointer (some ⟨c, 0, none⟩) := by simpa using t4
 simp [results, Try.results11, go_sem, t2', t3', t4', h2, h3, h4]
/-- The three results, in new blocks. -/
structure P3 (w W : World) (v : Value) (x y : Int) : Prop where
 b2 : Blk W w.heap.size 23 #[v]
 b3 : Blk W (w.heap.size + 1) 3 #[.int .i64 x]
 b4 : Blk W (w.heap.size + 1 + 1) 24 #[.int .i64 y]
 gr : w.grownBy W none
section
variable {w W W' : World} {v u : Value} {x y : Int}
theorem P3.start (w : World) : P3 w (((w.alloc (.cells #[.slice none 0 0] 23)).alloc (.cells #[.int .i64 0] 3)).alloc (.cells #[.int .i64 0] 24)) (.slice none 0 0) 0 0 := by
 refine ⟨((Blk.new w 23 _).alloc _).alloc _, ?_, ?_, only_alloc (only_alloc (only_alloc (only_refl w none) _) _) _⟩
 ·have := (Blk.new (w.alloc (.cells #[.slice none 0 0] 23)) 3 #[.int .i64 0]).alloc (.cells #[.int .i64 0] 24)
  rwa [World.size_alloc] at this
 ·have := Blk.new ((w.alloc (.cells #[.slice none 0 0] 23)).alloc (.cells #[.int .i64 0] 3)) 24 #[.int .i64 0]
  rwa [World.size_alloc, World.size_alloc] at this
theorem P3.grown (h : P3 w W v x y) (hg : W.grownBy W' none) : P3 w W' v x y := ⟨Blk.grown h.b2 hg (by simp), Blk.grown h.b3 hg (by simp), Blk.grown h.b4 hg (by simp), none_trans h.gr hg⟩
theorem P3.fr (h : P3 w W v x y) (hf : Fr (fun k => w.heap.size ≤ k) W W') : P3 w W' v x y :=
 ⟨hf.blk h.b2 (by decide) (by decide), hf.blk h.b3 (by decide) (by decide), hf.blk h.b4 (by decide) (by decide), Chg.grown (Chg.trans (Chg.of_grown h.gr (fun _ h => by cases h) : Chg nobody w W) hf fun i hi hs => absurd hs.1 (by omega)) (fun _ _ h => h)⟩
theorem P3.chg (h : P3 w W v x y) (hc : Chg (fun k => k = w.heap.size ∨ k = w.heap.size + 1 ∨ k = w.heap.size + 1 + 1) W W') : w.grownBy W' none :=
 Chg.grown (Chg.trans (Chg.of_grown h.gr (fun _ h => by cases h) : Chg nobody w W) hc fun i hi hs => by exfalso; omega) (fun _ _ h => h)
theorem P3.set2 (h : P3 w W v x y) (u : Value) : P3 w (W.setCell ⟨w.heap.size, 0, none⟩ u) u x y :=
 ⟨Blk.set_ h.b2 0 u, Blk.far h.b3 (p := ⟨w.heap.size, 0, none⟩) (by show w.heap.size + 1 ≠ w.heap.size; omega) _, Blk.far h.b4 (p := ⟨w.heap.size, 0, none⟩) (by show w.heap.size + 1 + 1 ≠ w.heap.size; omega) _, none_setCell h.gr (p := ⟨w.heap.size, 0, none⟩) (Nat.le_refl _) _⟩
theorem P3.set3 (h : P3 w W v x y) (a : Int) : P3 w (W.setCell ⟨w.heap.size + 1, 0, none⟩ (.int .i64 a)) v a y :=
 ⟨Blk.far h.b2 (p := ⟨w.heap.size + 1, 0, none⟩) (by show w.heap.size ≠ w.heap.size + 1; omega) _, Blk.set_ h.b3 0 _, Blk.far h.b4 (p := ⟨w.heap.size + 1, 0, none⟩) (by show w.heap.size + 1 + 1 ≠ w.heap.size + 1; omega) _, none_setCell h.gr (p := ⟨w.heap.size + 1, 0, none⟩) (by show w.heap.size ≤ w.heap.size + 1; omega) _⟩
theorem P3.set4 (h : P3 w W v x y) (a : Int) : P3 w (W.setCell ⟨w.heap.size + 1 + 1, 0, none⟩ (.int .i64 a)) v x a :=
 ⟨Blk.far h.b2 (p := ⟨w.heap.size + 1 + 1, 0, none⟩) (by show w.heap.size ≠ w.heap.size + 1 + 1; omega) _, Blk.far h.b3 (p := ⟨w.heap.size + 1 + 1, 0, none⟩) (by show w.heap.size + 1 ≠ w.heap.size + 1 + 1; omega) _, Blk.set_ h.b4 0 _, none_setCell h.gr (p := ⟨w.heap.size + 1 + 1, 0, none⟩) (by show w.heap.size ≤ w.heap.size + 1 + 1; omega) _⟩
theorem P3.cells (h : P3 w W v x y) : W.cell? ⟨w.heap.size, 0, none⟩ = some v ∧ W.cell? ⟨w.heap.size + 1, 0, none⟩ = some (.int .i64 x) ∧ W.cell? ⟨w.heap.size + 1 + 1, 0, none⟩ = some (.int .i64 y) ∧ w.heap.size < W.heap.size ∧ w.heap.size + 1 < W.heap.size ∧ w.heap.size + 1 + 1 < W.heap.size ∧ W.frozen? ⟨w.heap.size, 0, none⟩ = false ∧ W.frozen? ⟨w.heap.size + 1, 0, none⟩ = false ∧ W.frozen? ⟨w.heap.size + 1 + 1, 0, none⟩ = false :=
 ⟨Blk.cell h.b2 0, Blk.cell h.b3 0, Blk.cell h.b4 0, Blk.lt h.b2, Blk.lt h.b3, Blk.lt h.b4, Blk.frozen h.b2 0, Blk.frozen h.b3 0, Blk.frozen h.b4 0⟩
theorem NdS.three {ns : List Nd} (hp : P3 w W u x y) (h : NdS (fun k => k < w.heap.size + 3) W v ns) (a b c : Value) : NdS (fun k => k < w.heap.size) (((W.setCell ⟨w.heap.size, 0, none⟩ a).setCell ⟨w.heap.size + 1, 0, none⟩ b).setCell ⟨w.heap.size + 1 + 1, 0, none⟩ c) v ns := by
 have hc : Chg (fun k => k = w.heap.size ∨ k = w.heap.size + 1 ∨ k = w.heap.size + 1 + 1) W (((W.setCell ⟨w.heap.size, 0, none⟩ a).setCell ⟨w.heap.size + 1, 0, none⟩ b).setCell ⟨w.heap.size + 1 + 1, 0, none⟩ c) :=
  (((Chg.refl _ W).setCell (p := ⟨w.heap.size, 0, none⟩) (.inl (.inl rfl)) a).setCell (p := ⟨w.heap.size + 1, 0, none⟩) (.inl (.inr (.inl rfl))) b).setCell (p := ⟨w.heap.size + 1 + 1, 0, none⟩) (.inl (.inr (.inr rfl))) c
 obtain ⟨cs, h1, h2⟩ := h
 have hm : ∀ k, k < w.heap.size → k < w.heap.size + 3 := fun k hk => by omega
 refine ⟨cs, h1.chg hc (fun g hg e => ?_), fun i hi => ?_⟩
 ·rcases e with rfl | rfl | rfl
  ·exact absurd ((Own.hasT h1 hg).uniq hp.b2.hasT) (by decide)
  ·exact absurd ((Own.hasT h1 hg).uniq hp.b3.hasT) (by decide)
  ·exact absurd ((Own.hasT h1 hg).uniq hp.b4.hasT) (by decide)
 ·obtain ⟨p, q, r, s, t, e, hn⟩ := h2 i hi
  refine ⟨p, q, r, s, t, e, (NdAt.chg hc (fun k hk => ?_) hn).mono hm⟩
  show k < w.heap.size + 3
  omega
theorem RIs.start {L : Nat} {ts : List Tok} (ht : Toks L ts) (_hL : L ≤ 4096) (hw : w.heap.size ≤ W.heap.size) (hv : Own W 41 3 v ts.length (tcs ts) 0) : RIs (fun k => k < w.heap.size + 3) (fun k => w.heap.size ≤ k) (W.alloc (.cells #[v, .slice none 0 0, .int .i64 0] 54)) W.heap.size ts [] 0 := by
 refine ⟨v, .slice none 0 0, Blk.new W 54 _, hv.alloc _, NdS.nil _ _, fun b hb => (by cases hb), ⟨hw, fun k hk => ?_⟩, ht.good, ?_, by omega, fun t h => ?_⟩
 ·rw [World.size_alloc] at hk; show w.heap.size ≤ k; omega
 ·have := ht.len; simp only [List.length_nil]; omega
 ·rcases ht.w t h with ⟨h1, h2, _⟩ | h1
  ·exact ⟨by rw [h2]; simp, fun e => by omega⟩
  ·exact ⟨h1.len, h1.io⟩
end
def parseG (ts : List Tok) (T : List Tok) : Ps := match T with
 | [] => ⟨[], 0, 0⟩
 | t :: r => if t.k = 4 then ⟨[], 0, 0⟩ else match lst ts.length 0 (t :: r) [] with
  | .bad a e => ⟨[], a, e⟩
  | .ok _ ts ns => match ts with
   | [] => ⟨[], 0, 0⟩
   | u :: _ => if u.k ≠ 4 then ⟨[], u.a, 17⟩ else if 300 < ns.length then ⟨[], 0, 12⟩ else ⟨ns, 0, 0⟩
theorem parseT_eq (ts : List Tok) : parseT ts = parseG ts (breaksF ts) := rfl
set_option maxHeartbeats 16000000 in
theorem parse_any (s : List UInt8) (w : World) (hm : s.length ≤ 9223372036854775807) : Calls Try.prog 11 #[sv s] w (ParsePost w (parseF s)) := by
 have hmf : ∀ (fn : Fn) (first cap : Array Value) (w : World), (Instr.makeFunc fn first cap).run Try.prog w = .ok (.func fn first cap) w := fun _ _ _ _ => rfl
 have HA := hide (fun W => all_any s W hm)
 have HP0 := hide (P3.start w)
 obtain ⟨R, hR⟩ : ∃ R, parseF s = R := ⟨_, rfl⟩
 rw [hR]
 have HR := hide (show R = (match allF s with | .err a e => ⟨[], a, e⟩ | .ok ts => parseT ts) from hR.symm)
 obtain ⟨PA, hpa⟩ : ∃ PA, allF s = PA := ⟨_, rfl⟩
 rw [hpa] at HA HR
 have HPA := hide hpa
 unfold ParsePost sv at *
 clear hR hpa hm
 cases PA with
 | err a e =>
  have HE := hide (all_e HPA.out)
  have hq : (e != 0) = true := by rw [bne_iff_ne]; exact HE.out.1
  have hq2 : (e == 0) = false := by rw [beq_eq_false_iff_ne]; exact HE.out.1
  unfold AllPost at HA
  go_enter_defers Try.func11, Try.ntmps11
  go_wp2_with fail
  refine (HA.out _).mono ?_
  rintro e1 w1 ⟨rfl, g1⟩
  have h1 := HP0.out.grown g1
  obtain ⟨c2, c3, c4, l2, l3, l4, z2, z3, z4⟩ := P3.cells h1
  have H2 := hide ((h1.set3 a).set4 e)
  clear g1 h1
  go_upto_region 3 with (fail)
  obtain ⟨W, hW⟩ : ∃ W, (w1.setCell ⟨w.heap.size + 1, 0, none⟩ (.int .i64 a)).setCell ⟨w.heap.size + 1 + 1, 0, none⟩ (.int .i64 e) = W := ⟨_, rfl⟩
  rw [hW] at H2 ⊢
  clear hW c2 c3 c4 l2 l3 l4 z2 z3 z4
  have h3 := H2.out.grown (only_drew (only_refl W none))
  obtain ⟨c2, c3, c4, l2, l3, l4, z2, z3, z4⟩ := P3.cells H2.out
  have H4 := hide ((((H2.out.set2 (.slice none 0 0)).set3 a).set4 e).grown (only_drew (only_refl _ none)))
  have c33 := (h3.set2 (.slice none 0 0)).cells
  have c44 := ((h3.set2 (.slice none 0 0)).set3 a).cells
  refine wp_region_perm [0, 1] [2, 3, 4] (by kernel_rfl) (by kernel_rfl) (fun W' => W'.cell? ⟨w.heap.size + 1, 0, none⟩ = some (.int .i64 a) ∧ W'.cell? ⟨w.heap.size + 1 + 1, 0, none⟩ = some (.int .i64 e)) ⟨c3, c4⟩ ?_
  simp only [pick, List.getElem?_cons_zero, List.getElem?_cons_succ]
  refine wpTake_cons ?_ (by rfl) ?_ ?_
  rotate_left
  ·(intro W9 hSW; obtain ⟨hs0, hs1⟩ := hSW; go_simp; try with_reducible rfl)
  simp only [Act.put, List.setIfInBounds_toArray, List.set_cons_zero, List.set_cons_succ]
  refine wpTake_cons ?_ (by rfl) ?_ ?_
  rotate_left
  ·(intro W9 hSW; obtain ⟨hs0, hs1⟩ := hSW; go_simp; try with_reducible rfl)
  simp only [Act.put, List.setIfInBounds_toArray, List.set_cons_zero, List.set_cons_succ]
  refine wpTake_nil ?_
  refine wpForce_cons fun G1 hG1 => ?_
  refine step_skip (W.drew.setCell ⟨w.heap.size, 0, none⟩ (.slice none 0 0)) (by rfl) (by go_simp) ?_
  refine hG1.out _ _ ⟨c33.2.1, c33.2.2.1⟩ ?_
  simp only [Act.put]
  refine wpForce_cons fun G2 hG2 => ?_
  refine step_skip ((W.drew.setCell ⟨w.heap.size, 0, none⟩ (.slice none 0 0)).setCell ⟨w.heap.size + 1, 0, none⟩ (.int .i64 a)) (by rfl) (by go_simp) ?_
  refine hG2.out _ _ ⟨c44.2.1, c44.2.2.1⟩ ?_
  simp only [Act.put]
  refine wpForce_one ?_
  clear hG1 hG2 G1 G2 h3 c33 c44
  go_wp2
  refine NoPanic.normal ?_
  go_wp2_with fail
  have HRX := hide (show R = ⟨[], a, e⟩ from HR.out)
  generalize (((W.setCell ⟨w.heap.size, 0, none⟩ (.slice none 0 0)).setCell ⟨w.heap.size + 1, 0, none⟩ (.int .i64 a)).setCell ⟨w.heap.size + 1 + 1, 0, none⟩ (.int .i64 e)).drew = W9 at H4 ⊢
  rw [HRX.out]
  simp [Leaves, bodyPostD]
  exact ⟨_, parse_res (Blk.cell H4.out.b2 0) (Blk.cell H4.out.b3 0) (Blk.cell H4.out.b4 0) rfl rfl rfl, ⟨_, rfl, NdS.nil _ _, fun b hb => (by cases hb), H4.out.gr⟩⟩
 | ok ts =>
  obtain ⟨hsl, htk⟩ := all_toks HPA.out
  have HTK := hide htk
  have HSL := hide hsl
  unfold AllPost at HA
  have HR1 := hide (show R = parseG ts (breaksF ts) from HR.out)
  clear hsl htk
  go_enter_defers Try.func11, Try.ntmps11
  go_wp2_with fail
  refine (HA.out _).mono ?_
  rintro e1 w1 ⟨⟨v, rfl, hown, hnew⟩, g1⟩
  have h1 := HP0.out.grown g1
  obtain ⟨c2, c3, c4, l2, l3, l4, z2, z3, z4⟩ := P3.cells h1
  have H2 := hide ((h1.set3 0).set4 0)
  have HO2 := hide (Own.far (p := ⟨w.heap.size + 1 + 1, 0, none⟩) (Own.far (p := ⟨w.heap.size + 1, 0, none⟩) hown (fun e => by have := hnew _ e; rw [World.size_alloc, World.size_alloc, World.size_alloc] at this; simp at this; omega) (.int .i64 0)) (fun e => by have := hnew _ e; rw [World.size_alloc, World.size_alloc, World.size_alloc] at this; simp at this; omega) (.int .i64 0))
  obtain ⟨va, vc, rfl, _, _⟩ := Own.form hown
  clear g1 h1 hown hnew
  go_upto_region 4 with (fail)
  obtain ⟨W2, hW2⟩ : ∃ W2, (w1.setCell ⟨w.heap.size + 1, 0, none⟩ (.int .i64 0)).setCell ⟨w.heap.size + 1 + 1, 0, none⟩ (.int .i64 0) = W2 := ⟨_, rfl⟩
  rw [hW2] at H2 HO2 ⊢
  clear hW2 c2 c3 c4 l2 l3 l4 z2 z3 z4
  obtain ⟨rb, hrb⟩ : ∃ rb, W2.heap.size = rb := ⟨_, rfl⟩
  have HI := hide (RIs.start HTK.out HSL.out H2.out.gr.size HO2.out)
  have HRB := hide hrb
  rw [hrb] at HI
  have H3 := hide (H2.out.grown (only_alloc (only_refl W2 none) (.cells #[.slice va ts.length vc, .slice none 0 0, .int .i64 0] 54)))
  have HQ := hide (breaks_g HI.out)
  have hbk := breaks_good HTK.out.good
  obtain ⟨T, hT⟩ : ∃ T, breaksF ts = T := ⟨_, rfl⟩
  rw [hT] at HQ HR1 hbk
  have HBK := hide hbk
  unfold GPost vUnit at HQ
  clear hT hbk
  go_wp2_with fail
  refine HQ.out.mono ?_
  rintro e w3 ⟨v, rfl, rfl, hr3, hf3⟩
  have H4 := hide (P3.fr H3.out hf3)
  have HI3 := hide hr3
  clear hr3 hf3 hrb
  obtain ⟨vt, vn, t, r, g, off, cap, rfl, rfl, hc, hg, k0, k1, k2, lb, d0, d1, hra⟩ := HI3.out.head
  have HQL := hide (lst_all ts.length (fun k => k < w.heap.size + 3) (fun k => w.heap.size ≤ k) rb 0 (t :: r) [] w3 (fun k hk => by have h1 := Blk.lt H4.out.b4; have h2 : k < w.heap.size + 3 := hk; omega) HI3.out HBK.out.2)
  have hib : (0 : Int) < (((t :: r).length : Nat) : Int) := by simp only [List.length_cons]; omega
  obtain ⟨L, hL⟩ : ∃ L, (t :: r).length = L := ⟨_, rfl⟩
  rw [hL] at d0 hib hc
  clear hL hra
  by_cases hk : t.k = 4
  ·have HRX := hide (show R = ⟨[], 0, 0⟩ from HR1.out.trans (by show (if t.k = 4 then _ else _) = _; rw [if_pos hk]))
   have hkb : ((t.k : Int) == 4) = true := by rw [beq_iff_eq]; omega
   obtain ⟨c2, c3, c4, l2, l3, l4, z2, z3, z4⟩ := P3.cells H4.out
   have H9 := hide (((H4.out.set2 (.slice none 0 0)).set3 0).set4 0)
   clear hk
   go_wp2_with fail
   generalize ((w3.setCell ⟨w.heap.size, 0, none⟩ (.slice none 0 0)).setCell ⟨w.heap.size + 1, 0, none⟩ (.int .i64 0)).setCell ⟨w.heap.size + 1 + 1, 0, none⟩ (.int .i64 0) = W9 at H9 ⊢
   refine leaves_cons (f := 21) (args := #[.pointer (some ⟨w.heap.size, 0, none⟩), .pointer (some ⟨w.heap.size + 1, 0, none⟩), .pointer (some ⟨w.heap.size + 1 + 1, 0, none⟩)]) (by simp []) (by simp [go_sem]) ?_
   refine (cl_idle _ _ _ _).mono ?_
   rintro e u' w'' ⟨rfl, rfl, rfl⟩
   simp [Leaves, settle]
   exact ⟨_, parse_res (Blk.cell H9.out.b2 0) (Blk.cell H9.out.b3 0) (Blk.cell H9.out.b4 0) rfl rfl rfl, by rw [HRX.out]; exact ⟨_, rfl, NdS.nil _ _, fun b hb => (by cases hb), H9.out.gr⟩⟩
  ·have HR2 := hide (show R = (match lst ts.length 0 (t :: r) [] with
    | .bad a e => ⟨[], a, e⟩
    | .ok _ ts ns => match ts with
     | [] => ⟨[], 0, 0⟩
     | u :: _ => if u.k ≠ 4 then ⟨[], u.a, 17⟩ else if 300 < ns.length then ⟨[], 0, 12⟩ else ⟨ns, 0, 0⟩) from HR1.out.trans (by show (if t.k = 4 then _ else _) = _; rw [if_neg hk]))
   have hkb : ((t.k : Int) == 4) = false := by rw [beq_eq_false_iff_ne]; omega
   obtain ⟨PQ, hpq⟩ : ∃ PQ, lst ts.length 0 (t :: r) [] = PQ := ⟨_, rfl⟩
   rw [hpq] at HQL HR2
   have HLL := hide (fun x T' n' e => lst_left ts.length 0 (t :: r) [] x T' n' HBK.out.1 (hpq.trans e))
   unfold GPost vInt at HQL
   clear hk hpq
   go_wp2_with fail
   refine HQL.out.mono ?_
   cases PQ with
   | bad a e =>
    have HRX := hide (show R = ⟨[], a, e⟩ from HR2.out)
    rintro e1 w4 ⟨rfl, hf4⟩
    have h5 := P3.fr H4.out hf4
    refine leaves_cons (f := 21) (args := #[.pointer (some ⟨w.heap.size, 0, none⟩), .pointer (some ⟨w.heap.size + 1, 0, none⟩), .pointer (some ⟨w.heap.size + 1 + 1, 0, none⟩)]) (by simp) (by simp [go_sem]) ?_
    refine (cl_panic _ _ _ a e _ _ _ _ h5.b2 h5.b3 h5.b4).mono ?_
    rintro e1 u' w9 ⟨rfl, rfl, r2, r3, r4, rc⟩
    have hgr := P3.chg h5 rc
    simp [Leaves, settle, caughtP]
    exact ⟨_, parse_res (Blk.cell r2 0) (Blk.cell r3 0) (Blk.cell r4 0) rfl rfl rfl, by rw [HRX.out]; exact ⟨_, rfl, NdS.nil _ _, fun b hb => (by cases hb), hgr⟩⟩
   | ok x T4 n4 =>
    rintro e1 w4 ⟨v, rfl, rfl, hr4, hf4⟩
    have H5 := hide (P3.fr H4.out hf4)
    have HI4 := hide hr4
    clear hr4 hf4 k0 k1 k2 lb d0 d1 hg hc hib hkb
    obtain ⟨vt4, vn4, u, r4, g4, off4, cap4, rfl, rfl, hc4, hg4, k04, k14, k24, lb4, d04, d14, hra4⟩ := HI4.out.head
    have HW := hide (wrong_g HI4.out)
    have HR3 := hide (show R = if u.k ≠ 4 then ⟨[], u.a, 17⟩ else if 300 < n4.length then ⟨[], 0, 12⟩ else ⟨n4, 0, 0⟩ from HR2.out)
    have hib4 : (0 : Int) < (((u :: r4).length : Nat) : Int) := by simp only [List.length_cons]; omega
    have HNd := hide hra4.nds
    have HNn := hide hra4.new
    obtain ⟨ncs, hncs, _⟩ := hra4.nds
    obtain ⟨na, nc, rfl, _, _⟩ := Own.form hncs
    obtain ⟨NL, hNL⟩ : ∃ NL, n4.length = NL := ⟨_, rfl⟩
    have HNL := hide hNL
    rw [hNL] at d14
    obtain ⟨L4, hL4⟩ : ∃ L4, (u :: r4).length = L4 := ⟨_, rfl⟩
    rw [hL4] at d04 hib4 hc4
    clear hL4 hra4 hncs hNL
    by_cases hu : u.k = 4
    ·have hub : ((u.k : Int) != 4) = false := by rw [bne_eq_false_iff_eq]; omega
     have HR4 := hide (show R = if 300 < n4.length then ⟨[], 0, 12⟩ else ⟨n4, 0, 0⟩ from HR3.out.trans (if_neg (by simpa using hu)))
     clear hu
     by_cases hn : 300 < NL
     ·have HRX := hide (show R = ⟨[], 0, 12⟩ from HR4.out.trans (if_pos (by have := HNL.out; omega)))
      have hnb : decide ((300 : Int) < (NL : Int)) = true := decide_eq_true (by omega)
      obtain ⟨c2, c3, c4, l2, l3, l4, z2, z3, z4⟩ := P3.cells H5.out
      have H9 := hide (((H5.out.set2 (.slice none 0 0)).set3 0).set4 12)
      go_wp2_with fail
      generalize ((w4.setCell ⟨w.heap.size, 0, none⟩ (.slice none 0 0)).setCell ⟨w.heap.size + 1, 0, none⟩ (.int .i64 0)).setCell ⟨w.heap.size + 1 + 1, 0, none⟩ (.int .i64 12) = W9 at H9 ⊢
      refine leaves_cons (f := 21) (args := #[.pointer (some ⟨w.heap.size, 0, none⟩), .pointer (some ⟨w.heap.size + 1, 0, none⟩), .pointer (some ⟨w.heap.size + 1 + 1, 0, none⟩)]) (by simp []) (by simp [go_sem]) ?_
      refine (cl_idle _ _ _ _).mono ?_
      rintro e u' w'' ⟨rfl, rfl, rfl⟩
      simp [Leaves, settle]
      exact ⟨_, parse_res (Blk.cell H9.out.b2 0) (Blk.cell H9.out.b3 0) (Blk.cell H9.out.b4 0) rfl rfl rfl, by rw [HRX.out]; exact ⟨_, rfl, NdS.nil _ _, fun b hb => (by cases hb), H9.out.gr⟩⟩
     ·have HRX := hide (show R = ⟨n4, 0, 0⟩ from HR4.out.trans (if_neg (by have := HNL.out; omega)))
      have hnb : decide ((300 : Int) < (NL : Int)) = false := decide_eq_false (by omega)
      obtain ⟨c2, c3, c4, l2, l3, l4, z2, z3, z4⟩ := P3.cells H5.out
      have H9 := hide (((H5.out.set2 (.slice na NL nc)).set3 0).set4 0)
      have HNn2 := hide (show ∀ b, (Value.slice na NL nc).ownBlock = some b → w.heap.size ≤ b by have := HNn.out; rw [HNL.out] at this; exact this)
      have HN9 := hide (NdS.three (v := .slice na n4.length nc) H5.out HNd.out (.slice na NL nc) (.int .i64 0) (.int .i64 0))
      rw [HNL.out] at HN9
      go_wp2_with fail
      generalize ((w4.setCell ⟨w.heap.size, 0, none⟩ (.slice na NL nc)).setCell ⟨w.heap.size + 1, 0, none⟩ (.int .i64 0)).setCell ⟨w.heap.size + 1 + 1, 0, none⟩ (.int .i64 0) = W9 at H9 HN9 ⊢
      refine leaves_cons (f := 21) (args := #[.pointer (some ⟨w.heap.size, 0, none⟩), .pointer (some ⟨w.heap.size + 1, 0, none⟩), .pointer (some ⟨w.heap.size + 1 + 1, 0, none⟩)]) (by simp []) (by simp [go_sem]) ?_
      refine (cl_idle _ _ _ _).mono ?_
      rintro e u' w'' ⟨rfl, rfl, rfl⟩
      simp [Leaves, settle]
      exact ⟨_, parse_res (Blk.cell H9.out.b2 0) (Blk.cell H9.out.b3 0) (Blk.cell H9.out.b4 0) rfl rfl rfl, by rw [HRX.out]; exact ⟨_, rfl, HN9.out, HNn2.out, H9.out.gr⟩⟩
    ·have hub : ((u.k : Int) != 4) = true := by rw [bne_iff_ne]; omega
     have HRX := hide (show R = ⟨[], u.a, 17⟩ from HR3.out.trans (if_pos hu))
     have HU := hide hu
     clear hu
     go_wp2_with fail
     refine HW.out.mono ?_
     rintro e1 w5 ⟨rfl, g5⟩
     have h6 := H5.out.grown g5
     rw [if_neg HU.out]
     refine leaves_cons (f := 21) (args := #[.pointer (some ⟨w.heap.size, 0, none⟩), .pointer (some ⟨w.heap.size + 1, 0, none⟩), .pointer (some ⟨w.heap.size + 1 + 1, 0, none⟩)]) (by simp) (by simp [go_sem]) ?_
     refine (cl_panic _ _ _ u.a 17 _ _ _ _ h6.b2 h6.b3 h6.b4).mono ?_
     rintro e1 u' w9 ⟨rfl, rfl, r2, r3, r4, rc⟩
     have hgr := P3.chg h6 rc
     simp [Leaves, settle, caughtP]
     exact ⟨_, parse_res (Blk.cell r2 0) (Blk.cell r3 0) (Blk.cell r4 0) rfl rfl rfl, by rw [HRX.out]; exact ⟨_, rfl, NdS.nil _ _, fun b hb => (by cases hb), hgr⟩⟩
end Go.Proofs.Ytgpfjcogaheopaa

end
