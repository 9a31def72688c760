/- The readers' recursion; what is given up with is caught; the lexer's tokens. -/
import Derived.Test.YtgpfjcogaheopaaPU
import Derived.Test.YtgpfjcogaheopaaPL
import Derived.Test.YtgpfjcogaheopaaXK
import Derived.Recover
import Derived.Defers
import Derived.Laws.Pointers
set_option linter.all false
namespace Go.Proofs.Ytgpfjcogaheopaa
open Go.RowKit Lx
set_option maxRecDepth 100000

theorem lst_okc (f : Nat) (hc : Okp (fun ts => cmpH ts = true) 89 (core f) f) : Okc 23 (lst f) f :=
  list_ok f (fun d => itemF (pipeF (cmdF (cmpF (core f)) d))) (fun d => item_dec (pipe_dec (cmd_dec (cmp_dec (core_dec f)) d)))
    (item_ok f (fun d => pipeF (cmdF (cmpF (core f)) d)) (fun d => pipe_dec (cmd_dec (cmp_dec (core_dec f)) d))
      (pipe_ok f (cmdF (cmpF (core f))) (fun d => cmd_dec (cmp_dec (core_dec f)) d)
        (command_ok f (cmpF (core f)) (cmp_dec (core_dec f)) (compound_ok f (core f) (core_dec f) hc))))
theorem core_all : ∀ f, Okp (fun ts => cmpH ts = true) 89 (core f) f
  | 0 => fun av base rb d ts ns w hav h hn _ => by have := h.good.pos; omega
  | f + 1 => core_ok f (lst f) (lst_left f) (lst_okc f (core_all f))
theorem lst_all (f : Nat) : Okc 23 (lst f) f := lst_okc f (core_all f)

/-! ### what the closure does -/
theorem cl_idle (b2 b3 b4 : Nat) (w : World) : CallsD Try.prog 21 #[.pointer (some ⟨b2, 0, none⟩), .pointer (some ⟨b3, 0, none⟩), .pointer (some ⟨b4, 0, none⟩)] .returning w fun e u' w' => e = .returned (.tuple #[]) ∧ u' = .returning ∧ w' = w := by
  refine callsD_of_wpS Try.func21 rfl fun c₀ cs hu => ?_
  apply wpS_seq
  apply wpS_region
  simp [wpOpsS, go_sem, recoverD, hu, Try.ntmps21, Exit.thenS]
  simp only [Array.replicate_succ, Array.replicate_zero, List.push_toArray, List.append_toArray, List.nil_append, List.cons_append, List.setIfInBounds_toArray, List.set_cons_zero, List.set_cons_succ]
  refine wpS_of_wp ?_
  go_wp2
  refine ⟨rfl, .returning, ?_, _, results_none rfl _ _ _, rfl, rfl, rfl⟩
  cases c₀
  simp_all
def caughtP (a e : Int) : PanicEntry := { v := .iface 56 (.agg #[.int .i64 a, .int .i64 e]), recovered := true }
theorem cl_panic (b2 b3 b4 : Nat) (a e x y : Int) (v : Value) (w : World) (h2 : Blk w b2 23 #[v]) (h3 : Blk w b3 3 #[.int .i64 x]) (h4 : Blk w b4 24 #[.int .i64 y]) : CallsD Try.prog 21 #[.pointer (some ⟨b2, 0, none⟩), .pointer (some ⟨b3, 0, none⟩), .pointer (some ⟨b4, 0, none⟩)] (.panicking [pfault a e]) w fun en u' w' => en = .returned (.tuple #[]) ∧ u' = .panicking [caughtP a e] ∧
    Blk w' b2 23 #[.slice none 0 0] ∧ Blk w' b3 3 #[.int .i64 a] ∧ Blk w' b4 24 #[.int .i64 e] ∧ Chg (fun k => k = b2 ∨ k = b3 ∨ k = b4) w w' := by
  unfold pfault caughtP
  have hta : ∀ W : World, (Instr.typeAssert (.iface 56 (.agg #[.int .i64 a, .int .i64 e])) 20 56 true).run Try.prog W = .ok (.tuple #[.agg #[.int .i64 a, .int .i64 e], .bool true]) W := fun _ => by kernel_rfl
  have n1 : b2 ≠ b3 := fun h => absurd ((h ▸ h2.hasT).uniq h3.hasT) (by decide)
  have n2 : b2 ≠ b4 := fun h => absurd ((h ▸ h2.hasT).uniq h4.hasT) (by decide)
  have n3 : b3 ≠ b4 := fun h => absurd ((h ▸ h3.hasT).uniq h4.hasT) (by decide)
  have HA2 := hide h2
  have HA3 := hide h3
  have HA4 := hide h4
  clear h2 h3 h4
  refine callsD_of_wpS Try.func21 rfl fun c₀ cs hu => ?_
  apply wpS_seq
  apply wpS_region
  simp [wpOpsS, go_sem, recoverD, hu, Try.ntmps21, Exit.thenS]
  simp only [Array.replicate_succ, Array.replicate_zero, List.push_toArray, List.append_toArray, List.nil_append, List.cons_append, List.setIfInBounds_toArray, List.set_cons_zero, List.set_cons_succ]
  refine wpS_of_wp ?_
  go_wp2_with fail
  have k2 := HA2.out.alloc (.cells #[.int .i64 a, .int .i64 e] 56)
  have k3 := HA3.out.alloc (.cells #[.int .i64 a, .int .i64 e] 56)
  have k4 := HA4.out.alloc (.cells #[.int .i64 a, .int .i64 e] 56)
  have kf := Blk.new w 56 #[.int .i64 a, .int .i64 e]
  have hch : Chg (fun k => k = b2 ∨ k = b3 ∨ k = b4) w (w.alloc (.cells #[.int .i64 a, .int .i64 e] 56)) := (Chg.refl _ w).alloc _
  have nf2 : w.heap.size ≠ b2 := by have := Blk.lt HA2.out; omega
  have nf3 : w.heap.size ≠ b3 := by have := Blk.lt HA3.out; omega
  generalize w.alloc (.cells #[.int .i64 a, .int .i64 e] 56) = W at k2 k3 k4 kf hch ⊢
  obtain ⟨bf, hbf⟩ : ∃ bf, w.heap.size = bf := ⟨_, rfl⟩
  rw [hbf] at kf nf2 nf3 ⊢
  have K2 := hide (Blk.chg k2 (Chg.refl nobody W |>.drew) (fun h => h))
  have K3 := hide (Blk.chg k3 (Chg.refl nobody W |>.drew) (fun h => h))
  have K4 := hide (Blk.chg k4 (Chg.refl nobody W |>.drew) (fun h => h))
  have KF := hide (Blk.chg kf (Chg.refl nobody W |>.drew) (fun h => h))
  have HCH := hide (hch.drew)
  have e0 : W.cell? ⟨bf, 0, none⟩ = some (.int .i64 a) := Blk.cell kf 0
  have e1 : W.cell? ⟨bf, 1, none⟩ = some (.int .i64 e) := Blk.cell kf 1
  have c2 : W.cell? ⟨b2, 0, none⟩ = some v := Blk.cell k2 0
  have c3 : W.cell? ⟨b3, 0, none⟩ = some (.int .i64 x) := Blk.cell k3 0
  have c4 : W.cell? ⟨b4, 0, none⟩ = some (.int .i64 y) := Blk.cell k4 0
  have z2 := Blk.frozen k2 0
  have z3 := Blk.frozen k3 0
  have z4 := Blk.frozen k4 0
  have l2 := Blk.lt k2
  have l3 := Blk.lt k3
  have l4 := Blk.lt k4
  clear k2 k3 k4 kf hch hbf
  refine wp_region_perm [0, 1, 2, 3] [4, 5, 6] (by kernel_rfl) (by kernel_rfl) (fun W' => W'.cell? ⟨bf, 0, none⟩ = some (.int .i64 a) ∧ W'.cell? ⟨bf, 1, none⟩ = some (.int .i64 e)) ⟨e0, e1⟩ ?_
  simp only [pick, List.getElem?_cons_zero, List.getElem?_cons_succ]
  refine wpTake_cons ?_ (by rfl) ?_ ?_
  rotate_left
  · (intro W9 hSW; obtain ⟨hs0, hs1⟩ := hSW; go_simp; try with_reducible rfl)
  simp only [Act.put, List.setIfInBounds_toArray, List.set_cons_zero, List.set_cons_succ]
  refine wpTake_cons ?_ (by rfl) ?_ ?_
  rotate_left
  · (intro W9 hSW; obtain ⟨hs0, hs1⟩ := hSW; go_simp; try with_reducible rfl)
  simp only [Act.put, List.setIfInBounds_toArray, List.set_cons_zero, List.set_cons_succ]
  refine wpTake_cons ?_ (by rfl) ?_ ?_
  rotate_left
  · (intro W9 hSW; obtain ⟨hs0, hs1⟩ := hSW; go_simp; try with_reducible rfl)
  simp only [Act.put, List.setIfInBounds_toArray, List.set_cons_zero, List.set_cons_succ]
  refine wpTake_cons ?_ (by rfl) ?_ ?_
  rotate_left
  · (intro W9 hSW; obtain ⟨hs0, hs1⟩ := hSW; go_simp; try with_reducible rfl)
  simp only [Act.put, List.setIfInBounds_toArray, List.set_cons_zero, List.set_cons_succ]
  refine wpTake_nil ?_
  refine wpForce_cons fun G1 hG1 => ?_
  refine step_skip (W.drew.setCell ⟨b2, 0, none⟩ (.slice none 0 0)) (by rfl) (by go_simp) ?_
  have KF1 := hide (Blk.far KF.out (p := ⟨b2, 0, none⟩) nf2 (.slice none 0 0))
  refine hG1.out _ _ ⟨Blk.cell KF1.out 0, Blk.cell KF1.out 1⟩ ?_
  simp only [Act.put, List.setIfInBounds_toArray, List.set_cons_zero, List.set_cons_succ]
  refine wpForce_cons fun G2 hG2 => ?_
  have q3 := Blk.far K3.out (p := ⟨b2, 0, none⟩) (Ne.symm n1) (.slice none 0 0)
  have c31 : (W.drew.setCell ⟨b2, 0, none⟩ (.slice none 0 0)).cell? ⟨b3, 0, none⟩ = some (.int .i64 x) := Blk.cell q3 0
  have z31 := Blk.frozen q3 0
  have l31 := Blk.lt q3
  refine step_skip ((W.drew.setCell ⟨b2, 0, none⟩ (.slice none 0 0)).setCell ⟨b3, 0, none⟩ (.int .i64 a)) (by rfl) (by go_simp) ?_
  have KF2 := hide (Blk.far KF1.out (p := ⟨b3, 0, none⟩) nf3 (.int .i64 a))
  refine hG2.out _ _ ⟨Blk.cell KF2.out 0, Blk.cell KF2.out 1⟩ ?_
  simp only [Act.put, List.setIfInBounds_toArray, List.set_cons_zero, List.set_cons_succ]
  refine wpForce_one ?_
  have q4 := Blk.far (Blk.far K4.out (p := ⟨b2, 0, none⟩) (Ne.symm n2) (.slice none 0 0)) (p := ⟨b3, 0, none⟩) (Ne.symm n3) (.int .i64 a)
  have c42 : ((W.drew.setCell ⟨b2, 0, none⟩ (.slice none 0 0)).setCell ⟨b3, 0, none⟩ (.int .i64 a)).cell? ⟨b4, 0, none⟩ = some (.int .i64 y) := Blk.cell q4 0
  have z42 := Blk.frozen q4 0
  have l42 := Blk.lt q4
  have R2 := hide (Blk.far (Blk.far (Blk.set_ K2.out 0 (.slice none 0 0)) (p := ⟨b3, 0, none⟩) n1 (.int .i64 a)) (p := ⟨b4, 0, none⟩) n2 (.int .i64 e))
  have R3 := hide (Blk.far (Blk.set_ q3 0 (.int .i64 a)) (p := ⟨b4, 0, none⟩) n3 (.int .i64 e))
  have R4 := hide (Blk.set_ q4 0 (.int .i64 e))
  have RC := hide (((HCH.out.setCell (p := ⟨b2, 0, none⟩) (.inl (.inl rfl)) (.slice none 0 0)).setCell (p := ⟨b3, 0, none⟩) (.inl (.inr (.inl rfl))) (.int .i64 a)).setCell (p := ⟨b4, 0, none⟩) (.inl (.inr (.inr rfl))) (.int .i64 e))
  clear hG1 hG2 G1 G2
  go_wp2
  refine NoPanic.normal ?_
  go_wp2
  refine ⟨rfl, _, rfl, _, results_none rfl _ _ _, rfl, rfl, R2.out, R3.out, R4.out, RC.out⟩

end Go.Proofs.Ytgpfjcogaheopaa
