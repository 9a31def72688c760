/- What is given up with is caught: caught, and Part's closure. -/
import Derived.Test.YtnamfafpdlieeaaE
import Derived.Recover
import Derived.Defers
import Derived.Laws.Pointers
set_option linter.all false
namespace Go.Proofs.Ytnamfafpdlieeaa
open Go.RowKit
set_option maxRecDepth 100000

theorem caught_idle (fb : Nat) (w : World) : CallsD Try.prog 18 #[.pointer (some ⟨fb, 0, none⟩)] .returning w fun e u' w' => e = .returned (.tuple #[]) ∧ u' = .returning ∧ w' = w := by
  refine callsD_of_wpS Try.func18 rfl fun c₀ cs hu => ?_
  apply wpS_seq
  apply wpS_region
  simp [wpOpsS, go_sem, recoverD, hu, Try.ntmps18, Exit.thenS]
  simp only [Array.replicate_succ, Array.replicate_zero, List.push_toArray, List.append_toArray, List.nil_append, List.cons_append, List.setIfInBounds_toArray, List.set_cons_zero, List.set_cons_succ]
  refine wpS_of_wp ?_
  go_wp2
  refine ⟨rfl, .returning, ?_, _, results_none rfl _ _ _, rfl, rfl, rfl⟩
  cases c₀
  simp_all
def caughtV (a e : Int) : PanicEntry := { v := .iface 43 (.agg #[.int .i64 a, .int .i64 e]), recovered := true }
theorem caught_panic (fb : Nat) (a e : Int) (x y : Int) (w : World) (h : Blk w fb 43 #[.int .i64 x, .int .i64 y]) : CallsD Try.prog 18 #[.pointer (some ⟨fb, 0, none⟩)] (.panicking [faultV a e]) w fun en u' w' => en = .returned (.tuple #[]) ∧ u' = .panicking [caughtV a e] ∧ Blk w' fb 43 #[.int .i64 a, .int .i64 e] ∧ w.grownBy w' (some fb) := by
  unfold faultV caughtV
  have hta : ∀ W : World, (Instr.typeAssert (.iface 43 (.agg #[.int .i64 a, .int .i64 e])) 20 43 true).run Try.prog W = .ok (.tuple #[.agg #[.int .i64 a, .int .i64 e], .bool true]) W := fun _ => by kernel_rfl
  have c0 := Blk.cell h 0
  have c1 := Blk.cell h 1
  have z0 := Blk.frozen h 0
  have z1 := Blk.frozen h 1
  have hl := Blk.lt h
  have HB := hide h
  clear h
  refine callsD_of_wpS Try.func18 rfl fun c₀ cs hu => ?_
  apply wpS_seq
  apply wpS_region
  simp [wpOpsS, go_sem, recoverD, hu, Try.ntmps18, Exit.thenS]
  simp only [Array.replicate_succ, Array.replicate_zero, List.push_toArray, List.append_toArray, List.nil_append, List.cons_append, List.setIfInBounds_toArray, List.set_cons_zero, List.set_cons_succ]
  refine wpS_of_wp ?_
  go_wp2
  refine ⟨rfl, _, rfl, _, results_none rfl _ _ _, rfl, rfl, ?_, ?_⟩
  · exact Blk.alloc ((Blk.set_ HB.out 0 (.int .i64 a)).set_ 1 (.int .i64 e)) _
  · exact only_alloc (only_setCell (only_setCell (only_refl w (some fb)) (p := ⟨fb, 0, none⟩) (.inl rfl) _) (p := ⟨fb, 1, none⟩) (.inl rfl) _) _
theorem fin_ok (fb rb : Nat) (a : Int) (u : FrameMode) (w : World) (h : Blk w fb 43 #[.int .i64 a, .int .i64 0]) :
    CallsD Try.prog 21 #[.pointer (some ⟨fb, 0, none⟩), .pointer (some ⟨rb, 0, none⟩)] u w fun en u' w' => u' = u ∧ (en = .returned (.tuple #[]) ∧ w' = w) := by
  have c1 := Blk.cell h 1
  go_enter_d Try.func21, Try.ntmps21
  go_wp2
  refine bodyPost_end (results_none rfl _ _ _) rfl ⟨rfl, rfl⟩
theorem fin_bad (fb rb : Nat) (a e : Int) (n : Int) (he : e ≠ 0) (u : FrameMode) (w : World) (h : Blk w fb 43 #[.int .i64 a, .int .i64 e]) (h2 : Blk w rb 3 #[.int .i64 n]) :
    CallsD Try.prog 21 #[.pointer (some ⟨fb, 0, none⟩), .pointer (some ⟨rb, 0, none⟩)] u w fun en u' w' => u' = u ∧ (en = .returned (.tuple #[]) ∧ w' = w.setCell ⟨rb, 0, none⟩ (.int .i64 (-1))) := by
  have c1 := Blk.cell h 1
  have z0 := Blk.frozen h2 0
  have d0 := Blk.cell h2 0
  have q : (e == 0) = false := by rw [beq_eq_false_iff_ne]; exact he
  have q2 : (e != 0) = true := by simp [he]
  go_enter_d Try.func21, Try.ntmps21
  go_wp2
  all_goals (first | (refine bodyPost_end (results_none rfl _ _ _) rfl ⟨rfl, rfl⟩) | skip)

/-- How many bytes a part has. -/
def partV (q : Bool) (l : List UInt8) : Int := if l = [] then 0 else match partR 25 q l with
  | .ok n => n
  | _ => -1
theorem partV_ok {q : Bool} {l : List UInt8} {n : Nat} (h0 : l ≠ []) (h : partR 25 q l = .ok n) : partV q l = n := by
  unfold partV; rw [if_neg h0, h]
theorem partV_no {q : Bool} {l : List UInt8} (h0 : l ≠ []) (h : ∀ n, partR 25 q l ≠ .ok n) : partV q l = -1 := by
  unfold partV; rw [if_neg h0]
  cases hr : partR 25 q l with
  | ok n => exact absurd hr (h n)
  | more => rfl
  | deep a => rfl
theorem out_fault {r : Rs} {i L : Nat} (h : ∀ n, r ≠ .ok n) : ∃ a e : Int, e ≠ 0 ∧ r.out i L = .panicked [faultV a e] := by
  cases r with
  | ok n => exact absurd rfl (h n)
  | more => exact ⟨_, 23, by decide, rfl⟩
  | deep a => exact ⟨_, 17, by decide, rfl⟩

set_option maxHeartbeats 2000000 in
theorem part_call (l : List UInt8) (q : Bool) (w : World) (hl : l.length ≤ 1000000) : Calls Try.prog 11 #[sv l, .bool q] w fun e w' => e = .returned (.int .i64 (partV q l)) ∧ w.grownBy w' none := by
  have hmf : ∀ (fn : Fn) (first cap : Array Value) (w : World), (Instr.makeFunc fn first cap).run Try.prog w = .ok (.func fn first cap) w := fun _ _ _ _ => rfl
  have h1 := sz l
  by_cases h0 : l = []
  · subst h0
    unfold sv
    go_enter_defers Try.func11, Try.ntmps11
    go_wp2
    simp [Leaves, settle, results, Try.results11, go_sem, bodyPostD, partV]
    first
      | exact only_alloc (only_refl w none) _
      | exact none_setCell (only_alloc (only_refl w none) _) (p := ⟨w.heap.size, 0, none⟩) (Nat.le_refl _) _
  · have he : l.isEmpty = false := by simpa using h0
    -- the worlds: the result, the fault, the reader
    have hR := Blk.new ((w.alloc (.cells #[.int .i64 0] 3)).alloc (.cells #[.int .i64 0, .int .i64 0] 43)) 48 #[sv l, .int .i64 0]
    rw [World.size_alloc, World.size_alloc] at hR
    have hF : Blk (((w.alloc (.cells #[.int .i64 0] 3)).alloc (.cells #[.int .i64 0, .int .i64 0] 43)).alloc (.cells #[sv l, .int .i64 0] 48)) (w.heap.size + 1) 43 #[.int .i64 0, .int .i64 0] := by
      have := (Blk.new (w.alloc (.cells #[.int .i64 0] 3)) 43 #[.int .i64 0, .int .i64 0]).alloc (.cells #[sv l, .int .i64 0] 48)
      rw [World.size_alloc] at this
      exact this
    have hN := ((Blk.new w 3 #[.int .i64 0]).alloc (.cells #[.int .i64 0, .int .i64 0] 43)).alloc (.cells #[sv l, .int .i64 0] 48)
    have hG : w.grownBy (((w.alloc (.cells #[.int .i64 0] 3)).alloc (.cells #[.int .i64 0, .int .i64 0] 43)).alloc (.cells #[sv l, .int .i64 0] 48)) none := only_alloc (only_alloc (only_alloc (only_refl w none) _) _) _
    have hp := part_ok 25 (w.heap.size + 1 + 1) 0 0 q l _ hR rfl (List.length_pos_iff.2 h0) hl
    rw [List.drop_zero] at hp
    have Hp := hide hp
    have HF := hide hF
    have HN := hide hN
    have HG := hide hG
    clear hp hF hN hG hR
    unfold sv at Hp HF HN HG ⊢
    rcases out_cases (partR 25 q l) 0 l.length with ⟨n, hn, ho⟩ | ⟨f, ho, hno⟩
    · have hv := partV_ok h0 hn
      rw [ho] at Hp
      rw [hv]
      clear hv
      go_enter_defers Try.func11, Try.ntmps11
      go_wp2_with fail
      refine Hp.out.mono ?_
      rintro e w9 ⟨rfl, hg9, hok9⟩
      have hN9 := Blk.grown HN.out hg9 (by intro e; injection e with e; omega)
      have hF9 := Blk.grown HF.out hg9 (by intro e; injection e with e; omega)
      have hG9 := only_new HG.out (by omega) hg9
      have HN9 := hide hN9
      have HF9 := hide hF9
      have HG9 := hide hG9
      have c4 := Blk.cell hN9 0
      have z4 := Blk.frozen hN9 0
      have l4 := Blk.lt hN9
      clear hN9 hF9 hG9 hg9 hok9
      go_wp2_with fail
      refine leaves_cons (f := 18) (args := #[.pointer (some ⟨w.heap.size + 1, 0, none⟩)]) (by simp) (by simp [go_sem]) ?_
      refine (caught_idle _ _).mono ?_
      rintro e u' w'' ⟨rfl, rfl, rfl⟩
      refine leaves_cons (f := 21) (args := #[.pointer (some ⟨w.heap.size + 1, 0, none⟩), .pointer (some ⟨w.heap.size, 0, none⟩)]) (by simp [settle, caughtV]) (by simp [go_sem]) ?_
      refine (fin_ok (w.heap.size + 1) w.heap.size 0 .returning _ (Blk.far HF9.out (by show w.heap.size + 1 ≠ w.heap.size; omega) _)).mono ?_
      rintro e u' w'' ⟨rfl, rfl, rfl⟩
      have hres := Blk.cell (Blk.set_ HN9.out 0 (.int .i64 n)) 0
      have hfin : w.grownBy (w9.setCell ⟨w.heap.size, 0, none⟩ (.int .i64 n)) none := none_setCell HG9.out (Nat.le_refl _) _
      generalize w9.setCell ⟨w.heap.size, 0, none⟩ (.int .i64 n) = W at hres hfin ⊢
      simp [Leaves, settle, results, Try.results11, go_sem, hres, hfin]
    · obtain ⟨a, e, he0, ho2⟩ := out_fault (i := 0) (L := l.length) hno
      have hv := partV_no h0 hno
      rw [ho2] at Hp
      rw [hv]
      clear hv ho
      go_enter_defers Try.func11, Try.ntmps11
      go_wp2_with fail
      refine Hp.out.mono ?_
      rintro e1 w9 ⟨rfl, hg9, hok9⟩
      have hN9 := Blk.grown HN.out hg9 (by intro e; injection e with e; omega)
      have hF9 := Blk.grown HF.out hg9 (by intro e; injection e with e; omega)
      have hG9 := only_new HG.out (by omega) hg9
      have HN9 := hide hN9
      have HF9 := hide hF9
      have HG9 := hide hG9
      clear hN9 hF9 hG9 hg9 hok9
      refine leaves_cons (f := 18) (args := #[.pointer (some ⟨w.heap.size + 1, 0, none⟩)]) (by simp) (by simp [go_sem]) ?_
      refine (caught_panic (w.heap.size + 1) a e 0 0 _ HF9.out).mono ?_
      rintro e1 u' w2 ⟨rfl, rfl, hF2, hg2⟩
      have hN2 := Blk.grown HN9.out hg2 (by intro e; injection e with e; omega)
      have hG2 := only_new HG9.out (by omega) hg2
      refine leaves_cons (f := 21) (args := #[.pointer (some ⟨w.heap.size + 1, 0, none⟩), .pointer (some ⟨w.heap.size, 0, none⟩)]) (by simp [settle, caughtV]) (by simp [go_sem]) ?_
      refine (fin_bad (w.heap.size + 1) w.heap.size a e 0 he0 _ _ hF2 hN2).mono ?_
      rintro e1 u' w3 ⟨rfl, rfl, rfl⟩
      have hres := Blk.cell (Blk.set_ hN2 0 (.int .i64 (-1))) 0
      have hfin : w.grownBy (w2.setCell ⟨w.heap.size, 0, none⟩ (.int .i64 (-1))) none := none_setCell hG2 (Nat.le_refl _) _
      generalize w2.setCell ⟨w.heap.size, 0, none⟩ (.int .i64 (-1)) = W at hres hfin ⊢
      simp [Leaves, settle, results, Try.results11, go_sem, caughtV, hres, hfin]

end Go.Proofs.Ytnamfafpdlieeaa
