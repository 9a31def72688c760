/- The walk of All. -/
import Derived.Test.YtgpfjcogaheopaaXJ
set_option linter.all false
namespace Go.Proofs.Ytgpfjcogaheopaa.Lx
open Go.RowKit
set_option maxRecDepth 100000

/-- The tokens so far, in a slice of the call's own. -/
structure TokAt (w w' : World) (v : Value) (l : List Tok) : Prop where
  own : Own w' 41 3 v l.length (tcs l) 0
  new : ∀ b, v.ownBlock = some b → w.heap.size + 6 ≤ b
/-- What lies while All reads on. -/
structure AllIs (w w' : World) (l : List UInt8) (v : Value) (acc : List Tok) : Prop where
  b2 : Blk w' w.heap.size 37 #[v]
  b3 : Blk w' (w.heap.size + 1) 3 #[.int .i64 0]
  b4 : Blk w' (w.heap.size + 1 + 1) 24 #[.int .i64 0]
  b5 : Blk w' (w.heap.size + 1 + 1 + 1) 67 #[.int .i64 0, .int .i64 0]
  b6 : RAt w' (w.heap.size + 1 + 1 + 1 + 1) l 0
  tk : Own w' 41 3 v acc.length (tcs acc) 0
  new : ∀ b, v.ownBlock = some b → w.heap.size + 1 + 1 + 1 + 1 + 1 ≤ b
  gr : w.grownBy w' none
theorem allGo_step (l : List UInt8) (f i : Nat) (acc : List Tok) : allGo l (f + 1) i acc = if i < l.length then (if acc.length = 400 then .err i 12 else match nextF (l.drop i) with
      | .tok k s => allGo l f (i + s.length + blankF (l.drop (i + s.length))) (acc ++ [⟨k, s, i⟩])
      | .more => .err l.length 23
      | .deep a => .err ((i : Int) + a) 17) else .ok acc := rfl
/-- What lies where the reader has given up. -/
structure AllIs0 (w w' : World) (v : Value) : Prop where
  b2 : Blk w' w.heap.size 37 #[v]
  b3 : Blk w' (w.heap.size + 1) 3 #[.int .i64 0]
  b4 : Blk w' (w.heap.size + 1 + 1) 24 #[.int .i64 0]
  b5 : Blk w' (w.heap.size + 1 + 1 + 1) 67 #[.int .i64 0, .int .i64 0]
  gr : w.grownBy w' none
theorem AllIs0.grown {w w1 w2 : World} {l : List UInt8} {v : Value} {acc : List Tok} (h : AllIs w w1 l v acc) (hg : w1.grownBy w2 (some (w.heap.size + 1 + 1 + 1 + 1))) : AllIs0 w w2 v := by
  have hne : ∀ k, k ≠ w.heap.size + 1 + 1 + 1 + 1 → some k ≠ some (w.heap.size + 1 + 1 + 1 + 1) := fun k hk e => hk (by injection e)
  exact ⟨Blk.grown h.b2 hg (hne _ (by omega)), Blk.grown h.b3 hg (hne _ (by omega)), Blk.grown h.b4 hg (hne _ (by omega)), Blk.grown h.b5 hg (hne _ (by omega)), only_new h.gr (by omega) hg⟩
theorem info41 : (Try.prog.info? 41).map (fun i => (i.zero, i.size, i.bytes)) = some (some (.agg #[.int .i64 0, .string ⟨#[]⟩, .int .i64 0]), 3, 32) := by kernel_rfl
/-- A call that turns the reader alone, and new blocks. -/
theorem AllIs.grown {w w1 w2 : World} {l : List UInt8} {v : Value} {acc : List Tok} (h : AllIs w w1 l v acc) (hg : w1.grownBy w2 (some (w.heap.size + 1 + 1 + 1 + 1))) (hr : RAt w2 (w.heap.size + 1 + 1 + 1 + 1) l 0) : AllIs w w2 l v acc := by
  have hne : ∀ k, k ≠ w.heap.size + 1 + 1 + 1 + 1 → some k ≠ some (w.heap.size + 1 + 1 + 1 + 1) := fun k hk e => hk (by injection e)
  refine ⟨Blk.grown h.b2 hg (hne _ (by omega)), Blk.grown h.b3 hg (hne _ (by omega)), Blk.grown h.b4 hg (hne _ (by omega)), Blk.grown h.b5 hg (hne _ (by omega)), hr, ?_, h.new, only_new h.gr (by omega) hg⟩
  exact h.tk.chg (Chg.of_grown hg (fun k hk => by injection hk with hk; exact hk.symm) : Chg (one_ (w.heap.size + 1 + 1 + 1 + 1)) w1 w2) (fun b hb e => by have := h.new b hb; have : b = w.heap.size + 1 + 1 + 1 + 1 := e; omega)
/-- The end behind all tokens. -/
def finAr (l : List UInt8) : Ar → Ar
  | .ok acc => .ok (acc ++ [⟨4, [], l.length⟩])
  | .err a e => .err a e
def AllPost (w : World) (l : List UInt8) : Ar → Ending → World → Prop
  | .ok acc, e, w' => (∃ v, e = .returned (.tuple #[v, .int .i64 0, .int .i64 0]) ∧ Own w' 41 3 v acc.length (tcs acc) 0 ∧ ∀ b, v.ownBlock = some b → w.heap.size ≤ b) ∧ w.grownBy w' none
  | .err a k, e, w' => e = .returned (.tuple #[.slice none 0 0, .int .i64 a, .int .i64 k]) ∧ w.grownBy w' none
theorem all_res {w : World} {a b c : Nat} {v x y : Value} (h2 : w.cell? ⟨a, 0, none⟩ = some v) (h3 : w.cell? ⟨b, 0, none⟩ = some x) (h4 : w.cell? ⟨c, 0, none⟩ = some y) {tmps : Array Value} (t2 : tmps.getD 2 undef = .pointer (some ⟨a, 0, none⟩)) (t3 : tmps.getD 3 undef = .pointer (some ⟨b, 0, none⟩)) (t4 : tmps.getD 4 undef = .pointer (some ⟨c, 0, none⟩)) :
    (results Try.f20 tmps).run Try.prog w = .ok (.tuple #[v, x, y]) w := by
  have t2' : tmps[2]?.getD undef = .pointer (some ⟨a, 0, none⟩) := by simpa using t2
  have t3' : tmps[3]?.getD undef = .pointer (some ⟨b, 0, none⟩) := by simpa using t3
  have t4' : tmps[4]?.getD undef = .pointer (some ⟨c, 0, none⟩) := by simpa using t4
  simp [results, Try.results20, go_sem, t2', t3', t4', h2, h3, h4]

set_option maxHeartbeats 2000000 in
theorem all_long (l : List UInt8) (w : World) (hl : 4096 < l.length) (hm : l.length ≤ 9223372036854775807) : Calls Try.prog 20 #[sv l] w fun e w' => AllPost w l (.err 0 10) e w' := by
  have hmf : ∀ (fn : Fn) (first cap : Array Value) (w : World), (Instr.makeFunc fn first cap).run Try.prog w = .ok (.func fn first cap) w := fun _ _ _ _ => rfl
  have h1 := sz l
  have q : decide ((4096 : Int) < (l.length : Int)) = true := decide_eq_true (by omega)
  unfold sv AllPost
  go_enter_defers Try.func20, Try.ntmps20
  go_wp2
  simp [Leaves, settle, results, Try.results20, go_sem, bodyPostD]
  exact only_alloc (only_alloc (only_alloc (only_refl w none) _) _) _

set_option maxHeartbeats 8000000 in
theorem all_short (l : List UInt8) (w : World) (hl : l.length ≤ 4096) (R : Ar) (hR : allGo l (l.length + 1) (blankF l) [] = R) : Calls Try.prog 20 #[sv l] w fun e w' => AllPost w l (finAr l R) e w' := by
  have hmf : ∀ (fn : Fn) (first cap : Array Value) (w : World), (Instr.makeFunc fn first cap).run Try.prog w = .ok (.func fn first cap) w := fun _ _ _ _ => rfl
  have h1 := sz l
  have q : decide ((4096 : Int) < (l.length : Int)) = false := decide_eq_false (by omega)
  have HR0 := hide hR
  clear hR
  obtain ⟨W, hW⟩ : ∃ W, ((((w.alloc (.cells #[.slice none 0 0] 37)).alloc (.cells #[.int .i64 0] 3)).alloc (.cells #[.int .i64 0] 24)).alloc (.cells #[.int .i64 0, .int .i64 0] 67)).alloc (.cells #[sv l, .int .i64 0] 72) = W := ⟨_, rfl⟩
  have hI : AllIs w W l (.slice none 0 0) [] := by
    rw [← hW]
    refine ⟨((((Blk.new w 37 _).alloc _).alloc _).alloc _).alloc _, ?_, ?_, ?_, ?_, Own.nil _ _ _ _, fun b hb => by simp [Value.ownBlock] at hb, only_alloc (only_alloc (only_alloc (only_alloc (only_alloc (only_refl w none) _) _) _) _) _⟩
    · have := (((Blk.new (w.alloc (.cells #[.slice none 0 0] 37)) 3 #[.int .i64 0]).alloc (.cells #[.int .i64 0] 24)).alloc (.cells #[.int .i64 0, .int .i64 0] 67)).alloc (.cells #[sv l, .int .i64 0] 72)
      rwa [World.size_alloc] at this
    · have := ((Blk.new ((w.alloc (.cells #[.slice none 0 0] 37)).alloc (.cells #[.int .i64 0] 3)) 24 #[.int .i64 0]).alloc (.cells #[.int .i64 0, .int .i64 0] 67)).alloc (.cells #[sv l, .int .i64 0] 72)
      rwa [World.size_alloc, World.size_alloc] at this
    · have := (Blk.new (((w.alloc (.cells #[.slice none 0 0] 37)).alloc (.cells #[.int .i64 0] 3)).alloc (.cells #[.int .i64 0] 24)) 67 #[.int .i64 0, .int .i64 0]).alloc (.cells #[sv l, .int .i64 0] 72)
      rwa [World.size_alloc, World.size_alloc, World.size_alloc] at this
    · have := Blk.new ((((w.alloc (.cells #[.slice none 0 0] 37)).alloc (.cells #[.int .i64 0] 3)).alloc (.cells #[.int .i64 0] 24)).alloc (.cells #[.int .i64 0, .int .i64 0] 67)) 72 #[sv l, .int .i64 0]
      rwa [World.size_alloc, World.size_alloc, World.size_alloc, World.size_alloc] at this
  have HI := hide hI
  have hb := blank_any (w.heap.size + 1 + 1 + 1 + 1) 0 0 l W hI.b6 (Nat.zero_le _) (by omega)
  rw [List.drop_zero] at hb
  unfold sv at hW ⊢
  rw [← hW] at hb
  have Hb := hide hb
  have HW := hide hW
  clear hb hI hW
  go_enter_defers Try.func20, Try.ntmps20
  go_wp2_with fail
  refine Hb.out.mono ?_
  rintro e w1 ⟨rfl, rfl⟩
  rw [HW.out]
  go_wp2_with fail
  go_loopw [7] (fun v7 wr => ∃ (fuel i : Nat) (acc : List Tok) (v : Value), v7 = .int .i64 i ∧ i ≤ l.length ∧ l.length < i + fuel ∧ acc.length ≤ 400 ∧ AllIs w wr l v acc ∧ blankF (l.drop i) = 0 ∧ allGo l fuel i acc = R) (fun v7 _ => l.length + 1 - (intOf v7).toNat)
  case atStart => exact ⟨l.length + 1, blankF l, [], _, by simp, blank_le _ l rfl, by omega, by simp, HI.out, blank_idem _ l rfl, HR0.out⟩
  case round =>
    obtain ⟨fuel, i, acc, v, rfl, hi, hfu, h400, hI2, hbl, hres⟩ := hrel
    have HI2 := hide hI2
    have HR := hide hres
    have Hbl := hide hbl
    obtain ⟨va, cap, rfl, hcap, hmx⟩ := hI2.tk.form
    have c2 := Blk.cell hI2.b2 0
    clear hI2 hres hbl HI HR0
    obtain ⟨f, rfl⟩ : ∃ f, fuel = f + 1 := ⟨fuel - 1, by omega⟩
    by_cases hlt : i < l.length
    · have q0 : decide ((i : Int) < (l.length : Int)) = true := decide_eq_true (by omega)
      by_cases h4 : acc.length = 400
      · have Hlaw := hide (show R = .err i 12 by rw [← HR.out, allGo_step, if_pos hlt, if_pos h4])
        have q4 : ((acc.length : Int) == 400) = true := by rw [beq_iff_eq]; omega
        go_wp2_with fail
        refine leaves_cons (f := 35) (args := #[.pointer (some ⟨w.heap.size + 1 + 1 + 1, 0, none⟩)]) (by simp) (by simp [go_sem]) ?_
        refine (caught_panic (w.heap.size + 1 + 1 + 1) i 12 0 0 _ HI2.out.b5).mono ?_
        rintro e1 u' w2 ⟨rfl, rfl, hF2, hg2⟩
        have hne : ∀ k, k ≠ w.heap.size + 1 + 1 + 1 → some k ≠ some (w.heap.size + 1 + 1 + 1) := fun k hk e => hk (by injection e)
        have h2 := Blk.grown HI2.out.b2 hg2 (hne _ (by omega))
        have h3 := Blk.grown HI2.out.b3 hg2 (hne _ (by omega))
        have h4 := Blk.grown HI2.out.b4 hg2 (hne _ (by omega))
        have hG2 := only_new HI2.out.gr (by omega) hg2
        refine leaves_cons (f := 34) (args := #[.pointer (some ⟨w.heap.size + 1 + 1 + 1, 0, none⟩), .pointer (some ⟨w.heap.size, 0, none⟩), .pointer (some ⟨w.heap.size + 1, 0, none⟩), .pointer (some ⟨w.heap.size + 1 + 1, 0, none⟩)]) (by simp [settle, caughtV]) (by simp [go_sem]) ?_
        refine (fin17_bad (w.heap.size + 1 + 1 + 1) w.heap.size (w.heap.size + 1) (w.heap.size + 1 + 1) i 12 _ 0 0 (by decide) _ _ hF2 h2 h3 h4 (by omega) (by omega) (by omega) (by omega) (by omega)).mono ?_
        rintro e1 u' w3 ⟨rfl, rfl, rfl⟩
        have r2 := Blk.cell (Blk.far (Blk.far (Blk.set_ h2 0 (.slice none 0 0)) (p := ⟨w.heap.size + 1, 0, none⟩) (by show w.heap.size ≠ w.heap.size + 1; omega) (.int .i64 i)) (p := ⟨w.heap.size + 1 + 1, 0, none⟩) (by show w.heap.size ≠ w.heap.size + 1 + 1; omega) (.int .i64 12)) 0
        have r3 := Blk.cell (Blk.far (Blk.set_ (Blk.far h3 (p := ⟨w.heap.size, 0, none⟩) (by show w.heap.size + 1 ≠ w.heap.size; omega) (.slice none 0 0)) 0 (.int .i64 i)) (p := ⟨w.heap.size + 1 + 1, 0, none⟩) (by show w.heap.size + 1 ≠ w.heap.size + 1 + 1; omega) (.int .i64 12)) 0
        have r4 := Blk.cell (Blk.set_ (Blk.far (Blk.far h4 (p := ⟨w.heap.size, 0, none⟩) (by show w.heap.size + 1 + 1 ≠ w.heap.size; omega) (.slice none 0 0)) (p := ⟨w.heap.size + 1, 0, none⟩) (by show w.heap.size + 1 + 1 ≠ w.heap.size + 1; omega) (.int .i64 i)) 0 (.int .i64 12)) 0
        have hfin := none_setCell (none_setCell (none_setCell hG2 (p := ⟨w.heap.size, 0, none⟩) (Nat.le_refl _) (.slice none 0 0)) (p := ⟨w.heap.size + 1, 0, none⟩) (by show w.heap.size ≤ w.heap.size + 1; omega) (.int .i64 i)) (p := ⟨w.heap.size + 1 + 1, 0, none⟩) (by show w.heap.size ≤ w.heap.size + 1 + 1; omega) (.int .i64 12)
        generalize ((w2.setCell ⟨w.heap.size, 0, none⟩ (.slice none 0 0)).setCell ⟨w.heap.size + 1, 0, none⟩ (.int .i64 i)).setCell ⟨w.heap.size + 1 + 1, 0, none⟩ (.int .i64 12) = W9 at r2 r3 r4 hfin ⊢
        simp [Leaves, settle, caughtV]
        exact ⟨_, all_res r2 r3 r4 rfl rfl rfl, by rw [Hlaw.out]; exact ⟨rfl, hfin⟩⟩
      have q4 : ((acc.length : Int) == 400) = false := by rw [beq_eq_false_iff_ne]; omega
      have hn := next_any (w.heap.size + 1 + 1 + 1 + 1) i l wr HI2.out.b6 hlt (by omega)
      have hstep : allGo l (f + 1) i acc = match nextF (l.drop i) with
        | .tok k s => allGo l f (i + s.length + blankF (l.drop (i + s.length))) (acc ++ [⟨k, s, i⟩])
        | .more => .err l.length 23
        | .deep a => .err ((i : Int) + a) 17 := by rw [allGo_step, if_pos hlt, if_neg h4]
      have hpos := fun k s (h : nextF (l.drop i) = .tok k s) => next_pos (drop_ne hlt) Hbl.out h
      obtain ⟨N, hN⟩ : ∃ N, nextF (l.drop i) = N := ⟨_, rfl⟩
      rw [hN] at hn hstep hpos
      rw [HR.out] at hstep
      cases N with
      | more =>
        have Hlaw := hide (show R = .err l.length 23 from hstep)
        unfold NxPost at hn
        have Hn := hide hn
        clear hn hstep hpos hN
        go_wp2_with fail
        refine Hn.out.mono ?_
        rintro e w9 ⟨rfl, hg9⟩
        have hAll : AllIs0 w w9 (.slice va acc.length cap) := AllIs0.grown HI2.out hg9
        have HI9 := hide hAll
        clear hg9 hAll
        refine leaves_cons (f := 35) (args := #[.pointer (some ⟨w.heap.size + 1 + 1 + 1, 0, none⟩)]) (by simp) (by simp [go_sem]) ?_
        refine (caught_panic (w.heap.size + 1 + 1 + 1) l.length 23 0 0 _ HI9.out.b5).mono ?_
        rintro e1 u' w2 ⟨rfl, rfl, hF2, hg2⟩
        have hne : ∀ k, k ≠ w.heap.size + 1 + 1 + 1 → some k ≠ some (w.heap.size + 1 + 1 + 1) := fun k hk e => hk (by injection e)
        have h2 := Blk.grown HI9.out.b2 hg2 (hne _ (by omega))
        have h3 := Blk.grown HI9.out.b3 hg2 (hne _ (by omega))
        have h4 := Blk.grown HI9.out.b4 hg2 (hne _ (by omega))
        have hG2 := only_new HI9.out.gr (by omega) hg2
        refine leaves_cons (f := 34) (args := #[.pointer (some ⟨w.heap.size + 1 + 1 + 1, 0, none⟩), .pointer (some ⟨w.heap.size, 0, none⟩), .pointer (some ⟨w.heap.size + 1, 0, none⟩), .pointer (some ⟨w.heap.size + 1 + 1, 0, none⟩)]) (by simp [settle, caughtV]) (by simp [go_sem]) ?_
        refine (fin17_bad (w.heap.size + 1 + 1 + 1) w.heap.size (w.heap.size + 1) (w.heap.size + 1 + 1) l.length 23 _ 0 0 (by decide) _ _ hF2 h2 h3 h4 (by omega) (by omega) (by omega) (by omega) (by omega)).mono ?_
        rintro e1 u' w3 ⟨rfl, rfl, rfl⟩
        have r2 := Blk.cell (Blk.far (Blk.far (Blk.set_ h2 0 (.slice none 0 0)) (p := ⟨w.heap.size + 1, 0, none⟩) (by show w.heap.size ≠ w.heap.size + 1; omega) (.int .i64 l.length)) (p := ⟨w.heap.size + 1 + 1, 0, none⟩) (by show w.heap.size ≠ w.heap.size + 1 + 1; omega) (.int .i64 23)) 0
        have r3 := Blk.cell (Blk.far (Blk.set_ (Blk.far h3 (p := ⟨w.heap.size, 0, none⟩) (by show w.heap.size + 1 ≠ w.heap.size; omega) (.slice none 0 0)) 0 (.int .i64 l.length)) (p := ⟨w.heap.size + 1 + 1, 0, none⟩) (by show w.heap.size + 1 ≠ w.heap.size + 1 + 1; omega) (.int .i64 23)) 0
        have r4 := Blk.cell (Blk.set_ (Blk.far (Blk.far h4 (p := ⟨w.heap.size, 0, none⟩) (by show w.heap.size + 1 + 1 ≠ w.heap.size; omega) (.slice none 0 0)) (p := ⟨w.heap.size + 1, 0, none⟩) (by show w.heap.size + 1 + 1 ≠ w.heap.size + 1; omega) (.int .i64 l.length)) 0 (.int .i64 23)) 0
        have hfin := none_setCell (none_setCell (none_setCell hG2 (p := ⟨w.heap.size, 0, none⟩) (Nat.le_refl _) (.slice none 0 0)) (p := ⟨w.heap.size + 1, 0, none⟩) (by show w.heap.size ≤ w.heap.size + 1; omega) (.int .i64 l.length)) (p := ⟨w.heap.size + 1 + 1, 0, none⟩) (by show w.heap.size ≤ w.heap.size + 1 + 1; omega) (.int .i64 23)
        generalize ((w2.setCell ⟨w.heap.size, 0, none⟩ (.slice none 0 0)).setCell ⟨w.heap.size + 1, 0, none⟩ (.int .i64 l.length)).setCell ⟨w.heap.size + 1 + 1, 0, none⟩ (.int .i64 23) = W9 at r2 r3 r4 hfin ⊢
        simp [Leaves, settle, caughtV]
        exact ⟨_, all_res r2 r3 r4 rfl rfl rfl, by rw [Hlaw.out]; exact ⟨rfl, hfin⟩⟩
      | deep a =>
        have Hlaw := hide (show R = .err ((i : Int) + a) 17 from hstep)
        unfold NxPost at hn
        have Hn := hide hn
        clear hn hstep hpos hN
        go_wp2_with fail
        refine Hn.out.mono ?_
        rintro e w9 ⟨rfl, hg9⟩
        have hAll : AllIs0 w w9 (.slice va acc.length cap) := AllIs0.grown HI2.out hg9
        have HI9 := hide hAll
        clear hg9 hAll
        refine leaves_cons (f := 35) (args := #[.pointer (some ⟨w.heap.size + 1 + 1 + 1, 0, none⟩)]) (by simp) (by simp [go_sem]) ?_
        refine (caught_panic (w.heap.size + 1 + 1 + 1) ((i : Int) + a) 17 0 0 _ HI9.out.b5).mono ?_
        rintro e1 u' w2 ⟨rfl, rfl, hF2, hg2⟩
        have hne : ∀ k, k ≠ w.heap.size + 1 + 1 + 1 → some k ≠ some (w.heap.size + 1 + 1 + 1) := fun k hk e => hk (by injection e)
        have h2 := Blk.grown HI9.out.b2 hg2 (hne _ (by omega))
        have h3 := Blk.grown HI9.out.b3 hg2 (hne _ (by omega))
        have h4 := Blk.grown HI9.out.b4 hg2 (hne _ (by omega))
        have hG2 := only_new HI9.out.gr (by omega) hg2
        refine leaves_cons (f := 34) (args := #[.pointer (some ⟨w.heap.size + 1 + 1 + 1, 0, none⟩), .pointer (some ⟨w.heap.size, 0, none⟩), .pointer (some ⟨w.heap.size + 1, 0, none⟩), .pointer (some ⟨w.heap.size + 1 + 1, 0, none⟩)]) (by simp [settle, caughtV]) (by simp [go_sem]) ?_
        refine (fin17_bad (w.heap.size + 1 + 1 + 1) w.heap.size (w.heap.size + 1) (w.heap.size + 1 + 1) ((i : Int) + a) 17 _ 0 0 (by decide) _ _ hF2 h2 h3 h4 (by omega) (by omega) (by omega) (by omega) (by omega)).mono ?_
        rintro e1 u' w3 ⟨rfl, rfl, rfl⟩
        have r2 := Blk.cell (Blk.far (Blk.far (Blk.set_ h2 0 (.slice none 0 0)) (p := ⟨w.heap.size + 1, 0, none⟩) (by show w.heap.size ≠ w.heap.size + 1; omega) (.int .i64 ((i : Int) + a))) (p := ⟨w.heap.size + 1 + 1, 0, none⟩) (by show w.heap.size ≠ w.heap.size + 1 + 1; omega) (.int .i64 17)) 0
        have r3 := Blk.cell (Blk.far (Blk.set_ (Blk.far h3 (p := ⟨w.heap.size, 0, none⟩) (by show w.heap.size + 1 ≠ w.heap.size; omega) (.slice none 0 0)) 0 (.int .i64 ((i : Int) + a))) (p := ⟨w.heap.size + 1 + 1, 0, none⟩) (by show w.heap.size + 1 ≠ w.heap.size + 1 + 1; omega) (.int .i64 17)) 0
        have r4 := Blk.cell (Blk.set_ (Blk.far (Blk.far h4 (p := ⟨w.heap.size, 0, none⟩) (by show w.heap.size + 1 + 1 ≠ w.heap.size; omega) (.slice none 0 0)) (p := ⟨w.heap.size + 1, 0, none⟩) (by show w.heap.size + 1 + 1 ≠ w.heap.size + 1; omega) (.int .i64 ((i : Int) + a))) 0 (.int .i64 17)) 0
        have hfin := none_setCell (none_setCell (none_setCell hG2 (p := ⟨w.heap.size, 0, none⟩) (Nat.le_refl _) (.slice none 0 0)) (p := ⟨w.heap.size + 1, 0, none⟩) (by show w.heap.size ≤ w.heap.size + 1; omega) (.int .i64 ((i : Int) + a))) (p := ⟨w.heap.size + 1 + 1, 0, none⟩) (by show w.heap.size ≤ w.heap.size + 1 + 1; omega) (.int .i64 17)
        generalize ((w2.setCell ⟨w.heap.size, 0, none⟩ (.slice none 0 0)).setCell ⟨w.heap.size + 1, 0, none⟩ (.int .i64 ((i : Int) + a))).setCell ⟨w.heap.size + 1 + 1, 0, none⟩ (.int .i64 17) = W9 at r2 r3 r4 hfin ⊢
        simp [Leaves, settle, caughtV]
        exact ⟨_, all_res r2 r3 r4 rfl rfl rfl, by rw [Hlaw.out]; exact ⟨rfl, hfin⟩⟩
      | tok k s =>
        obtain ⟨hs1, hs2⟩ := hpos k s rfl
        rw [List.length_drop] at hs2
        have Hst := hide (show R = allGo l f (i + s.length + blankF (l.drop (i + s.length))) (acc ++ [⟨k, s, i⟩]) from hstep)
        unfold NxPost sv at hn
        have Hn := hide hn
        have zs := sz s
        clear hn hstep hpos hN
        go_wp2_with fail
        refine Hn.out.mono ?_
        rintro e w9 ⟨rfl, hg9, hr9⟩
        have HI9 := hide (HI2.out.grown hg9 hr9)
        have c29 := Blk.cell HI9.out.b2 0
        have z29 := Blk.frozen HI9.out.b2 0
        have l29 := Blk.lt HI9.out.b2
        have hown := (HI9.out.tk.alloc (.cells #[.int .i64 k, .string ⟨s.toArray⟩, .int .i64 i] 41)).alloc (.cells #[.int .i64 k, .string ⟨s.toArray⟩, .int .i64 i] 41)
        have hmd := Own.made (w9.alloc (.cells #[.int .i64 k, .string ⟨s.toArray⟩, .int .i64 i] 41)) #[.int .i64 k, .string ⟨s.toArray⟩, .int .i64 i] 41 3 1 0 rfl (by unfold maxLen; omega)
        rw [World.size_alloc] at hmd
        have hsrc := Own.src (P := Try.prog) (tx := 37) (e' := 41) hmd (by kernel_rfl) (by
          intro u hu
          simp only [List.mem_cons, List.not_mem_nil, or_false] at hu
          rcases hu with rfl | rfl | rfl <;> rfl)
        have hC8 : Blk ((w9.alloc (.cells #[.int .i64 k, .string ⟨s.toArray⟩, .int .i64 i] 41)).alloc (.cells #[.int .i64 k, .string ⟨s.toArray⟩, .int .i64 i] 41)) w9.heap.size 41 #[.int .i64 k, .string ⟨s.toArray⟩, .int .i64 i] := (Blk.new w9 41 _).alloc _
        have hvb : ∀ b, (Value.slice va acc.length cap).ownBlock = some b → b < w9.heap.size := fun b hb => HI9.out.tk.lt hb
        have Hown := hide hown
        have Hsrc := hide hsrc
        have HC8 := hide hC8
        have Hvb := hide hvb
        have hne8 : ¬ w9.heap.size = w.heap.size := by omega
        clear hown hsrc hmd hC8 hvb hg9 hr9
        go_wp2_with (at_builtin; refine wpList_appAt 41 (.agg #[.int .i64 0, .string ⟨#[]⟩, .int .i64 0]) 3 32 Try.underlying37 info41 rfl (.slice va acc.length cap) acc.length (tcs acc) 0 _ 1 [.int .i64 k, .string ⟨s.toArray⟩, .int .i64 i] rfl rfl Hown.out (by omega) Hsrc.out (by unfold maxLen; omega) (by omega) ?_; intro v' w' ho hc hn _; obtain ⟨fo, fc, rfl, _, _⟩ := Own.form ho; (have HO := hide ho); (have hkp : Blk w' w.heap.size 37 #[.slice va acc.length cap] := Blk.chg ((HI9.out.b2.alloc _).alloc _) hc (fun e => by have := HI9.out.new _ e; omega)); (have c2' := Blk.cell hkp 0); (have z2' := Blk.frozen hkp 0); (have l2' := Blk.lt hkp); (have hk8 : Blk w' w9.heap.size 41 #[.int .i64 k, .string ⟨s.toArray⟩, .int .i64 i] := Blk.chg HC8.out hc (fun e => by have := Hvb.out _ e; omega)); (have c81 := Blk.cell hk8 1); (have HC := hide hc); (have Hnew := hide hn); clear ho hc hn hkp hk8)
        have hv' : ∀ b, (Value.slice fo (acc.length + 1) fc).ownBlock = some b → w.heap.size + 1 + 1 + 1 + 1 + 1 ≤ b := by
          intro b hb
          have h6 := Blk.lt HI9.out.b6
          rcases Hnew.out b hb with h | h
          · exact HI9.out.new b h
          · rw [World.size_alloc, World.size_alloc] at h
            omega
        have hkeep : ∀ {g : Nat} {T : TypeId} {cs : Array Value}, Blk w9 g T cs → g ≠ w.heap.size → g ≤ w.heap.size + 1 + 1 + 1 + 1 → Blk (w'.setCell ⟨w.heap.size, 0, none⟩ (.slice fo (acc.length + 1) fc)) g T cs := fun hB hne hle => Blk.far (Blk.chg ((Blk.alloc (Blk.alloc hB _) _)) HC.out (fun e => by have := HI9.out.new _ e; omega)) (by show _ ≠ w.heap.size; exact hne) _
        have h2' : Blk (w'.setCell ⟨w.heap.size, 0, none⟩ (.slice fo (acc.length + 1) fc)) w.heap.size 37 #[.slice fo (acc.length + 1) fc] := Blk.set_ (Blk.chg ((HI9.out.b2.alloc _).alloc _) HC.out (fun e => by have := HI9.out.new _ e; omega)) 0 _
        have hI' : AllIs w (w'.setCell ⟨w.heap.size, 0, none⟩ (.slice fo (acc.length + 1) fc)) l (.slice fo (acc.length + 1) fc) (acc ++ [⟨k, s, i⟩]) := by
          refine ⟨h2', hkeep HI9.out.b3 (by omega) (by omega), hkeep HI9.out.b4 (by omega) (by omega), hkeep HI9.out.b5 (by omega) (by omega), hkeep HI9.out.b6 (by omega) (by omega), ?_, hv', ?_⟩
          · rw [List.length_append, tcs_snoc]
            exact Own.far (p := ⟨w.heap.size, 0, none⟩) HO.out (fun e => by have h8 : w.heap.size + 1 + 1 + 1 + 1 + 1 ≤ w.heap.size := hv' _ e; omega) _
          · exact (((((Chg.of_grown HI9.out.gr (fun _ h => by cases h) : Chg nobody w w9).alloc _).alloc _).trans HC.out (fun i hi hb => by have := HI9.out.new i hb; omega)).setCell (p := ⟨w.heap.size, 0, none⟩) (.inr (Nat.le_refl _)) _).grown (fun _ _ h => h)
        have HI' := hide hI'
        have hb2 := blank_any (w.heap.size + 1 + 1 + 1 + 1) 0 (i + s.length) l _ hI'.b6 (by omega) (by omega)
        rw [show (((i + s.length : Nat)) : Int) = (i : Int) + s.length by omega] at hb2
        have Hb2 := hide hb2
        have hbl2 := blank_le _ (l.drop (i + s.length)) rfl
        have hbi := blank_idem _ (l.drop (i + s.length)) rfl
        rw [List.drop_drop] at hbi
        rw [List.length_drop] at hbl2
        have Hbi := hide hbi
        clear hI' hb2 h2' hkeep hv' hbi
        go_wp2_with fail
        refine Hb2.out.mono ?_
        rintro e w5 ⟨rfl, rfl⟩
        go_wp2_with fail
        go_roundw
        case rel => exact ⟨f, i + s.length + blankF (l.drop (i + s.length)), acc ++ [⟨k, s, i⟩], _, by go_num, by omega, by omega, by rw [List.length_append]; simp; omega, HI'.out, Hbi.out, Hst.out.symm⟩
        case measure => simp [intOf]; omega
    · have q0 : decide ((i : Int) < (l.length : Int)) = false := decide_eq_false (by omega)
      have hR : R = .ok acc := by rw [← HR.out, allGo_step, if_neg hlt]
      subst hR
      have c3 := Blk.cell HI2.out.b3 0
      have c4 := Blk.cell HI2.out.b4 0
      have hown := HI2.out.tk.alloc (.cells #[.int .i64 4, .string ⟨#[]⟩, .int .i64 l.length] 41)
      have hmd := Own.made wr #[.int .i64 4, .string ⟨#[]⟩, .int .i64 l.length] 41 3 1 0 rfl (by unfold maxLen; omega)
      have hsrc := Own.src (P := Try.prog) (tx := 37) (e' := 41) hmd (by kernel_rfl) (by
        intro u hu
        simp only [List.mem_cons, List.not_mem_nil, or_false] at hu
        rcases hu with rfl | rfl | rfl <;> rfl)
      have Hown := hide hown
      have Hsrc := hide hsrc
      clear hown hsrc hmd c3 c4
      go_wp2_with (at_builtin; refine wpList_appAt 41 (.agg #[.int .i64 0, .string ⟨#[]⟩, .int .i64 0]) 3 32 Try.underlying37 info41 rfl (.slice va acc.length cap) acc.length (tcs acc) 0 _ 1 [.int .i64 4, .string ⟨#[]⟩, .int .i64 l.length] rfl rfl Hown.out (by omega) Hsrc.out (by unfold maxLen; omega) (by omega) ?_; intro v' w' ho hc hn _; obtain ⟨fo, fc, rfl, _, _⟩ := Own.form ho; (have HO := hide ho); (have hkp : Blk w' w.heap.size 37 #[.slice va acc.length cap] := Blk.chg (HI2.out.b2.alloc _) hc (fun e => by have := HI2.out.new _ e; omega)); (have hk3 : Blk w' (w.heap.size + 1) 3 #[.int .i64 0] := Blk.chg (HI2.out.b3.alloc _) hc (fun e => by have := HI2.out.new _ e; omega)); (have hk4 : Blk w' (w.heap.size + 1 + 1) 24 #[.int .i64 0] := Blk.chg (HI2.out.b4.alloc _) hc (fun e => by have := HI2.out.new _ e; omega)); (have hk5 : Blk w' (w.heap.size + 1 + 1 + 1) 67 #[.int .i64 0, .int .i64 0] := Blk.chg (HI2.out.b5.alloc _) hc (fun e => by have := HI2.out.new _ e; omega)); (have HK2 := hide hkp); (have HK3 := hide hk3); (have HK4 := hide hk4); (have HK5 := hide hk5); (have c2' := Blk.cell hkp 0); (have z2' := Blk.frozen hkp 0); (have l2' := Blk.lt hkp); (have c3' := Blk.cell hk3 0); (have z3' := Blk.frozen hk3 0); (have l3' := Blk.lt hk3); (have c4' := Blk.cell hk4 0); (have z4' := Blk.frozen hk4 0); (have l4' := Blk.lt hk4); (have HC := hide hc); (have Hnew := hide hn); clear ho hc hn hkp hk3 hk4 hk5)
      have hv' : ∀ b, (Value.slice fo (acc.length + 1) fc).ownBlock = some b → w.heap.size + 1 + 1 + 1 + 1 + 1 ≤ b := by
        intro b hb
        have h6 := Blk.lt HI2.out.b6
        rcases Hnew.out b hb with h | h
        · exact HI2.out.new b h
        · rw [World.size_alloc] at h
          omega
      have r2 := Blk.far (Blk.far (Blk.set_ HK2.out 0 (.slice fo (acc.length + 1) fc)) (p := ⟨w.heap.size + 1, 0, none⟩) (by show w.heap.size ≠ w.heap.size + 1; omega) (.int .i64 0)) (p := ⟨w.heap.size + 1 + 1, 0, none⟩) (by show w.heap.size ≠ w.heap.size + 1 + 1; omega) (.int .i64 0)
      have r3 := Blk.far (Blk.set_ (Blk.far HK3.out (p := ⟨w.heap.size, 0, none⟩) (by show w.heap.size + 1 ≠ w.heap.size; omega) (.slice fo (acc.length + 1) fc)) 0 (.int .i64 0)) (p := ⟨w.heap.size + 1 + 1, 0, none⟩) (by show w.heap.size + 1 ≠ w.heap.size + 1 + 1; omega) (.int .i64 0)
      have r4 := Blk.set_ (Blk.far (Blk.far HK4.out (p := ⟨w.heap.size, 0, none⟩) (by show w.heap.size + 1 + 1 ≠ w.heap.size; omega) (.slice fo (acc.length + 1) fc)) (p := ⟨w.heap.size + 1, 0, none⟩) (by show w.heap.size + 1 + 1 ≠ w.heap.size + 1; omega) (.int .i64 0)) 0 (.int .i64 0)
      have r5 := Blk.far (Blk.far (Blk.far HK5.out (p := ⟨w.heap.size, 0, none⟩) (by show w.heap.size + 1 + 1 + 1 ≠ w.heap.size; omega) (.slice fo (acc.length + 1) fc)) (p := ⟨w.heap.size + 1, 0, none⟩) (by show w.heap.size + 1 + 1 + 1 ≠ w.heap.size + 1; omega) (.int .i64 0)) (p := ⟨w.heap.size + 1 + 1, 0, none⟩) (by show w.heap.size + 1 + 1 + 1 ≠ w.heap.size + 1 + 1; omega) (.int .i64 0)
      have hof := Own.far (p := ⟨w.heap.size + 1 + 1, 0, none⟩) (Own.far (p := ⟨w.heap.size + 1, 0, none⟩) (Own.far (p := ⟨w.heap.size, 0, none⟩) HO.out (fun e => by have h8 : w.heap.size + 1 + 1 + 1 + 1 + 1 ≤ w.heap.size := hv' _ e; omega) (.slice fo (acc.length + 1) fc)) (fun e => by have h8 : w.heap.size + 1 + 1 + 1 + 1 + 1 ≤ w.heap.size + 1 := hv' _ e; omega) (.int .i64 0)) (fun e => by have h8 : w.heap.size + 1 + 1 + 1 + 1 + 1 ≤ w.heap.size + 1 + 1 := hv' _ e; omega) (.int .i64 0)
      have hfin : w.grownBy _ none := ((((((Chg.of_grown HI2.out.gr (fun _ h => by cases h) : Chg nobody w wr).alloc _).trans HC.out (fun i hi hb => by have := HI2.out.new i hb; omega)).setCell (p := ⟨w.heap.size, 0, none⟩) (.inr (Nat.le_refl _)) (.slice fo (acc.length + 1) fc)).setCell (p := ⟨w.heap.size + 1, 0, none⟩) (.inr (by show w.heap.size ≤ w.heap.size + 1; omega)) (.int .i64 0)).setCell (p := ⟨w.heap.size + 1 + 1, 0, none⟩) (.inr (by show w.heap.size ≤ w.heap.size + 1 + 1; omega)) (.int .i64 0)).grown (fun _ _ h => h)
      refine leaves_cons (f := 35) (args := #[.pointer (some ⟨w.heap.size + 1 + 1 + 1, 0, none⟩)]) (by simp) (by simp [go_sem]) ?_
      refine (caught_idle _ _).mono ?_
      rintro e u' w'' ⟨rfl, rfl, rfl⟩
      refine leaves_cons (f := 34) (args := #[.pointer (some ⟨w.heap.size + 1 + 1 + 1, 0, none⟩), .pointer (some ⟨w.heap.size, 0, none⟩), .pointer (some ⟨w.heap.size + 1, 0, none⟩), .pointer (some ⟨w.heap.size + 1 + 1, 0, none⟩)]) (by simp [settle]) (by simp [go_sem]) ?_
      generalize ((w'.setCell ⟨w.heap.size, 0, none⟩ (.slice fo (acc.length + 1) fc)).setCell ⟨w.heap.size + 1, 0, none⟩ (.int .i64 0)).setCell ⟨w.heap.size + 1 + 1, 0, none⟩ (.int .i64 0) = W9 at r2 r3 r4 r5 hof hfin ⊢
      refine (fin17_ok (w.heap.size + 1 + 1 + 1) w.heap.size (w.heap.size + 1) (w.heap.size + 1 + 1) 0 _ _ r5).mono ?_
      rintro e u' w'' ⟨rfl, rfl, rfl⟩
      simp [Leaves, settle]
      refine ⟨_, all_res (Blk.cell r2 0) (Blk.cell r3 0) (Blk.cell r4 0) rfl rfl rfl, ⟨⟨_, rfl, ?_, fun b hb => by have := hv' b hb; omega⟩, hfin⟩⟩
      rw [List.length_append, tcs_snoc]
      exact hof

end Go.Proofs.Ytgpfjcogaheopaa.Lx
