/- shown, and the walk of the first law. -/
import Derived.Test.YtolmpejaakpikaaL
set_option linter.all false
namespace Go.Proofs.Ytolmpejaakpikaa
open Go.RowKit Go.Maps
set_option maxRecDepth 100000

theorem wpList_valG {P : Program} {ops : Array Oper} {rest : List Oper} {o : Oper} {a : Act} {w : World} {Q : Exit → Act → World → Prop} (v : Value) (w' : World) (hw : Region.wanted o (yielded ops a.tmps) = true)
    (hr : (execOp a.eval o).run P w = .ok (.value v) w') (h : wpList P ops Q rest (a.put o.dst v) w') : wpList P ops Q (o :: rest) a w :=
  wpList_step fun K hK => by
    rw [if_pos hw]
    unfold Oper.wp
    rw [hr]
    exact hK _ _ h
/-- An event of zeros but for these. -/
def evZ (pid : Int) (cr : Cr) (op n own grp an mode owner : Int) : Ev := ⟨pid, cr, ⟨op, n, own, grp, fun k => Z40.getD (k + 6) undef⟩, 0, an, fun k => if k = 2 then mode else if k = 3 then owner else 0, fun k => Z40.getD k undef⟩
theorem evZ_one (pid : Int) (cr : Cr) (op n own grp an mode owner : Int) : (evZ pid cr op n own grp an mode owner).cells.all (·.oneCell') = true := by
  kernel_rfl
theorem evs_one {w : World} {g : Nat} {e : Ev} (h : Blk w g 40 e.cells) : EvsAt w (some ⟨g, 0, none⟩) [e] := by
  intro k hk
  have : k = 0 := by simpa using hk
  subst this
  exact ⟨g, 0, rfl, h.lt, ev_range h⟩
theorem idx_r0 : idx r0.L 1 = some 0 := by unfold r0; rw [idx_cons]; rfl
theorem shown1 (own : Int) : res [evZ 1 zero 23 0 own 0 0 0 0] r0 0 = 0 := by
  have : (stepR r0 (evZ 1 zero 23 0 own 0 0 0 0)).2 = false := by
    unfold stepR
    rw [show (evZ 1 zero 23 0 own 0 0 0 0).pid = 1 from rfl, idx_r0]
    simp [r0, dec, evZ, sameC, zero, badBecome]
  unfold res
  rw [this]
  rfl
theorem shown2 : res [evZ 2 zero 0 0 0 0 0 0 0] r0 0 = 0 := by
  have : (stepR r0 (evZ 2 zero 0 0 0 0 0 0 0)).2 = false := by
    unfold stepR
    rw [show (evZ 2 zero 0 0 0 0 0 0 0).pid = 2 from rfl, show idx r0.L 2 = none by unfold r0; rw [idx_cons, idx_nil]; rfl]
  unfold res
  rw [this]
  rfl

set_option maxHeartbeats 1000000 in
theorem shown_any (w : World) : Calls Try.prog 6 #[] w fun x w' => x = .returned (.bool true) ∧ w.grownBy w' none := by
  have hc0 : Calls Try.prog 7 #[.slice none 0 0] w fun x w' => x = .returned (.int .i64 (-1)) ∧ w.grownBy w' none := check_any none 0 [] w (fun k hk => absurd hk (by simp)) (by simp) (by simp) (by simp)
  have Hc0 := hide hc0
  clear hc0
  go_enter Try.func6, Try.ntmps6
  go_wp2_with fail
  refine Hc0.out.mono ?_
  rintro x w1 ⟨rfl, hg1⟩
  have Hg1 := hide hg1
  clear hg1 Hc0
  go_wp2_with (first
    | (refine wpList_valG (o := ⟨some 4, _, _, _, _, _⟩) (.agg (evZ 1 zero 23 0 5 0 0 0 0).cl.cells) w1 (by rfl) (by kernel_rfl) ?_)
    | (refine wpList_valG (o := ⟨some 5, _, _, _, _, _⟩) (.agg (evZ 1 zero 23 0 5 0 0 0 0).cells) w1 (by rfl) (by kernel_rfl) ?_)
    | (refine wpList_valG (o := ⟨some 6, _, _, _, _, _⟩) (.slice (some ⟨w1.heap.size, 0, none⟩) 1 1) (w1.alloc (.cells (evZ 1 zero 23 0 5 0 0 0 0).cells 40)) (by rfl) (by kernel_rfl) ?_))
  have hB := Blk.new w1 40 (evZ 1 zero 23 0 5 0 0 0 0).cells
  have hc1 := check_any _ 1 [evZ 1 zero 23 0 5 0 0 0 0] _ (evs_one hB) (by simp) (by simp) (fun e he => by rw [List.mem_singleton.1 he]; exact ⟨wfi_small (x := 1) (by omega) (by omega), wfi_small (x := 0) (by omega) (by omega), evZ_one _ _ _ _ _ _ _ _ _⟩)
  rw [shown1] at hc1
  refine hc1.mono ?_
  rintro x w2 ⟨rfl, hg2⟩
  have Hg2 := hide (only_trans (only_alloc Hg1.out (.cells (evZ 1 zero 23 0 5 0 0 0 0).cells 40)) hg2)
  clear hg2 hc1 hB
  go_wp2_with (first
    | (refine wpList_valG (o := ⟨some 11, _, _, _, _, _⟩) (.agg (evZ 2 zero 0 0 0 0 0 0 0).cells) w2 (by rfl) (by kernel_rfl) ?_)
    | (refine wpList_valG (o := ⟨some 12, _, _, _, _, _⟩) (.slice (some ⟨w2.heap.size, 0, none⟩) 1 1) (w2.alloc (.cells (evZ 2 zero 0 0 0 0 0 0 0).cells 40)) (by rfl) (by kernel_rfl) ?_))
  have hB := Blk.new w2 40 (evZ 2 zero 0 0 0 0 0 0 0).cells
  have hc1 := check_any _ 1 [evZ 2 zero 0 0 0 0 0 0 0] _ (evs_one hB) (by simp) (by simp) (fun e he => by rw [List.mem_singleton.1 he]; exact ⟨wfi_small (x := 2) (by omega) (by omega), wfi_small (x := 0) (by omega) (by omega), evZ_one _ _ _ _ _ _ _ _ _⟩)
  rw [shown2] at hc1
  refine hc1.mono ?_
  rintro x w3 ⟨rfl, hg3⟩
  have Hg3 := hide (only_trans (only_alloc Hg2.out (.cells (evZ 2 zero 0 0 0 0 0 0 0).cells 40)) hg3)
  clear hg3 hc1 hB
  go_wp2
  go_ret
  exact ⟨rfl, Hg3.out⟩

theorem EvsAt.take {w : World} {a : Option Addr} {es : List Ev} (h : EvsAt w a es) (n : Nat) : EvsAt w a (es.take n) := by
  intro k hk
  have hk' : k < es.length := by rw [List.length_take] at hk; omega
  obtain ⟨g, off, e, hg, hr⟩ := h k hk'
  exact ⟨g, off, e, hg, by rw [List.getElem_take]; exact hr⟩
def GoodE (e : Ev) : Prop := wfi e.pid ∧ wfi e.an ∧ e.cells.all (·.oneCell') = true
set_option maxHeartbeats 1000000 in
theorem tells_any (a : Option Addr) (cap : Nat) (es : List Ev) (w : World) (h : EvsAt w a es) (hcap : es.length ≤ cap) (hcm : cap ≤ maxLen) (hw : ∀ e ∈ es, GoodE e) :
    Calls Try.prog 3 #[.slice a es.length cap] w fun x w' => x = .returned (.bool true) ∧ w.grownBy w' none := by
  have H := hide h
  have Hw := hide hw
  have hs := hide (shown_any w)
  have hcm' : cap ≤ 9223372036854775807 := by unfold maxLen at hcm; omega
  clear h hw hcm
  by_cases hl : es.length ≤ 500
  · have hq : decide ((500 : Int) < (es.length : Int)) = false := by simp; omega
    go_enter Try.func3, Try.ntmps3
    go_wp2_with fail
    refine hs.out.mono ?_
    rintro x w1 ⟨rfl, hg1⟩
    have Hg1 := hide hg1
    clear hg1
    go_wp2_with fail
    refine (check_any a cap es w1 (H.out.gr Hg1.out) (by omega) hcap Hw.out).mono ?_
    rintro x w2 ⟨rfl, hg2⟩
    have Hg2 := hide (only_trans Hg1.out hg2)
    clear hg2
    go_wp2_with fail
    refine (rcheck_any a cap es w2 (H.out.gr Hg2.out) (by omega) hcap).mono ?_
    rintro x w3 ⟨rfl, hg3⟩
    have Hg3 := hide (only_trans Hg2.out hg3)
    clear hg3
    go_wp2
    go_ret
    exact ⟨by simp, Hg3.out⟩
  · have hq : decide ((500 : Int) < (es.length : Int)) = true := by simp; omega
    have hlen : (es.take 500).length = 500 := by rw [List.length_take]; omega
    have Hlen := hide hlen
    clear hlen
    go_enter Try.func3, Try.ntmps3
    go_wp2_with fail
    refine hs.out.mono ?_
    rintro x w1 ⟨rfl, hg1⟩
    have Hg1 := hide hg1
    clear hg1
    go_wp2_with fail
    have hc := check_any a cap (es.take 500) w1 ((H.out.gr Hg1.out).take 500) (by rw [Hlen.out]; omega) (by rw [Hlen.out]; omega) (fun e he => Hw.out e (List.mem_of_mem_take he))
    rw [Hlen.out] at hc
    refine hc.mono ?_
    rintro x w2 ⟨rfl, hg2⟩
    have Hg2 := hide (only_trans Hg1.out hg2)
    clear hg2 hc
    go_wp2_with fail
    have hc := rcheck_any a cap (es.take 500) w2 ((H.out.gr Hg2.out).take 500) (by rw [Hlen.out]; omega) (by rw [Hlen.out]; omega)
    rw [Hlen.out] at hc
    refine hc.mono ?_
    rintro x w3 ⟨rfl, hg3⟩
    have Hg3 := hide (only_trans Hg2.out hg3)
    clear hg3 hc
    go_wp2
    go_ret
    exact ⟨by simp, Hg3.out⟩

end Go.Proofs.Ytolmpejaakpikaa
