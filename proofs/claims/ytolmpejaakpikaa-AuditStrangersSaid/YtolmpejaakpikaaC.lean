/- The walk of becomes. -/
import Derived.Test.YtolmpejaakpikaaB
set_option linter.all false
namespace Go.Proofs.Ytolmpejaakpikaa
open Go.RowKit Go.Maps

/-- A call's cells: its operation, N, owner, group; the others whatever they are. -/
structure Cl where
  op : Int
  n : Int
  own : Int
  grp : Int
  v : Nat → Value
def Cl.cells (c : Cl) : Array Value := #[.int .i64 c.op, c.v 1, c.v 2, c.v 3, c.v 4, c.v 5, .int .i64 c.n, c.v 7, .int .i64 c.own, .int .i64 c.grp, c.v 10, c.v 11, c.v 12, c.v 13, c.v 14, c.v 15, c.v 16, c.v 17, c.v 18, c.v 19]

theorem chg_at {a w : World} {g : Nat} (h : Chg (one_ g) a w) (j : Nat) (u : Value) : Chg (one_ g) a (w.setCell ⟨g, j, none⟩ u) := h.setCell (p := ⟨g, j, none⟩) (.inl rfl) u
theorem mid_c {w w0 w2 : World} {pb : Nat} {p : Pc} {R : Cr} (h0 : w.grownBy w0 none) (hp : PcIs w0 pb p) (hg : w0.grownBy w2 none) :
    Mid w (w2.alloc (.cells #[.int .i64 R.r, .int .i64 R.e, .int .i64 R.s, .int .i64 R.g, .int .i64 R.h] 28)) pb w2.heap.size p R := by
  have hp2 : PcIs w2 pb p := Blk.grown hp hg (by simp)
  exact ⟨Blk.grown hp2 (only_alloc (only_refl w2 none) _) (by simp), Blk.new w2 28 _, fun e => by have := Blk.lt hp2; omega, only_alloc (only_trans h0 hg) _⟩

def Rat (rb : Nat) (R : Cr) (W : World) : Prop := W.cell? ⟨rb, 0, none⟩ = some (.int .i64 R.r) ∧ W.cell? ⟨rb, 1, none⟩ = some (.int .i64 R.e) ∧ W.cell? ⟨rb, 2, none⟩ = some (.int .i64 R.s) ∧ W.cell? ⟨rb, 3, none⟩ = some (.int .i64 R.g) ∧ W.cell? ⟨rb, 4, none⟩ = some (.int .i64 R.h)

set_option maxHeartbeats 2000000 in
theorem becomes_ok (pb : Nat) (p : Pc) (R : Cr) (c : Cl) (w : World) (h : PcIs w pb p) (hE : ofF c.own c.grp = (R, 0)) (he : p.c.e = 0) (hn : (p.nt || p.pv) = true) :
    Calls Try.prog 13 #[.pointer (some ⟨pb, 0, none⟩), .agg c.cells] w fun e w' => e = .returned (.bool true) ∧ PcIs w' pb ⟨R, 0, p.nt, R.e == 0⟩ ∧ w.grownBy w' (some pb) := by
  obtain ⟨w0, hw0⟩ : ∃ w0, (w.alloc (.cells c.cells 33)) = w0 := ⟨_, rfl⟩
  have hB := Blk.new w 33 c.cells
  have hG := only_alloc (only_refl w none) (.cells c.cells 33)
  have hP0 := Blk.grown h hG (by simp)
  rw [hw0] at hB hG hP0
  have k2 : w0.cell? ⟨w.heap.size, 8, none⟩ = some (.int .i64 c.own) := hB.cell 8
  have k3 : w0.cell? ⟨w.heap.size, 9, none⟩ = some (.int .i64 c.grp) := hB.cell 9
  have HE := hide hE
  have HG := hide hG
  have HP0 := hide hP0
  have q5 : (p.c.e != 0) = false := by simpa using he
  clear hB hG hE hP0 h he
  obtain ⟨CC, hCC⟩ : ∃ CC, c.cells = CC := ⟨_, rfl⟩
  rw [hCC] at hw0 ⊢
  go_enter Try.func13, Try.ntmps13
  go_wp2_with fail
  refine (of_calls c.own c.grp w0).mono ?_
  unfold ends
  rw [HE.out]
  rintro e w2 ⟨rfl, hg⟩
  have HM := hide (mid_c (R := R) HG.out HP0.out hg)
  obtain ⟨⟨c0, c1, c2, c3, c4, c5, c6, c7⟩, hpl, hz⟩ := HM.out.p.c
  obtain ⟨⟨r0, r1, r2, r3, r4⟩, hrl⟩ := HM.out.cells
  obtain ⟨W, hW⟩ : ∃ W, w2.alloc (.cells #[.int .i64 R.r, .int .i64 R.e, .int .i64 R.s, .int .i64 R.g, .int .i64 R.h] 28) = W := ⟨_, rfl⟩
  rw [hW] at HM c0 c1 c2 c3 c4 c5 c6 c7 r0 r1 r2 r3 r4 hpl hrl hz
  have z0 := hz 0
  have z1 := hz 1
  have z2 := hz 2
  have z3 := hz 3
  have z4 := hz 4
  have z5 := hz 5
  have z7 := hz 7
  have hne := HM.out.ne
  clear hz hg k2 k3
  have Hk : Hid (∀ W' : World, Chg (one_ pb) W W' → Rat w2.heap.size R W') :=
    hide (fun W' hc => ⟨(hc.cell (p := ⟨w2.heap.size, 0, none⟩) hrl (fun e => hne e)).trans r0, (hc.cell (p := ⟨w2.heap.size, 1, none⟩) hrl (fun e => hne e)).trans r1, (hc.cell (p := ⟨w2.heap.size, 2, none⟩) hrl (fun e => hne e)).trans r2, (hc.cell (p := ⟨w2.heap.size, 3, none⟩) hrl (fun e => hne e)).trans r3, (hc.cell (p := ⟨w2.heap.size, 4, none⟩) hrl (fun e => hne e)).trans r4⟩)
  have hq : (p.nt = false ∧ p.pv = true) ∨ p.nt = true := by
    cases hnt : p.nt with
    | true => exact .inr rfl
    | false => rw [hnt] at hn; exact .inl ⟨rfl, by simpa using hn⟩
  clear hn
  rcases hq with ⟨hnt, hpv⟩ | hnt
  all_goals
    rw [hnt] at c6
    try rw [hpv] at c7
    go_wp2_with fail
    refine wp_region_perm [0, 1, 2, 3, 4, 5, 6] [7, 8, 9, 10, 11, 12, 13, 14, 15] (by kernel_rfl) (by kernel_rfl) (Rat w2.heap.size R) ⟨r0, r1, r2, r3, r4⟩ ?_
    simp only [pick, List.getElem?_cons_zero, List.getElem?_cons_succ]
    repeat
      refine wpTake_cons ?_ (by rfl) ?_ ?_
      rotate_left
      · (intro W9 hSW; obtain ⟨hS1, hS2, hS3, hS4, hS5⟩ := hSW; go_simp; try with_reducible rfl)
      simp only [Act.put, List.setIfInBounds_toArray, List.set_cons_zero, List.set_cons_succ]
    refine wpTake_nil ?_
    refine wpForce_cons fun K1 hK1 => ?_
    refine step_val (.pointer (some ⟨pb, 0, none⟩)) W.drew (by rfl) (by go_simp) ?_
    refine hK1.out _ _ (Hk.out _ (by repeat' (first | (with_reducible exact Chg.refl _ _) | (with_reducible refine Chg.drew ?_) | (with_reducible refine chg_at ?_ _ _)))) ?_
    simp only [Act.put, List.setIfInBounds_toArray, List.set_cons_zero, List.set_cons_succ]
    refine wpForce_cons fun K2 hK2 => ?_
    refine step_val (.pointer (some ⟨pb, 0, none⟩)) W.drew (by rfl) (by go_simp) ?_
    refine hK2.out _ _ (Hk.out _ (by repeat' (first | (with_reducible exact Chg.refl _ _) | (with_reducible refine Chg.drew ?_) | (with_reducible refine chg_at ?_ _ _)))) ?_
    simp only [Act.put, List.setIfInBounds_toArray, List.set_cons_zero, List.set_cons_succ]
    refine wpForce_cons fun K3 hK3 => ?_
    refine step_skip (((((W.drew.setCell ⟨pb, 0, none⟩ (.int .i64 R.r)).setCell ⟨pb, 1, none⟩ (.int .i64 R.e)).setCell ⟨pb, 2, none⟩ (.int .i64 R.s)).setCell ⟨pb, 3, none⟩ (.int .i64 R.g)).setCell ⟨pb, 4, none⟩ (.int .i64 R.h)) (by rfl) (by go_simp) ?_
    refine hK3.out _ _ (Hk.out _ (by repeat' (first | (with_reducible exact Chg.refl _ _) | (with_reducible refine Chg.drew ?_) | (with_reducible refine chg_at ?_ _ _)))) ?_
    simp only [Act.put, List.setIfInBounds_toArray, List.set_cons_zero, List.set_cons_succ]
    have hd : PcIs W.drew pb p := Blk.chg HM.out.p ((Chg.refl nobody W).drew) (fun h => h)
    have hG0 : w.grownBy W.drew (some pb) := only_drew (only_of_none HM.out.gr _)
    clear hK1 hK2 hK3 K1 K2
    have hPV1 := (((((hd.s0 R.r).s1 R.e).s2 R.s).s3 R.g).s4 R.h)
    have hCV1 : Chg (one_ pb) W (((((W.drew.setCell ⟨pb, 0, none⟩ (.int .i64 R.r)).setCell ⟨pb, 1, none⟩ (.int .i64 R.e)).setCell ⟨pb, 2, none⟩ (.int .i64 R.s)).setCell ⟨pb, 3, none⟩ (.int .i64 R.g)).setCell ⟨pb, 4, none⟩ (.int .i64 R.h)) := (by repeat' (first | (with_reducible exact Chg.refl _ _) | (with_reducible refine Chg.drew ?_) | (with_reducible refine chg_at ?_ _ _)))
    have hGV1 : w.grownBy (((((W.drew.setCell ⟨pb, 0, none⟩ (.int .i64 R.r)).setCell ⟨pb, 1, none⟩ (.int .i64 R.e)).setCell ⟨pb, 2, none⟩ (.int .i64 R.s)).setCell ⟨pb, 3, none⟩ (.int .i64 R.g)).setCell ⟨pb, 4, none⟩ (.int .i64 R.h)) (some pb) := by repeat' (first | (with_reducible exact hG0) | (refine only_setCell ?_ (.inl rfl) _))
    generalize (((((W.drew.setCell ⟨pb, 0, none⟩ (.int .i64 R.r)).setCell ⟨pb, 1, none⟩ (.int .i64 R.e)).setCell ⟨pb, 2, none⟩ (.int .i64 R.s)).setCell ⟨pb, 3, none⟩ (.int .i64 R.g)).setCell ⟨pb, 4, none⟩ (.int .i64 R.h)) = V1 at hPV1 hCV1 hGV1 ⊢
    obtain ⟨⟨_, _, _, _, _, e5V1, _, e7V1⟩, eplV1, ezV1⟩ := hPV1.c
    have y5V1 := ezV1 5
    have y7V1 := ezV1 7
    clear ezV1
    refine wpForce_cons fun K4 hK4 => ?_
    refine step_val (.pointer (some ⟨pb, 0, none⟩)) V1 (by rfl) (by go_simp) ?_
    refine hK4.out _ _ (Hk.out _ (by first | exact hCV1 | exact chg_at hCV1 _ _)) ?_
    simp only [Act.put, List.setIfInBounds_toArray, List.set_cons_zero, List.set_cons_succ]
    refine wpForce_cons fun K5 hK5 => ?_
    refine step_val (.pointer (some ⟨pb, 5, none⟩)) V1 (by rfl) (by go_simp) ?_
    refine hK5.out _ _ (Hk.out _ (by first | exact hCV1 | exact chg_at hCV1 _ _)) ?_
    simp only [Act.put, List.setIfInBounds_toArray, List.set_cons_zero, List.set_cons_succ]
    refine wpForce_cons fun K6 hK6 => ?_
    refine step_skip (V1.setCell ⟨pb, 5, none⟩ (.int .i64 0)) (by rfl) (by go_simp) ?_
    refine hK6.out _ _ (Hk.out _ (by first | exact hCV1 | exact chg_at hCV1 _ _)) ?_
    simp only [Act.put, List.setIfInBounds_toArray, List.set_cons_zero, List.set_cons_succ]
    have hPV2 := (hPV1.s5 0)
    have hCV2 : Chg (one_ pb) W (V1.setCell ⟨pb, 5, none⟩ (.int .i64 0)) := chg_at hCV1 _ _
    have hGV2 : w.grownBy (V1.setCell ⟨pb, 5, none⟩ (.int .i64 0)) (some pb) := by repeat' (first | (with_reducible exact hGV1) | (refine only_setCell ?_ (.inl rfl) _))
    generalize (V1.setCell ⟨pb, 5, none⟩ (.int .i64 0)) = V2 at hPV2 hCV2 hGV2 ⊢
    obtain ⟨⟨_, _, _, _, _, e5V2, _, e7V2⟩, eplV2, ezV2⟩ := hPV2.c
    have y5V2 := ezV2 5
    have y7V2 := ezV2 7
    clear ezV2
    refine wpForce_cons fun K7 hK7 => ?_
    refine step_val (.pointer (some ⟨pb, 0, none⟩)) V2 (by rfl) (by go_simp) ?_
    refine hK7.out _ _ (Hk.out _ hCV2) ?_
    simp only [Act.put, List.setIfInBounds_toArray, List.set_cons_zero, List.set_cons_succ]
    refine wpForce_cons fun K8 hK8 => ?_
    refine step_val (.pointer (some ⟨pb, 7, none⟩)) V2 (by rfl) (by go_simp) ?_
    refine hK8.out _ _ (Hk.out _ hCV2) ?_
    simp only [Act.put, List.setIfInBounds_toArray, List.set_cons_zero, List.set_cons_succ]
    refine wpForce_one ?_
    clear hK4 hK5 hK6 hK7 hK8
    clear K3 K4 K5 K6 K7 K8
    go_wp2
    refine NoPanic.normal ?_
    go_wp2_with fail
    go_ret
    exact ⟨rfl, hPV2.s7 (R.e == 0), only_setCell hGV2 (.inl rfl) _⟩

/-- A refusal of becomes. -/
def badBecome (p : Pc) (c : Cl) : Bool := decide ((ofF c.own c.grp).2 ≠ 0) || (decide (p.c.e ≠ 0) || (!p.nt && !p.pv))

set_option maxHeartbeats 2000000 in
theorem becomes_bad (pb : Nat) (p : Pc) (c : Cl) (w : World) (h : PcIs w pb p) (hb : badBecome p c = true) :
    Calls Try.prog 13 #[.pointer (some ⟨pb, 0, none⟩), .agg c.cells] w fun e w' => e = .returned (.bool false) ∧ w.grownBy w' none := by
  obtain ⟨w0, hw0⟩ : ∃ w0, (w.alloc (.cells c.cells 33)) = w0 := ⟨_, rfl⟩
  have hB := Blk.new w 33 c.cells
  have hG := only_alloc (only_refl w none) (.cells c.cells 33)
  have hP0 := Blk.grown h hG (by simp)
  rw [hw0] at hB hG hP0
  have k2 : w0.cell? ⟨w.heap.size, 8, none⟩ = some (.int .i64 c.own) := hB.cell 8
  have k3 : w0.cell? ⟨w.heap.size, 9, none⟩ = some (.int .i64 c.grp) := hB.cell 9
  obtain ⟨⟨R, y⟩, hE⟩ : ∃ q, ofF c.own c.grp = q := ⟨_, rfl⟩
  have hq : ((y == 0) = false ∧ (y != 0) = true) ∨ ((y == 0) = true ∧ (y != 0) = false ∧ (p.c.e != 0) = true) ∨ ((y == 0) = true ∧ (y != 0) = false ∧ (p.c.e != 0) = false ∧ p.nt = false ∧ p.pv = false) := by
    unfold badBecome at hb
    rw [hE] at hb
    by_cases h1 : y = 0
    · by_cases h2 : p.c.e = 0
      · right; right
        simp [h1, h2] at hb ⊢
        exact hb
      · right; left
        simp [h1, h2]
    · left
      simp [h1]
  have HE := hide hE
  have HG := hide hG
  have HP0 := hide hP0
  clear hB hG hE hP0 h hb
  obtain ⟨CC, hCC⟩ : ∃ CC, c.cells = CC := ⟨_, rfl⟩
  rw [hCC] at hw0 ⊢
  rcases hq with ⟨q1, q2⟩ | ⟨q1, q2, q3⟩ | ⟨q1, q2, q3, hnt, hpv⟩
  all_goals
    go_enter Try.func13, Try.ntmps13
    go_wp2_with fail
    refine (of_calls c.own c.grp w0).mono ?_
    unfold ends
    rw [HE.out]
    rintro e w2 ⟨rfl, hg⟩
    have HM := hide (mid_c (R := R) HG.out HP0.out hg)
    obtain ⟨⟨c0, c1, c2, c3, c4, c5, c6, c7⟩, hpl, hz⟩ := HM.out.p.c
    obtain ⟨W, hW⟩ : ∃ W, w2.alloc (.cells #[.int .i64 R.r, .int .i64 R.e, .int .i64 R.s, .int .i64 R.g, .int .i64 R.h] 28) = W := ⟨_, rfl⟩
    rw [hW] at HM c0 c1 c2 c3 c4 c5 c6 c7 hpl hz
    try rw [hnt] at c6
    try rw [hpv] at c7
    clear hz hg k2 k3
    go_wp2
    go_ret
    exact ⟨rfl, HM.out.gr⟩

end Go.Proofs.Ytolmpejaakpikaa
