/- The walk of the document's set. -/
import Derived.Test.YtphjafidencdeaaU
import Derived.Deep.MidRow
import Derived.Laws.ResultCell
namespace Go.Proofs.Ytphjafidencdeaa
open Go.RowKit
set_option maxRecDepth 100000

theorem chg_setCells {S : Nat → Prop} {a : World} {g : Nat} (hg : S g) : ∀ (vs : List Value) (o : Nat) (w : World), Chg S a w → Chg S a (w.setCells g o vs)
  | [], _, _, h => h
  | v :: r, o, w, h => chg_setCells hg r (o + 1) _ (h.setCell (p := ⟨g, o, none⟩) (.inl hg) v)
theorem setCells_whole {g : Nat} {e : TypeId} {fz : Nat × Nat} : ∀ (vs : List Value) (o : Nat) (cur : Array Value) (w : World), w.heap[g]? = some (.cells cur e fz) → o + vs.length ≤ cur.size →
    ∃ cur', (w.setCells g o vs).heap[g]? = some (.cells cur' e fz) ∧ cur'.size = cur.size ∧ (∀ j, j < vs.length → cur'[o + j]? = vs[j]?) ∧ ∀ i, (i < o ∨ o + vs.length ≤ i) → cur'[i]? = cur[i]?
  | [], o, cur, w, h, _ => ⟨cur, h, rfl, fun j hj => absurd hj (Nat.not_lt_zero _), fun _ _ => rfl⟩
  | v :: r, o, cur, w, h, hl => by
    have h1 : (w.setCell ⟨g, o, none⟩ v).heap[g]? = some (.cells (cur.setIfInBounds o v) e fz) := by simp [World.setCell, Array.getElem?_modify, h]
    simp only [List.length_cons] at hl
    obtain ⟨cur', a1, a2, a3, a4⟩ := setCells_whole (g := g) (e := e) (fz := fz) r (o + 1) _ _ h1 (by simp only [Array.size_setIfInBounds]; omega)
    refine ⟨cur', a1, by rw [a2, Array.size_setIfInBounds], fun j hj => ?_, fun i hi => ?_⟩
    · cases j with
      | zero => rw [Nat.add_zero, a4 o (by omega), Array.getElem?_setIfInBounds_self_of_lt (by omega)]; rfl
      | succ j =>
        have := a3 j (by simp only [List.length_cons] at hj; omega)
        rw [show o + (j + 1) = o + 1 + j by omega, this]; rfl
    · simp only [List.length_cons] at hi
      rw [a4 i (by omega), Array.getElem?_setIfInBounds_ne (by omega)]
def DAt (w : World) (b : Nat) (x : DPt) : Prop := Blk w b 45 x.cells
def d0 : DPt := ⟨0, 0, false, noF⟩
def d91 : DPt := ⟨91, 0, false, noF⟩
theorem info45 : (Try.prog.info? 45).map (·.size) = some 259 := by kernel_rfl
theorem DAt.range {w : World} {b : Nat} {x : DPt} (h : DAt w b x) : w.rangeAt b 0 x.cells.toList := fun j v hj => by
  rw [Nat.zero_add, Blk.cell h j, ← hj, Array.getElem?_toList]
theorem DAt.there {w : World} {b : Nat} {x : DPt} (h : DAt w b x) : w.there b 0 259 := fun j hj => by
  rw [Nat.zero_add]
  refine ⟨?_, Blk.frozen h j⟩
  rw [Blk.cell h j, Array.getElem?_eq_getElem (by rw [DPt.size]; exact hj)]
  rfl
theorem DAt.store {w : World} {b : Nat} {x : DPt} (h : DAt w b x) (y : DPt) : DAt (w.setCells b 0 y.cells.toList) b y ∧ w.grownBy (w.setCells b 0 y.cells.toList) (some b) := by
  constructor
  · obtain ⟨cur', a1, a2, a3, a4⟩ := setCells_whole y.cells.toList 0 x.cells w h (by rw [Array.length_toList, DPt.size, DPt.size]; exact Nat.le_refl _)
    have e : cur' = y.cells := by
      apply Array.ext
      · rw [a2, DPt.size, DPt.size]
      · intro i h1 h2
        have := a3 i (by rw [Array.length_toList]; exact h2)
        rw [Nat.zero_add, Array.getElem?_eq_getElem h1, Array.getElem?_toList, Array.getElem?_eq_getElem h2] at this
        exact Option.some.inj this
    subst e
    exact a1
  · have hc : Chg (one_ b) w (w.setCells b 0 y.cells.toList) := chg_setCells (S := one_ b) rfl _ _ _ (Chg.refl _ w)
    exact ⟨hc.os, hc.tape, hc.output, hc.size, fun i hi hb => hc.block i hi (fun e => hb (congrArg some e))⟩
theorem DAt.n {w : World} {b : Nat} {x : DPt} (h : DAt w b x) (v : Bool) : DAt (w.setCell ⟨b, 2, none⟩ (.bool v)) b { x with n := v } := by
  have := Blk.set_ h 2 (.bool v)
  have e : x.cells.setIfInBounds 2 (.bool v) = ({ x with n := v } : DPt).cells := by
    unfold DPt.cells
    rw [List.setIfInBounds_toArray]
    rfl
  rw [e] at this
  exact this
section
variable {W : World} {ops : Array Oper} {rest : List Oper} {op : Oper} {a : Act} {Q : Exit → Act → World → Prop} {b : Nat}
theorem wpList_load45 {x : DPt} (hg : op.guard = none) (y : Operand) (ho : op.op = .load 45 y) (hx : a.eval y = .pointer (some ⟨b, 0, none⟩)) (h : DAt W b x) (hK : wpList Try.prog ops Q rest (a.put op.dst (.agg x.cells)) W) : wpList Try.prog ops Q (op :: rest) a W :=
  wpList_load_mid hg 45 y ho b 0 hx x.cells.toList _ h.range Try.underlying45 rfl (by rw [Array.length_toList, DPt.size]; exact info45) (by simpa using hK)
theorem wpList_store45 {x : DPt} (y : DPt) (hg : op.guard = none) (u v : Operand) (ho : op.op = .store 45 u v) (hu : a.eval u = .pointer (some ⟨b, 0, none⟩)) (hv : a.eval v = .agg y.cells) (h : DAt W b x) (hK : wpList Try.prog ops Q rest (a.put op.dst undef) (W.setCells b 0 y.cells.toList)) : wpList Try.prog ops Q (op :: rest) a W :=
  wpList_store_mid hg 45 u v ho b 0 y.cells hu hv (by rw [DPt.size]; exact h.there) (by rw [DPt.size]; exact info45) y.one_cells hK
theorem wpList_b91 (hg : op.guard = none) (ho : op.op = .build 45 #[(0, .const (.int .u8 91))]) (hK : wpList Try.prog ops Q rest (a.put op.dst (.agg d91.cells)) W) : wpList Try.prog ops Q (op :: rest) a W :=
  wpList_val _ _ hg (by unfold execOp; rw [ho]; kernel_rfl) hK
theorem wpList_b0 (hg : op.guard = none) (ho : op.op = .build 45 #[]) (hK : wpList Try.prog ops Q rest (a.put op.dst (.agg d0.cells)) W) : wpList Try.prog ops Q (op :: rest) a W :=
  wpList_val _ _ hg (by unfold execOp; rw [ho]; kernel_rfl) hK
theorem wpList_bsig {y : Operand} (c : UInt8) (hg : op.guard = none) (ho : op.op = .build 45 #[(0, y)]) (hy : a.eval y = .int .u8 c.toNat) (hK : wpList Try.prog ops Q rest (a.put op.dst (.agg (dsig c).cells)) W) : wpList Try.prog ops Q (op :: rest) a W :=
  wpList_val _ _ hg (by unfold execOp; rw [ho]; simp only [List.map_toArray, List.map_cons, List.map_nil, hy]; kernel_rfl) hK
theorem wpList_blit {y : Operand} (c : UInt8) (hg : op.guard = none) (ho : op.op = .build 45 #[(0, .const (.int .u8 99)), (1, y)]) (hy : a.eval y = .int .u8 c.toNat) (hK : wpList Try.prog ops Q rest (a.put op.dst (.agg (dlit c).cells)) W) : wpList Try.prog ops Q (op :: rest) a W :=
  wpList_val _ _ hg (by unfold execOp; rw [ho]; simp only [List.map_toArray, List.map_cons, List.map_nil, hy]; kernel_rfl) hK
theorem wpList_alloc45 (hg : op.guard = none) (ho : op.op = .alloc 45) (hK : wpList Try.prog ops Q rest (a.put op.dst (.pointer (some ⟨W.heap.size, 0, none⟩))) (W.alloc (.cells d0.cells 45))) : wpList Try.prog ops Q (op :: rest) a W :=
  wpList_val _ _ hg (by unfold execOp; rw [ho]; kernel_rfl) hK
end
theorem res45 {tmps : Array Value} {w : World} {b : Nat} {x : DPt} {e : Value} (h4 : tmps.getD 4 undef = .pointer (some ⟨b, 0, none⟩)) (h5 : tmps.getD 5 undef = e) (h : DAt w b x) : (results Try.f31 tmps).run Try.prog w = .ok (.tuple #[.agg x.cells, e]) w := by
  have hl := run_loadVar_mid (P := Try.prog) w b 0 45 x.cells.toList _ h.range Try.underlying45 rfl (by rw [Array.length_toList, DPt.size]; exact info45)
  rw [Array.toArray_toList] at hl
  rw [results_cell_tmp (p := 4) (u := 5) (ty := 45) rfl, h4, h5]
  simp [asAddr, hl, Result.andThen]

/-- The bytes of a range that were gone through. -/
def addC (f : UInt8 → Bool) (lo hi : UInt8) (c : Nat) : UInt8 → Bool := fun d => f d || (decide (lo.toNat ≤ d.toNat) && decide (d.toNat ≤ hi.toNat) && decide (d.toNat < c))
theorem addC_zero (f : UInt8 → Bool) (lo hi : UInt8) : addC f lo hi 0 = f := by
  funext d
  unfold addC
  simp
theorem addC_full (f : UInt8 → Bool) (lo hi : UInt8) : addC f lo hi 256 = addD f lo hi := by
  funext d
  have := d.toNat_lt
  unfold addC addD
  rw [show decide (d.toNat < 256) = true by simp; omega, Bool.and_true]
theorem ofNat_to {c : Nat} (h : c < 256) : (UInt8.ofNat c).toNat = c := by rw [UInt8.toNat_ofNat']; omega
theorem addC_skip {f : UInt8 → Bool} {lo hi : UInt8} {c : Nat} (h : ¬ (lo.toNat ≤ c ∧ c ≤ hi.toNat)) : addC f lo hi (c + 1) = addC f lo hi c := by
  funext d
  unfold addC
  congr 1
  rw [Bool.eq_iff_iff]
  simp only [Bool.and_eq_true, decide_eq_true_eq]
  omega
theorem DAt.add {w : World} {b : Nat} {k c0 : UInt8} {n : Bool} {f : UInt8 → Bool} {lo hi : UInt8} {c : Nat} (hc : c < 256) (h : lo.toNat ≤ c ∧ c ≤ hi.toNat) (hD : DAt w b ⟨k, c0, n, addC f lo hi c⟩) : DAt (w.setCell ⟨b, 3 + c, none⟩ (.bool true)) b ⟨k, c0, n, addC f lo hi (c + 1)⟩ := by
  have := Blk.set_ hD (3 + c) (.bool true)
  rw [DPt.put _ c hc (addC f lo hi (c + 1)) ?_ ?_] at this
  · exact this
  · unfold addC
    rw [ofNat_to hc]
    simp [h.1, h.2]
  · intro e he hne
    show addC f lo hi (c + 1) (UInt8.ofNat e) = addC f lo hi c (UInt8.ofNat e)
    unfold addC
    rw [ofNat_to he]
    congr 1
    rw [Bool.eq_iff_iff]
    simp only [Bool.and_eq_true, decide_eq_true_eq]
    omega
def outD (nt : Bool) (R : Option ((UInt8 → Bool) × Nat)) : DPt × Nat := match R with
  | none => (d0, 0)
  | some (f, n) => (⟨91, 0, nt, f⟩, n)
theorem dsetF_out (p : List UInt8) (i : Nat) : dsetF p i = outD (dNot p i) (setGo addD p (i + if dNot p i then 1 else 0) (i + if dNot p i then 1 else 0) noF) := by
  unfold dsetF outD
  cases setGo addD p (i + if dNot p i then 1 else 0) (i + if dNot p i then 1 else 0) noF with
  | none => rfl
  | some q => obtain ⟨f, n⟩ := q; rfl

theorem start31 (w : World) : DAt (((w.alloc (.cells d0.cells 45)).alloc (.cells d0.cells 45)).setCells (w.heap.size + 1) 0 d91.cells.toList) (w.heap.size + 1) d91 ∧ DAt (((w.alloc (.cells d0.cells 45)).alloc (.cells d0.cells 45)).setCells (w.heap.size + 1) 0 d91.cells.toList) w.heap.size d0 ∧ w.grownBy (((w.alloc (.cells d0.cells 45)).alloc (.cells d0.cells 45)).setCells (w.heap.size + 1) 0 d91.cells.toList) none := by
  have h := Blk.new (w.alloc (.cells d0.cells 45)) 45 d0.cells
  rw [World.size_alloc] at h
  obtain ⟨f1, f2⟩ := DAt.store (x := d0) h d91
  exact ⟨f1, Blk.grown ((Blk.new w 45 d0.cells).alloc _) f2 (by simp), only_new (only_alloc (only_alloc (only_refl w none) _) _) (by omega) f2⟩

set_option maxHeartbeats 8000000 in
theorem rset_not (p : List UInt8) (i : Nat) (w : World) (hp : p.length ≤ 1000000) (hi : i < p.length) (h33 : p[i] = 33) (R : Option ((UInt8 → Bool) × Nat)) (hR : setGo addD p (i + 1) (i + 1) noF = R) :
    Calls Try.prog 31 #[sv p, .int .i64 i] w fun e w' => e = .returned (.tuple #[.agg (outD true R).1.cells, .int .i64 (outD true R).2]) ∧ w.grownBy w' none := by
  have h1 := sz p
  have HR := hide hR
  clear hR
  unfold sv
  have q0 : decide ((i : Int) < (p.length : Int)) = true := by simp; omega
  have hat := str_at' p i hi
  have hib : (0 : Int) ≤ i ∧ (i : Int) < (p.length : Int) := by omega
  have qb : (((p[i]).toNat : Int) == 33) = true := by rw [h33]; rfl
  clear h33
  go_enter Try.func31, Try.ntmps31
  go_wp2_with (first
    | (refine wpList_alloc45 rfl rfl ?_)
    | (refine wpList_b91 rfl rfl ?_)
    | (refine wpList_store45 (b := w.heap.size + 1) (x := d0) d91 rfl _ _ rfl (by simp [go_sem]) rfl (by have := Blk.new (w.alloc (.cells d0.cells 45)) 45 d0.cells; rw [World.size_alloc] at this; exact this) ?_; obtain ⟨W2, hW2⟩ : ∃ W2, ((w.alloc (.cells d0.cells 45)).alloc (.cells d0.cells 45)).setCells (w.heap.size + 1) 0 d91.cells.toList = W2 := ⟨_, rfl⟩; rw [hW2]; (have HX := hide (start31 w)); rw [hW2] at HX; clear hW2; obtain ⟨f1, f2, f3⟩ := HX.out; (have HD0 := hide f1); (have HZ0 := hide f2); (have HG0 := hide f3); (have hc2 := (Blk.cell f1 2).trans (DPt.c2 d91)); (have hz2 := Blk.frozen f1 2); (have hl2 := Blk.lt f1); clear f1 f2 f3 HX))
  have HD0 := hide (DAt.n HD0.out true)
  have HZ0 := hide (show DAt (W2.setCell ⟨w.heap.size + 1, 2, none⟩ (.bool true)) w.heap.size d0 from Blk.far HZ0.out (by show w.heap.size ≠ w.heap.size + 1; omega) _)
  have HG0 := hide (none_setCell HG0.out (p := ⟨w.heap.size + 1, 2, none⟩) (by show w.heap.size ≤ w.heap.size + 1; omega) (.bool true))
  clear hc2 hz2 q0 hat hib qb
  go_loopw [1] (fun v wr => ∃ (k : Nat) (f : UInt8 → Bool), v = .int .i64 k ∧ k ≤ p.length ∧ DAt wr (w.heap.size + 1) ⟨91, 0, true, f⟩ ∧ DAt wr w.heap.size d0 ∧ w.grownBy wr none ∧ i + 1 ≤ k ∧ setGo addD p (i + 1) k f = R) (fun v _ => p.length - (intOf v).toNat)
  case atStart => exact ⟨i + 1, noF, by go_num, by omega, HD0.out, HZ0.out, HG0.out, Nat.le_refl _, HR.out⟩
  case round =>
    obtain ⟨k, f, rfl, hk, hd, hz, hg, hfk, hres⟩ := hrel
    have HD := hide hd
    have HZ := hide hz
    have HG := hide hg
    have HR := hide hres
    clear hd hz hg hres
    by_cases hlt : k < p.length
    · have q0 : decide ((k : Int) < (p.length : Int)) = true := by simp; omega
      have hat := str_at' p k hlt
      have hib : (0 : Int) ≤ k ∧ (k : Int) < (p.length : Int) := by omega
      by_cases hclose : p[k] = 93 ∧ i + 1 < k
      · have qb : (((p[k]).toNat : Int) == 93) = true := by rw [hclose.1]; rfl
        have qf : (i : Int) + 1 < (k : Int) := by omega
        have qf2 : decide ((i : Int) + 1 < (k : Int)) = true := by simp; omega
        have hR := setGo_close (add := addD) (s := f) hlt hclose
        rw [HR.out] at hR
        subst hR
        clear hclose
        go_wp2_with (first | (refine wpList_load45 rfl _ rfl rfl HD.out ?_) | (refine wpList_store45 (⟨91, 0, true, f⟩ : DPt) rfl _ _ rfl rfl rfl HZ.out ?_))
        obtain ⟨f1, f2⟩ := DAt.store HZ.out (⟨91, 0, true, f⟩ : DPt)
        exact bodyPost_ret (res45 rfl rfl f1) rfl ⟨by simp [outD], only_new HG.out (Nat.le_refl _) f2⟩
      · have hqp := quo_pos (drop_ne hlt)
        have hql := quo_le hlt
        have hm := fun w' => rmember_any p k w' hp hlt
        obtain ⟨lo, hlo0⟩ : ∃ lo, (quo (p.drop k)).1 = lo := ⟨_, rfl⟩
        obtain ⟨kk, hk0⟩ : ∃ kk, (quo (p.drop k)).2 = kk := ⟨_, rfl⟩
        unfold sv at hm
        rw [hlo0, hk0] at hm
        rw [hk0] at hqp hql
        have Hm := hide hm
        have hcond : (((p[k]).toNat : Int) == 93) = false ∨ (((p[k]).toNat : Int) == 93) = true ∧ ¬ ((i : Int) + 1 < (k : Int)) ∧ decide ((i : Int) + 1 < (k : Int)) = false := by
          by_cases h93 : p[k] = 93
          · have : ¬ i + 1 < k := fun h => hclose ⟨h93, h⟩
            exact .inr ⟨by rw [h93]; rfl, by omega, by simp; omega⟩
          · exact .inl (byte_ne (d := 93) h93)
        have Hcl := hide hclose
        have Hlo := hide hlo0
        have Hk := hide hk0
        clear hm hclose hlo0 hk0
        by_cases hr : k + kk + 1 < p.length ∧ p.getD (k + kk) 0 = 45 ∧ p.getD (k + kk + 1) 0 ≠ 93
        · obtain ⟨hr1, hr2, hr3⟩ := hr
          have hat2 := str_at' p (k + kk) (by omega)
          have hat3 := str_at' p (k + kk + 1) (by omega)
          have qb2 : (((p[k + kk]'(by omega)).toNat : Int) == 45) = true := by rw [← getD_at (by omega), hr2]; rfl
          have qb3 : (((p[k + kk + 1]'(by omega)).toNat : Int) == 93) = false := byte_ne (d := 93) (by rw [← getD_at (by omega)]; exact hr3)
          have qb4 : (((p[k + kk + 1]'(by omega)).toNat : Int) != 93) = true := by simp only [bne, qb3]; rfl
          have qj : decide ((k : Int) + kk + 1 < (p.length : Int)) = true := by simp; omega
          have hjb : (k : Int) + kk + 1 < (p.length : Int) := by omega
          have hqp2 := quo_pos (drop_ne hr1)
          have hql2 := quo_le hr1
          have hm2 := fun w' => rmember_any p (k + kk + 1) w' hp hr1
          obtain ⟨hi2, hhi0⟩ : ∃ hi2, (quo (p.drop (k + kk + 1))).1 = hi2 := ⟨_, rfl⟩
          obtain ⟨k2, hk20⟩ : ∃ k2, (quo (p.drop (k + kk + 1))).2 = k2 := ⟨_, rfl⟩
          unfold sv at hm2
          rw [hhi0, hk20, show (((k + kk + 1 : Nat)) : Int) = (k : Int) + kk + 1 by omega] at hm2
          rw [hk20] at hqp2 hql2
          have Hm2 := hide hm2
          have hstep := setGo_range (add := addD) (s := f) hlt Hcl.out (by rw [Hk.out]; exact ⟨hr1, hr2, hr3⟩)
          rw [Hk.out, Hlo.out, hhi0, hk20] at hstep
          have Hstep := hide hstep
          clear hm2 hhi0 hk20 hstep hr2 hr3
          rcases hcond with qb | ⟨qb, qf, qf2⟩
          all_goals
            go_wp2_with fail
            refine (Hm.out _).mono ?_
            rintro e w2 ⟨rfl, rfl⟩
            go_wp2_with fail
            refine (Hm2.out _).mono ?_
            rintro e w2 ⟨rfl, rfl⟩
            have hlo := lo.toNat_lt
            have hhi := (hi2).toNat_lt
            go_wp2_with fail
            go_loopw [11] (fun u wi => ∃ c2 : Nat, u = .int .i64 c2 ∧ c2 ≤ 256 ∧ DAt wi (w.heap.size + 1) ⟨91, 0, true, addC f lo hi2 c2⟩ ∧ DAt wi w.heap.size d0 ∧ w.grownBy wi none) (fun u _ => 256 - (intOf u).toNat)
            case atStart => exact ⟨0, rfl, by omega, by rw [addC_zero]; exact HD.out, HZ.out, HG.out⟩
            case round =>
              obtain ⟨c2, rfl, hc2, hd2, hz2, hg2⟩ := hrel
              have HD2 := hide hd2
              have HZ2 := hide hz2
              have HG2 := hide hg2
              by_cases hcl : c2 < 256
              · have qc : decide ((c2 : Int) < 256) = true := by simp; omega
                have hcell := (Blk.cell hd2 (3 + c2)).trans (DPt.cs _ c2 hcl)
                have hcz := Blk.frozen hd2 (3 + c2)
                have hdl := Blk.lt hd2
                have hcb : (0 : Int) ≤ c2 ∧ (c2 : Int) < 256 := by omega
                clear hd2 hz2 hg2
                by_cases hge : lo.toNat ≤ c2
                · have qg : decide ((lo.toNat : Int) ≤ (c2 : Int)) = true := by simp; omega
                  have qg' : decide (lo.toNat ≤ c2) = true := by simp; omega
                  by_cases hle : c2 ≤ (hi2).toNat
                  · have ql : decide ((c2 : Int) ≤ ((hi2).toNat : Int)) = true := by simp; omega
                    have ql' : decide (c2 ≤ (hi2).toNat) = true := by simp; omega
                    go_wp2_with fail
                    go_roundw
                    case rel => exact ⟨c2 + 1, by go_num, by omega, DAt.add hcl ⟨hge, hle⟩ HD2.out, Blk.far HZ2.out (by show w.heap.size ≠ w.heap.size + 1; omega) _, none_setCell HG2.out (by show w.heap.size ≤ w.heap.size + 1; omega) _⟩
                    case measure => simp [intOf]; omega
                  · have ql : decide ((c2 : Int) ≤ ((hi2).toNat : Int)) = false := by simp; omega
                    have ql' : decide (c2 ≤ (hi2).toNat) = false := by simp; omega
                    go_wp2_with fail
                    go_roundw
                    case rel => exact ⟨c2 + 1, by go_num, by omega, by rw [addC_skip (fun h => hle h.2)]; exact HD2.out, HZ2.out, HG2.out⟩
                    case measure => simp [intOf]; omega
                · have qg : decide ((lo.toNat : Int) ≤ (c2 : Int)) = false := by simp; omega
                  have qg' : decide (lo.toNat ≤ c2) = false := by simp; omega
                  go_wp2_with fail
                  go_roundw
                  case rel => exact ⟨c2 + 1, by go_num, by omega, by rw [addC_skip (fun h => hge h.1)]; exact HD2.out, HZ2.out, HG2.out⟩
                  case measure => simp [intOf]; omega
              · have qc : decide ((c2 : Int) < 256) = false := by simp; omega
                obtain rfl : c2 = 256 := by omega
                clear hd2 hz2 hg2
                go_wp2_with fail
                go_roundw
                case rel => exact ⟨k + kk + 1 + k2, addD f lo hi2, by go_num, by omega, by rw [← addC_full]; exact HD2.out, HZ2.out, HG2.out, by omega, by rw [← HR.out, Hstep.out]⟩
                case measure => simp [intOf]; omega
        · have hstep := setGo_one (add := addD) (s := f) hlt Hcl.out (by rw [Hk.out]; exact hr)
          rw [Hk.out, Hlo.out] at hstep
          have Hstep := hide hstep
          have hways : (¬ (k : Int) + kk + 1 < (p.length : Int)) ∨ (∃ h : k + kk + 1 < p.length, ((p[k + kk]'(by omega)).toNat : Int) ≠ 45) ∨ (∃ h : k + kk + 1 < p.length, ((p[k + kk]'(by omega)).toNat : Int) = 45 ∧ ((p[k + kk + 1]'(by omega)).toNat : Int) = 93) := by
            by_cases a1 : k + kk + 1 < p.length
            · by_cases a2 : p[k + kk]'(by omega) = 45
              · by_cases a3 : p[k + kk + 1]'(by omega) = 93
                · exact .inr (.inr ⟨a1, by rw [a2]; rfl, by rw [a3]; rfl⟩)
                · exact absurd ⟨a1, by rw [getD_at (by omega)]; exact a2, by rw [getD_at (by omega)]; exact a3⟩ hr
              · refine .inr (.inl ⟨a1, fun e => a2 (UInt8.toNat_inj.1 ?_)⟩)
                have : ((45 : UInt8).toNat : Int) = 45 := rfl
                omega
            · exact .inl (by omega)
          clear hstep hr
          rcases hways with hj | ⟨a1, a2⟩ | ⟨a1, a2, a3⟩
          · have qj : decide ((k : Int) + kk + 1 < (p.length : Int)) = false := by simp; omega
            rcases hcond with qb | ⟨qb, qf, qf2⟩
            all_goals
              go_wp2_with fail
              refine (Hm.out _).mono ?_
              rintro e w2 ⟨rfl, rfl⟩
              have hlo := lo.toNat_lt
              go_wp2_with fail
              go_loopw [11] (fun u wi => ∃ c2 : Nat, u = .int .i64 c2 ∧ c2 ≤ 256 ∧ DAt wi (w.heap.size + 1) ⟨91, 0, true, addC f lo lo c2⟩ ∧ DAt wi w.heap.size d0 ∧ w.grownBy wi none) (fun u _ => 256 - (intOf u).toNat)
              case atStart => exact ⟨0, rfl, by omega, by rw [addC_zero]; exact HD.out, HZ.out, HG.out⟩
              case round =>
                obtain ⟨c2, rfl, hc2, hd2, hz2, hg2⟩ := hrel
                have HD2 := hide hd2
                have HZ2 := hide hz2
                have HG2 := hide hg2
                by_cases hcl : c2 < 256
                · have qc : decide ((c2 : Int) < 256) = true := by simp; omega
                  have hcell := (Blk.cell hd2 (3 + c2)).trans (DPt.cs _ c2 hcl)
                  have hcz := Blk.frozen hd2 (3 + c2)
                  have hdl := Blk.lt hd2
                  have hcb : (0 : Int) ≤ c2 ∧ (c2 : Int) < 256 := by omega
                  clear hd2 hz2 hg2
                  by_cases hge : lo.toNat ≤ c2
                  · have qg : decide ((lo.toNat : Int) ≤ (c2 : Int)) = true := by simp; omega
                    have qg' : decide (lo.toNat ≤ c2) = true := by simp; omega
                    by_cases hle : c2 ≤ (lo).toNat
                    · have ql : decide ((c2 : Int) ≤ ((lo).toNat : Int)) = true := by simp; omega
                      have ql' : decide (c2 ≤ (lo).toNat) = true := by simp; omega
                      go_wp2_with fail
                      go_roundw
                      case rel => exact ⟨c2 + 1, by go_num, by omega, DAt.add hcl ⟨hge, hle⟩ HD2.out, Blk.far HZ2.out (by show w.heap.size ≠ w.heap.size + 1; omega) _, none_setCell HG2.out (by show w.heap.size ≤ w.heap.size + 1; omega) _⟩
                      case measure => simp [intOf]; omega
                    · have ql : decide ((c2 : Int) ≤ ((lo).toNat : Int)) = false := by simp; omega
                      have ql' : decide (c2 ≤ (lo).toNat) = false := by simp; omega
                      go_wp2_with fail
                      go_roundw
                      case rel => exact ⟨c2 + 1, by go_num, by omega, by rw [addC_skip (fun h => hle h.2)]; exact HD2.out, HZ2.out, HG2.out⟩
                      case measure => simp [intOf]; omega
                  · have qg : decide ((lo.toNat : Int) ≤ (c2 : Int)) = false := by simp; omega
                    have qg' : decide (lo.toNat ≤ c2) = false := by simp; omega
                    go_wp2_with fail
                    go_roundw
                    case rel => exact ⟨c2 + 1, by go_num, by omega, by rw [addC_skip (fun h => hge h.1)]; exact HD2.out, HZ2.out, HG2.out⟩
                    case measure => simp [intOf]; omega
                · have qc : decide ((c2 : Int) < 256) = false := by simp; omega
                  obtain rfl : c2 = 256 := by omega
                  clear hd2 hz2 hg2
                  go_wp2_with fail
                  go_roundw
                  case rel => exact ⟨k + kk, addD f lo lo, by go_num, by omega, by rw [← addC_full]; exact HD2.out, HZ2.out, HG2.out, by omega, by rw [← HR.out, Hstep.out]⟩
                  case measure => simp [intOf]; omega
          · have hat2 := str_at' p (k + kk) (by omega)
            have qb2 : (((p[k + kk]'(by omega)).toNat : Int) == 45) = false := by rw [beq_eq_false_iff_ne]; exact a2
            have hjb : (k : Int) + kk + 1 < (p.length : Int) := by omega
            have qj : decide ((k : Int) + kk + 1 < (p.length : Int)) = true := by simp; omega
            clear a2
            rcases hcond with qb | ⟨qb, qf, qf2⟩
            all_goals
              go_wp2_with fail
              refine (Hm.out _).mono ?_
              rintro e w2 ⟨rfl, rfl⟩
              have hlo := lo.toNat_lt
              go_wp2_with fail
              go_loopw [11] (fun u wi => ∃ c2 : Nat, u = .int .i64 c2 ∧ c2 ≤ 256 ∧ DAt wi (w.heap.size + 1) ⟨91, 0, true, addC f lo lo c2⟩ ∧ DAt wi w.heap.size d0 ∧ w.grownBy wi none) (fun u _ => 256 - (intOf u).toNat)
              case atStart => exact ⟨0, rfl, by omega, by rw [addC_zero]; exact HD.out, HZ.out, HG.out⟩
              case round =>
                obtain ⟨c2, rfl, hc2, hd2, hz2, hg2⟩ := hrel
                have HD2 := hide hd2
                have HZ2 := hide hz2
                have HG2 := hide hg2
                by_cases hcl : c2 < 256
                · have qc : decide ((c2 : Int) < 256) = true := by simp; omega
                  have hcell := (Blk.cell hd2 (3 + c2)).trans (DPt.cs _ c2 hcl)
                  have hcz := Blk.frozen hd2 (3 + c2)
                  have hdl := Blk.lt hd2
                  have hcb : (0 : Int) ≤ c2 ∧ (c2 : Int) < 256 := by omega
                  clear hd2 hz2 hg2
                  by_cases hge : lo.toNat ≤ c2
                  · have qg : decide ((lo.toNat : Int) ≤ (c2 : Int)) = true := by simp; omega
                    have qg' : decide (lo.toNat ≤ c2) = true := by simp; omega
                    by_cases hle : c2 ≤ (lo).toNat
                    · have ql : decide ((c2 : Int) ≤ ((lo).toNat : Int)) = true := by simp; omega
                      have ql' : decide (c2 ≤ (lo).toNat) = true := by simp; omega
                      go_wp2_with fail
                      go_roundw
                      case rel => exact ⟨c2 + 1, by go_num, by omega, DAt.add hcl ⟨hge, hle⟩ HD2.out, Blk.far HZ2.out (by show w.heap.size ≠ w.heap.size + 1; omega) _, none_setCell HG2.out (by show w.heap.size ≤ w.heap.size + 1; omega) _⟩
                      case measure => simp [intOf]; omega
                    · have ql : decide ((c2 : Int) ≤ ((lo).toNat : Int)) = false := by simp; omega
                      have ql' : decide (c2 ≤ (lo).toNat) = false := by simp; omega
                      go_wp2_with fail
                      go_roundw
                      case rel => exact ⟨c2 + 1, by go_num, by omega, by rw [addC_skip (fun h => hle h.2)]; exact HD2.out, HZ2.out, HG2.out⟩
                      case measure => simp [intOf]; omega
                  · have qg : decide ((lo.toNat : Int) ≤ (c2 : Int)) = false := by simp; omega
                    have qg' : decide (lo.toNat ≤ c2) = false := by simp; omega
                    go_wp2_with fail
                    go_roundw
                    case rel => exact ⟨c2 + 1, by go_num, by omega, by rw [addC_skip (fun h => hge h.1)]; exact HD2.out, HZ2.out, HG2.out⟩
                    case measure => simp [intOf]; omega
                · have qc : decide ((c2 : Int) < 256) = false := by simp; omega
                  obtain rfl : c2 = 256 := by omega
                  clear hd2 hz2 hg2
                  go_wp2_with fail
                  go_roundw
                  case rel => exact ⟨k + kk, addD f lo lo, by go_num, by omega, by rw [← addC_full]; exact HD2.out, HZ2.out, HG2.out, by omega, by rw [← HR.out, Hstep.out]⟩
                  case measure => simp [intOf]; omega
          · have hat2 := str_at' p (k + kk) (by omega)
            have hat3 := str_at' p (k + kk + 1) (by omega)
            have qb2 : (((p[k + kk]'(by omega)).toNat : Int) == 45) = true := by rw [beq_iff_eq]; exact a2
            have qb4 : (((p[k + kk + 1]'(by omega)).toNat : Int) != 93) = false := by rw [bne_eq_false_iff_eq]; exact a3
            have hjb : (k : Int) + kk + 1 < (p.length : Int) := by omega
            have qj : decide ((k : Int) + kk + 1 < (p.length : Int)) = true := by simp; omega
            clear a2 a3
            rcases hcond with qb | ⟨qb, qf, qf2⟩
            all_goals
              go_wp2_with fail
              refine (Hm.out _).mono ?_
              rintro e w2 ⟨rfl, rfl⟩
              have hlo := lo.toNat_lt
              go_wp2_with fail
              go_loopw [11] (fun u wi => ∃ c2 : Nat, u = .int .i64 c2 ∧ c2 ≤ 256 ∧ DAt wi (w.heap.size + 1) ⟨91, 0, true, addC f lo lo c2⟩ ∧ DAt wi w.heap.size d0 ∧ w.grownBy wi none) (fun u _ => 256 - (intOf u).toNat)
              case atStart => exact ⟨0, rfl, by omega, by rw [addC_zero]; exact HD.out, HZ.out, HG.out⟩
              case round =>
                obtain ⟨c2, rfl, hc2, hd2, hz2, hg2⟩ := hrel
                have HD2 := hide hd2
                have HZ2 := hide hz2
                have HG2 := hide hg2
                by_cases hcl : c2 < 256
                · have qc : decide ((c2 : Int) < 256) = true := by simp; omega
                  have hcell := (Blk.cell hd2 (3 + c2)).trans (DPt.cs _ c2 hcl)
                  have hcz := Blk.frozen hd2 (3 + c2)
                  have hdl := Blk.lt hd2
                  have hcb : (0 : Int) ≤ c2 ∧ (c2 : Int) < 256 := by omega
                  clear hd2 hz2 hg2
                  by_cases hge : lo.toNat ≤ c2
                  · have qg : decide ((lo.toNat : Int) ≤ (c2 : Int)) = true := by simp; omega
                    have qg' : decide (lo.toNat ≤ c2) = true := by simp; omega
                    by_cases hle : c2 ≤ (lo).toNat
                    · have ql : decide ((c2 : Int) ≤ ((lo).toNat : Int)) = true := by simp; omega
                      have ql' : decide (c2 ≤ (lo).toNat) = true := by simp; omega
                      go_wp2_with fail
                      go_roundw
                      case rel => exact ⟨c2 + 1, by go_num, by omega, DAt.add hcl ⟨hge, hle⟩ HD2.out, Blk.far HZ2.out (by show w.heap.size ≠ w.heap.size + 1; omega) _, none_setCell HG2.out (by show w.heap.size ≤ w.heap.size + 1; omega) _⟩
                      case measure => simp [intOf]; omega
                    · have ql : decide ((c2 : Int) ≤ ((lo).toNat : Int)) = false := by simp; omega
                      have ql' : decide (c2 ≤ (lo).toNat) = false := by simp; omega
                      go_wp2_with fail
                      go_roundw
                      case rel => exact ⟨c2 + 1, by go_num, by omega, by rw [addC_skip (fun h => hle h.2)]; exact HD2.out, HZ2.out, HG2.out⟩
                      case measure => simp [intOf]; omega
                  · have qg : decide ((lo.toNat : Int) ≤ (c2 : Int)) = false := by simp; omega
                    have qg' : decide (lo.toNat ≤ c2) = false := by simp; omega
                    go_wp2_with fail
                    go_roundw
                    case rel => exact ⟨c2 + 1, by go_num, by omega, by rw [addC_skip (fun h => hge h.1)]; exact HD2.out, HZ2.out, HG2.out⟩
                    case measure => simp [intOf]; omega
                · have qc : decide ((c2 : Int) < 256) = false := by simp; omega
                  obtain rfl : c2 = 256 := by omega
                  clear hd2 hz2 hg2
                  go_wp2_with fail
                  go_roundw
                  case rel => exact ⟨k + kk, addD f lo lo, by go_num, by omega, by rw [← addC_full]; exact HD2.out, HZ2.out, HG2.out, by omega, by rw [← HR.out, Hstep.out]⟩
                  case measure => simp [intOf]; omega
    · have q0 : decide ((k : Int) < (p.length : Int)) = false := by simp; omega
      have hR := setGo_end (add := addD) (l := p) (first := i + 1) (s := f) hlt
      rw [HR.out] at hR
      subst hR
      go_wp2_with (first | (refine wpList_b0 rfl rfl ?_) | (refine wpList_store45 d0 rfl _ _ rfl rfl rfl HZ.out ?_))
      obtain ⟨f1, f2⟩ := DAt.store HZ.out d0
      exact bodyPost_ret (res45 rfl rfl f1) rfl ⟨by simp [outD], only_new HG.out (Nat.le_refl _) f2⟩

set_option maxHeartbeats 8000000 in
theorem rset_is (p : List UInt8) (i : Nat) (w : World) (hp : p.length ≤ 1000000) (hi : i < p.length) (h33 : p[i] ≠ 33) (R : Option ((UInt8 → Bool) × Nat)) (hR : setGo addD p (i) (i) noF = R) :
    Calls Try.prog 31 #[sv p, .int .i64 i] w fun e w' => e = .returned (.tuple #[.agg (outD false R).1.cells, .int .i64 (outD false R).2]) ∧ w.grownBy w' none := by
  have h1 := sz p
  have HR := hide hR
  clear hR
  unfold sv
  have q0 : decide ((i : Int) < (p.length : Int)) = true := by simp; omega
  have hat := str_at' p i hi
  have hib : (0 : Int) ≤ i ∧ (i : Int) < (p.length : Int) := by omega
  have qb : (((p[i]).toNat : Int) == 33) = false := byte_ne (d := 33) h33
  clear h33
  go_enter Try.func31, Try.ntmps31
  go_wp2_with (first
    | (refine wpList_alloc45 rfl rfl ?_)
    | (refine wpList_b91 rfl rfl ?_)
    | (refine wpList_store45 (b := w.heap.size + 1) (x := d0) d91 rfl _ _ rfl (by simp [go_sem]) rfl (by have := Blk.new (w.alloc (.cells d0.cells 45)) 45 d0.cells; rw [World.size_alloc] at this; exact this) ?_; obtain ⟨W2, hW2⟩ : ∃ W2, ((w.alloc (.cells d0.cells 45)).alloc (.cells d0.cells 45)).setCells (w.heap.size + 1) 0 d91.cells.toList = W2 := ⟨_, rfl⟩; rw [hW2]; (have HX := hide (start31 w)); rw [hW2] at HX; clear hW2; obtain ⟨f1, f2, f3⟩ := HX.out; (have HD0 := hide f1); (have HZ0 := hide f2); (have HG0 := hide f3); (have hc2 := (Blk.cell f1 2).trans (DPt.c2 d91)); (have hz2 := Blk.frozen f1 2); (have hl2 := Blk.lt f1); clear f1 f2 f3 HX))
  clear hc2 hz2 q0 hat hib qb
  go_loopw [1] (fun v wr => ∃ (k : Nat) (f : UInt8 → Bool), v = .int .i64 k ∧ k ≤ p.length ∧ DAt wr (w.heap.size + 1) ⟨91, 0, false, f⟩ ∧ DAt wr w.heap.size d0 ∧ w.grownBy wr none ∧ i ≤ k ∧ setGo addD p (i) k f = R) (fun v _ => p.length - (intOf v).toNat)
  case atStart => exact ⟨i, noF, by go_num, by omega, HD0.out, HZ0.out, HG0.out, Nat.le_refl _, HR.out⟩
  case round =>
    obtain ⟨k, f, rfl, hk, hd, hz, hg, hfk, hres⟩ := hrel
    have HD := hide hd
    have HZ := hide hz
    have HG := hide hg
    have HR := hide hres
    clear hd hz hg hres
    by_cases hlt : k < p.length
    · have q0 : decide ((k : Int) < (p.length : Int)) = true := by simp; omega
      have hat := str_at' p k hlt
      have hib : (0 : Int) ≤ k ∧ (k : Int) < (p.length : Int) := by omega
      by_cases hclose : p[k] = 93 ∧ i < k
      · have qb : (((p[k]).toNat : Int) == 93) = true := by rw [hclose.1]; rfl
        have qf : (i : Int) < (k : Int) := by omega
        have qf2 : decide ((i : Int) < (k : Int)) = true := by simp; omega
        have hR := setGo_close (add := addD) (s := f) hlt hclose
        rw [HR.out] at hR
        subst hR
        clear hclose
        go_wp2_with (first | (refine wpList_load45 rfl _ rfl rfl HD.out ?_) | (refine wpList_store45 (⟨91, 0, false, f⟩ : DPt) rfl _ _ rfl rfl rfl HZ.out ?_))
        obtain ⟨f1, f2⟩ := DAt.store HZ.out (⟨91, 0, false, f⟩ : DPt)
        exact bodyPost_ret (res45 rfl rfl f1) rfl ⟨by simp [outD], only_new HG.out (Nat.le_refl _) f2⟩
      · have hqp := quo_pos (drop_ne hlt)
        have hql := quo_le hlt
        have hm := fun w' => rmember_any p k w' hp hlt
        obtain ⟨lo, hlo0⟩ : ∃ lo, (quo (p.drop k)).1 = lo := ⟨_, rfl⟩
        obtain ⟨kk, hk0⟩ : ∃ kk, (quo (p.drop k)).2 = kk := ⟨_, rfl⟩
        unfold sv at hm
        rw [hlo0, hk0] at hm
        rw [hk0] at hqp hql
        have Hm := hide hm
        have hcond : (((p[k]).toNat : Int) == 93) = false ∨ (((p[k]).toNat : Int) == 93) = true ∧ ¬ ((i : Int) < (k : Int)) ∧ decide ((i : Int) < (k : Int)) = false := by
          by_cases h93 : p[k] = 93
          · have : ¬ i < k := fun h => hclose ⟨h93, h⟩
            exact .inr ⟨by rw [h93]; rfl, by omega, by simp; omega⟩
          · exact .inl (byte_ne (d := 93) h93)
        have Hcl := hide hclose
        have Hlo := hide hlo0
        have Hk := hide hk0
        clear hm hclose hlo0 hk0
        by_cases hr : k + kk + 1 < p.length ∧ p.getD (k + kk) 0 = 45 ∧ p.getD (k + kk + 1) 0 ≠ 93
        · obtain ⟨hr1, hr2, hr3⟩ := hr
          have hat2 := str_at' p (k + kk) (by omega)
          have hat3 := str_at' p (k + kk + 1) (by omega)
          have qb2 : (((p[k + kk]'(by omega)).toNat : Int) == 45) = true := by rw [← getD_at (by omega), hr2]; rfl
          have qb3 : (((p[k + kk + 1]'(by omega)).toNat : Int) == 93) = false := byte_ne (d := 93) (by rw [← getD_at (by omega)]; exact hr3)
          have qb4 : (((p[k + kk + 1]'(by omega)).toNat : Int) != 93) = true := by simp only [bne, qb3]; rfl
          have qj : decide ((k : Int) + kk + 1 < (p.length : Int)) = true := by simp; omega
          have hjb : (k : Int) + kk + 1 < (p.length : Int) := by omega
          have hqp2 := quo_pos (drop_ne hr1)
          have hql2 := quo_le hr1
          have hm2 := fun w' => rmember_any p (k + kk + 1) w' hp hr1
          obtain ⟨hi2, hhi0⟩ : ∃ hi2, (quo (p.drop (k + kk + 1))).1 = hi2 := ⟨_, rfl⟩
          obtain ⟨k2, hk20⟩ : ∃ k2, (quo (p.drop (k + kk + 1))).2 = k2 := ⟨_, rfl⟩
          unfold sv at hm2
          rw [hhi0, hk20, show (((k + kk + 1 : Nat)) : Int) = (k : Int) + kk + 1 by omega] at hm2
          rw [hk20] at hqp2 hql2
          have Hm2 := hide hm2
          have hstep := setGo_range (add := addD) (s := f) hlt Hcl.out (by rw [Hk.out]; exact ⟨hr1, hr2, hr3⟩)
          rw [Hk.out, Hlo.out, hhi0, hk20] at hstep
          have Hstep := hide hstep
          clear hm2 hhi0 hk20 hstep hr2 hr3
          rcases hcond with qb | ⟨qb, qf, qf2⟩
          all_goals
            go_wp2_with fail
            refine (Hm.out _).mono ?_
            rintro e w2 ⟨rfl, rfl⟩
            go_wp2_with fail
            refine (Hm2.out _).mono ?_
            rintro e w2 ⟨rfl, rfl⟩
            have hlo := lo.toNat_lt
            have hhi := (hi2).toNat_lt
            go_wp2_with fail
            go_loopw [11] (fun u wi => ∃ c2 : Nat, u = .int .i64 c2 ∧ c2 ≤ 256 ∧ DAt wi (w.heap.size + 1) ⟨91, 0, false, addC f lo hi2 c2⟩ ∧ DAt wi w.heap.size d0 ∧ w.grownBy wi none) (fun u _ => 256 - (intOf u).toNat)
            case atStart => exact ⟨0, rfl, by omega, by rw [addC_zero]; exact HD.out, HZ.out, HG.out⟩
            case round =>
              obtain ⟨c2, rfl, hc2, hd2, hz2, hg2⟩ := hrel
              have HD2 := hide hd2
              have HZ2 := hide hz2
              have HG2 := hide hg2
              by_cases hcl : c2 < 256
              · have qc : decide ((c2 : Int) < 256) = true := by simp; omega
                have hcell := (Blk.cell hd2 (3 + c2)).trans (DPt.cs _ c2 hcl)
                have hcz := Blk.frozen hd2 (3 + c2)
                have hdl := Blk.lt hd2
                have hcb : (0 : Int) ≤ c2 ∧ (c2 : Int) < 256 := by omega
                clear hd2 hz2 hg2
                by_cases hge : lo.toNat ≤ c2
                · have qg : decide ((lo.toNat : Int) ≤ (c2 : Int)) = true := by simp; omega
                  have qg' : decide (lo.toNat ≤ c2) = true := by simp; omega
                  by_cases hle : c2 ≤ (hi2).toNat
                  · have ql : decide ((c2 : Int) ≤ ((hi2).toNat : Int)) = true := by simp; omega
                    have ql' : decide (c2 ≤ (hi2).toNat) = true := by simp; omega
                    go_wp2_with fail
                    go_roundw
                    case rel => exact ⟨c2 + 1, by go_num, by omega, DAt.add hcl ⟨hge, hle⟩ HD2.out, Blk.far HZ2.out (by show w.heap.size ≠ w.heap.size + 1; omega) _, none_setCell HG2.out (by show w.heap.size ≤ w.heap.size + 1; omega) _⟩
                    case measure => simp [intOf]; omega
                  · have ql : decide ((c2 : Int) ≤ ((hi2).toNat : Int)) = false := by simp; omega
                    have ql' : decide (c2 ≤ (hi2).toNat) = false := by simp; omega
                    go_wp2_with fail
                    go_roundw
                    case rel => exact ⟨c2 + 1, by go_num, by omega, by rw [addC_skip (fun h => hle h.2)]; exact HD2.out, HZ2.out, HG2.out⟩
                    case measure => simp [intOf]; omega
                · have qg : decide ((lo.toNat : Int) ≤ (c2 : Int)) = false := by simp; omega
                  have qg' : decide (lo.toNat ≤ c2) = false := by simp; omega
                  go_wp2_with fail
                  go_roundw
                  case rel => exact ⟨c2 + 1, by go_num, by omega, by rw [addC_skip (fun h => hge h.1)]; exact HD2.out, HZ2.out, HG2.out⟩
                  case measure => simp [intOf]; omega
              · have qc : decide ((c2 : Int) < 256) = false := by simp; omega
                obtain rfl : c2 = 256 := by omega
                clear hd2 hz2 hg2
                go_wp2_with fail
                go_roundw
                case rel => exact ⟨k + kk + 1 + k2, addD f lo hi2, by go_num, by omega, by rw [← addC_full]; exact HD2.out, HZ2.out, HG2.out, by omega, by rw [← HR.out, Hstep.out]⟩
                case measure => simp [intOf]; omega
        · have hstep := setGo_one (add := addD) (s := f) hlt Hcl.out (by rw [Hk.out]; exact hr)
          rw [Hk.out, Hlo.out] at hstep
          have Hstep := hide hstep
          have hways : (¬ (k : Int) + kk + 1 < (p.length : Int)) ∨ (∃ h : k + kk + 1 < p.length, ((p[k + kk]'(by omega)).toNat : Int) ≠ 45) ∨ (∃ h : k + kk + 1 < p.length, ((p[k + kk]'(by omega)).toNat : Int) = 45 ∧ ((p[k + kk + 1]'(by omega)).toNat : Int) = 93) := by
            by_cases a1 : k + kk + 1 < p.length
            · by_cases a2 : p[k + kk]'(by omega) = 45
              · by_cases a3 : p[k + kk + 1]'(by omega) = 93
                · exact .inr (.inr ⟨a1, by rw [a2]; rfl, by rw [a3]; rfl⟩)
                · exact absurd ⟨a1, by rw [getD_at (by omega)]; exact a2, by rw [getD_at (by omega)]; exact a3⟩ hr
              · refine .inr (.inl ⟨a1, fun e => a2 (UInt8.toNat_inj.1 ?_)⟩)
                have : ((45 : UInt8).toNat : Int) = 45 := rfl
                omega
            · exact .inl (by omega)
          clear hstep hr
          rcases hways with hj | ⟨a1, a2⟩ | ⟨a1, a2, a3⟩
          · have qj : decide ((k : Int) + kk + 1 < (p.length : Int)) = false := by simp; omega
            rcases hcond with qb | ⟨qb, qf, qf2⟩
            all_goals
              go_wp2_with fail
              refine (Hm.out _).mono ?_
              rintro e w2 ⟨rfl, rfl⟩
              have hlo := lo.toNat_lt
              go_wp2_with fail
              go_loopw [11] (fun u wi => ∃ c2 : Nat, u = .int .i64 c2 ∧ c2 ≤ 256 ∧ DAt wi (w.heap.size + 1) ⟨91, 0, false, addC f lo lo c2⟩ ∧ DAt wi w.heap.size d0 ∧ w.grownBy wi none) (fun u _ => 256 - (intOf u).toNat)
              case atStart => exact ⟨0, rfl, by omega, by rw [addC_zero]; exact HD.out, HZ.out, HG.out⟩
              case round =>
                obtain ⟨c2, rfl, hc2, hd2, hz2, hg2⟩ := hrel
                have HD2 := hide hd2
                have HZ2 := hide hz2
                have HG2 := hide hg2
                by_cases hcl : c2 < 256
                · have qc : decide ((c2 : Int) < 256) = true := by simp; omega
                  have hcell := (Blk.cell hd2 (3 + c2)).trans (DPt.cs _ c2 hcl)
                  have hcz := Blk.frozen hd2 (3 + c2)
                  have hdl := Blk.lt hd2
                  have hcb : (0 : Int) ≤ c2 ∧ (c2 : Int) < 256 := by omega
                  clear hd2 hz2 hg2
                  by_cases hge : lo.toNat ≤ c2
                  · have qg : decide ((lo.toNat : Int) ≤ (c2 : Int)) = true := by simp; omega
                    have qg' : decide (lo.toNat ≤ c2) = true := by simp; omega
                    by_cases hle : c2 ≤ (lo).toNat
                    · have ql : decide ((c2 : Int) ≤ ((lo).toNat : Int)) = true := by simp; omega
                      have ql' : decide (c2 ≤ (lo).toNat) = true := by simp; omega
                      go_wp2_with fail
                      go_roundw
                      case rel => exact ⟨c2 + 1, by go_num, by omega, DAt.add hcl ⟨hge, hle⟩ HD2.out, Blk.far HZ2.out (by show w.heap.size ≠ w.heap.size + 1; omega) _, none_setCell HG2.out (by show w.heap.size ≤ w.heap.size + 1; omega) _⟩
                      case measure => simp [intOf]; omega
                    · have ql : decide ((c2 : Int) ≤ ((lo).toNat : Int)) = false := by simp; omega
                      have ql' : decide (c2 ≤ (lo).toNat) = false := by simp; omega
                      go_wp2_with fail
                      go_roundw
                      case rel => exact ⟨c2 + 1, by go_num, by omega, by rw [addC_skip (fun h => hle h.2)]; exact HD2.out, HZ2.out, HG2.out⟩
                      case measure => simp [intOf]; omega
                  · have qg : decide ((lo.toNat : Int) ≤ (c2 : Int)) = false := by simp; omega
                    have qg' : decide (lo.toNat ≤ c2) = false := by simp; omega
                    go_wp2_with fail
                    go_roundw
                    case rel => exact ⟨c2 + 1, by go_num, by omega, by rw [addC_skip (fun h => hge h.1)]; exact HD2.out, HZ2.out, HG2.out⟩
                    case measure => simp [intOf]; omega
                · have qc : decide ((c2 : Int) < 256) = false := by simp; omega
                  obtain rfl : c2 = 256 := by omega
                  clear hd2 hz2 hg2
                  go_wp2_with fail
                  go_roundw
                  case rel => exact ⟨k + kk, addD f lo lo, by go_num, by omega, by rw [← addC_full]; exact HD2.out, HZ2.out, HG2.out, by omega, by rw [← HR.out, Hstep.out]⟩
                  case measure => simp [intOf]; omega
          · have hat2 := str_at' p (k + kk) (by omega)
            have qb2 : (((p[k + kk]'(by omega)).toNat : Int) == 45) = false := by rw [beq_eq_false_iff_ne]; exact a2
            have hjb : (k : Int) + kk + 1 < (p.length : Int) := by omega
            have qj : decide ((k : Int) + kk + 1 < (p.length : Int)) = true := by simp; omega
            clear a2
            rcases hcond with qb | ⟨qb, qf, qf2⟩
            all_goals
              go_wp2_with fail
              refine (Hm.out _).mono ?_
              rintro e w2 ⟨rfl, rfl⟩
              have hlo := lo.toNat_lt
              go_wp2_with fail
              go_loopw [11] (fun u wi => ∃ c2 : Nat, u = .int .i64 c2 ∧ c2 ≤ 256 ∧ DAt wi (w.heap.size + 1) ⟨91, 0, false, addC f lo lo c2⟩ ∧ DAt wi w.heap.size d0 ∧ w.grownBy wi none) (fun u _ => 256 - (intOf u).toNat)
              case atStart => exact ⟨0, rfl, by omega, by rw [addC_zero]; exact HD.out, HZ.out, HG.out⟩
              case round =>
                obtain ⟨c2, rfl, hc2, hd2, hz2, hg2⟩ := hrel
                have HD2 := hide hd2
                have HZ2 := hide hz2
                have HG2 := hide hg2
                by_cases hcl : c2 < 256
                · have qc : decide ((c2 : Int) < 256) = true := by simp; omega
                  have hcell := (Blk.cell hd2 (3 + c2)).trans (DPt.cs _ c2 hcl)
                  have hcz := Blk.frozen hd2 (3 + c2)
                  have hdl := Blk.lt hd2
                  have hcb : (0 : Int) ≤ c2 ∧ (c2 : Int) < 256 := by omega
                  clear hd2 hz2 hg2
                  by_cases hge : lo.toNat ≤ c2
                  · have qg : decide ((lo.toNat : Int) ≤ (c2 : Int)) = true := by simp; omega
                    have qg' : decide (lo.toNat ≤ c2) = true := by simp; omega
                    by_cases hle : c2 ≤ (lo).toNat
                    · have ql : decide ((c2 : Int) ≤ ((lo).toNat : Int)) = true := by simp; omega
                      have ql' : decide (c2 ≤ (lo).toNat) = true := by simp; omega
                      go_wp2_with fail
                      go_roundw
                      case rel => exact ⟨c2 + 1, by go_num, by omega, DAt.add hcl ⟨hge, hle⟩ HD2.out, Blk.far HZ2.out (by show w.heap.size ≠ w.heap.size + 1; omega) _, none_setCell HG2.out (by show w.heap.size ≤ w.heap.size + 1; omega) _⟩
                      case measure => simp [intOf]; omega
                    · have ql : decide ((c2 : Int) ≤ ((lo).toNat : Int)) = false := by simp; omega
                      have ql' : decide (c2 ≤ (lo).toNat) = false := by simp; omega
                      go_wp2_with fail
                      go_roundw
                      case rel => exact ⟨c2 + 1, by go_num, by omega, by rw [addC_skip (fun h => hle h.2)]; exact HD2.out, HZ2.out, HG2.out⟩
                      case measure => simp [intOf]; omega
                  · have qg : decide ((lo.toNat : Int) ≤ (c2 : Int)) = false := by simp; omega
                    have qg' : decide (lo.toNat ≤ c2) = false := by simp; omega
                    go_wp2_with fail
                    go_roundw
                    case rel => exact ⟨c2 + 1, by go_num, by omega, by rw [addC_skip (fun h => hge h.1)]; exact HD2.out, HZ2.out, HG2.out⟩
                    case measure => simp [intOf]; omega
                · have qc : decide ((c2 : Int) < 256) = false := by simp; omega
                  obtain rfl : c2 = 256 := by omega
                  clear hd2 hz2 hg2
                  go_wp2_with fail
                  go_roundw
                  case rel => exact ⟨k + kk, addD f lo lo, by go_num, by omega, by rw [← addC_full]; exact HD2.out, HZ2.out, HG2.out, by omega, by rw [← HR.out, Hstep.out]⟩
                  case measure => simp [intOf]; omega
          · have hat2 := str_at' p (k + kk) (by omega)
            have hat3 := str_at' p (k + kk + 1) (by omega)
            have qb2 : (((p[k + kk]'(by omega)).toNat : Int) == 45) = true := by rw [beq_iff_eq]; exact a2
            have qb4 : (((p[k + kk + 1]'(by omega)).toNat : Int) != 93) = false := by rw [bne_eq_false_iff_eq]; exact a3
            have hjb : (k : Int) + kk + 1 < (p.length : Int) := by omega
            have qj : decide ((k : Int) + kk + 1 < (p.length : Int)) = true := by simp; omega
            clear a2 a3
            rcases hcond with qb | ⟨qb, qf, qf2⟩
            all_goals
              go_wp2_with fail
              refine (Hm.out _).mono ?_
              rintro e w2 ⟨rfl, rfl⟩
              have hlo := lo.toNat_lt
              go_wp2_with fail
              go_loopw [11] (fun u wi => ∃ c2 : Nat, u = .int .i64 c2 ∧ c2 ≤ 256 ∧ DAt wi (w.heap.size + 1) ⟨91, 0, false, addC f lo lo c2⟩ ∧ DAt wi w.heap.size d0 ∧ w.grownBy wi none) (fun u _ => 256 - (intOf u).toNat)
              case atStart => exact ⟨0, rfl, by omega, by rw [addC_zero]; exact HD.out, HZ.out, HG.out⟩
              case round =>
                obtain ⟨c2, rfl, hc2, hd2, hz2, hg2⟩ := hrel
                have HD2 := hide hd2
                have HZ2 := hide hz2
                have HG2 := hide hg2
                by_cases hcl : c2 < 256
                · have qc : decide ((c2 : Int) < 256) = true := by simp; omega
                  have hcell := (Blk.cell hd2 (3 + c2)).trans (DPt.cs _ c2 hcl)
                  have hcz := Blk.frozen hd2 (3 + c2)
                  have hdl := Blk.lt hd2
                  have hcb : (0 : Int) ≤ c2 ∧ (c2 : Int) < 256 := by omega
                  clear hd2 hz2 hg2
                  by_cases hge : lo.toNat ≤ c2
                  · have qg : decide ((lo.toNat : Int) ≤ (c2 : Int)) = true := by simp; omega
                    have qg' : decide (lo.toNat ≤ c2) = true := by simp; omega
                    by_cases hle : c2 ≤ (lo).toNat
                    · have ql : decide ((c2 : Int) ≤ ((lo).toNat : Int)) = true := by simp; omega
                      have ql' : decide (c2 ≤ (lo).toNat) = true := by simp; omega
                      go_wp2_with fail
                      go_roundw
                      case rel => exact ⟨c2 + 1, by go_num, by omega, DAt.add hcl ⟨hge, hle⟩ HD2.out, Blk.far HZ2.out (by show w.heap.size ≠ w.heap.size + 1; omega) _, none_setCell HG2.out (by show w.heap.size ≤ w.heap.size + 1; omega) _⟩
                      case measure => simp [intOf]; omega
                    · have ql : decide ((c2 : Int) ≤ ((lo).toNat : Int)) = false := by simp; omega
                      have ql' : decide (c2 ≤ (lo).toNat) = false := by simp; omega
                      go_wp2_with fail
                      go_roundw
                      case rel => exact ⟨c2 + 1, by go_num, by omega, by rw [addC_skip (fun h => hle h.2)]; exact HD2.out, HZ2.out, HG2.out⟩
                      case measure => simp [intOf]; omega
                  · have qg : decide ((lo.toNat : Int) ≤ (c2 : Int)) = false := by simp; omega
                    have qg' : decide (lo.toNat ≤ c2) = false := by simp; omega
                    go_wp2_with fail
                    go_roundw
                    case rel => exact ⟨c2 + 1, by go_num, by omega, by rw [addC_skip (fun h => hge h.1)]; exact HD2.out, HZ2.out, HG2.out⟩
                    case measure => simp [intOf]; omega
                · have qc : decide ((c2 : Int) < 256) = false := by simp; omega
                  obtain rfl : c2 = 256 := by omega
                  clear hd2 hz2 hg2
                  go_wp2_with fail
                  go_roundw
                  case rel => exact ⟨k + kk, addD f lo lo, by go_num, by omega, by rw [← addC_full]; exact HD2.out, HZ2.out, HG2.out, by omega, by rw [← HR.out, Hstep.out]⟩
                  case measure => simp [intOf]; omega
    · have q0 : decide ((k : Int) < (p.length : Int)) = false := by simp; omega
      have hR := setGo_end (add := addD) (l := p) (first := i) (s := f) hlt
      rw [HR.out] at hR
      subst hR
      go_wp2_with (first | (refine wpList_b0 rfl rfl ?_) | (refine wpList_store45 d0 rfl _ _ rfl rfl rfl HZ.out ?_))
      obtain ⟨f1, f2⟩ := DAt.store HZ.out d0
      exact bodyPost_ret (res45 rfl rfl f1) rfl ⟨by simp [outD], only_new HG.out (Nat.le_refl _) f2⟩

end Go.Proofs.Ytphjafidencdeaa
