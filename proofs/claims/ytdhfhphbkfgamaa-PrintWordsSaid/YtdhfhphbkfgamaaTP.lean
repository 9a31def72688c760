/- order. -/
import Derived.Test.YtdhfhphbkfgamaaTS
namespace Go.Proofs.Ytdhfhphbkfgamaa
open Go.RowKit Lx Go.Shelf
set_option maxRecDepth 100000
attribute [local go_sem] Oper.semAt_some

theorem pf_below {n0 : Nat} {a b : World} (h : PF n0 a b) (hn : n0 ≤ a.heap.size) : Below n0 a b :=
  ⟨h.os, h.tape, h.output, h.size, fun k hk => h.block k (by omega) (fun hS => by have := hS.1; omega)⟩
theorem grown_below {n0 : Nat} {a b : World} (h : a.grownBy b none) (hn : n0 ≤ a.heap.size) : Below n0 a b :=
  ⟨h.os, h.tape, h.output, h.size, fun k hk => h.block k (by omega) (by simp)⟩
theorem below_grown {a b : World} (h : Below a.heap.size a b) : a.grownBy b none := ⟨h.os, h.tape, h.output, h.size, fun k hk _ => h.block k hk⟩
theorem ordK_app (bs : List Nat) (c : Bool) : ∀ (ks ks2 : List Int) (f : Nat), ordK bs c (ks ++ ks2) f = match ordK bs c ks f with
    | some f' => ordK bs c ks2 f'
    | none => none
  | [], ks2, f => rfl
  | k :: r, ks2, f => by
    rw [List.cons_append, ordK, ordK]
    split
    · exact ordK_app bs c r ks2 f
    · split
      · rfl
      · exact ordK_app bs c r ks2 _
theorem ordL_app : ∀ (a b : List Nd) (bs : List Nat), ordL (a ++ b) bs = match ordL a bs with
    | some bs' => ordL b bs'
    | none => none
  | [], b, bs => rfl
  | n :: r, b, bs => by
    rw [List.cons_append, ordL, ordL]
    cases ordK bs (n.kind == 14) n.kids.reverse bs.length with
    | none => rfl
    | some x => exact ordL_app r b _
def mkD (D : Nat) : Deferred := { target := .collected D, args := #[] }
structure OSt (w W : World) (R Gb G N : Nat) (bs Ds : List Nat) : Prop where
  gb : W.cell? ⟨Gb, 0, none⟩ = some (.slice (some ⟨G, 0, none⟩) N N)
  row : ∀ j, j < N → W.cell? ⟨G, j, none⟩ = some (.int .i64 (bs.getD j 0))
  frow : ∀ j, j < N → W.frozen? ⟨G, j, none⟩ = false
  res : W.cell? ⟨R, 0, none⟩ = some (.bool false)
  fres : W.frozen? ⟨R, 0, none⟩ = false
  ds : ∀ D ∈ Ds, W.heap[D]? = some (.deferred (some []))
  dlo : ∀ D ∈ Ds, w.heap.size ≤ D
  nd : Ds.Nodup
  bel : Below w.heap.size w W
  lo : w.heap.size ≤ R ∧ w.heap.size ≤ Gb ∧ w.heap.size ≤ G ∧ R ≠ Gb ∧ R ≠ G ∧ Gb ≠ G
theorem cell_lt {W : World} {p : Addr} {v : Value} (h : W.cell? p = some v) : p.block < W.heap.size := World.block_lt_of_cell? W p h
theorem OSt.kept {w W W' : World} {R Gb G N : Nat} {bs Ds : List Nat} {row : Option Nat} {B : Nat} (h : OSt w W R Gb G N bs Ds) (hB : w.heap.size ≤ B) (hD : ∀ D ∈ Ds, D < B) (hg : W.grownBy W' row) (hr : ∀ r, row = some r → B ≤ r ∧ ∃ o : Obj, W.heap[r]? = some o ∧ o.isCells = false) : OSt w W' R Gb G N bs Ds := by
  have hr2 : ∀ r, row = some r → ∃ o : Obj, W.heap[r]? = some o ∧ o.isCells = false := fun r e => (hr r e).2
  refine ⟨cell_kept h.gb hg hr2, fun j hj => cell_kept (h.row j hj) hg hr2, fun j hj => (frozen_kept (h.row j hj) hg hr2).trans (h.frow j hj), cell_kept h.res hg hr2, (frozen_kept h.res hg hr2).trans h.fres, fun D hD2 => ?_, h.dlo, h.nd, ?_, h.lo⟩
  · have h1 := h.ds D hD2
    have hlt := (Array.getElem?_eq_some_iff.1 h1).1
    rw [hg.block D hlt (fun e => by have := (hr D e.symm).1; have := hD D hD2; omega)]
    exact h1
  · refine h.bel.grown hg h.bel.size (fun k e => ?_)
    have := (hr k e).1
    omega
theorem OSt.alloc {w W : World} {R Gb G N : Nat} {bs Ds : List Nat} (h : OSt w W R Gb G N bs Ds) (o : Obj) : OSt w (W.alloc o) R Gb G N bs Ds :=
  h.kept (B := W.heap.size) h.bel.size (fun D hD => (Array.getElem?_eq_some_iff.1 (h.ds D hD)).1) (World.grownBy_alloc W o none) (fun r e => by cases e)
theorem OSt.set6 {w W : World} {R Gb G N : Nat} {bs Ds : List Nat} (h : OSt w W R Gb G N bs Ds) {F6 : Nat} (d1 : F6 ≠ R) (d2 : F6 ≠ Gb) (d3 : F6 ≠ G) (hw : w.heap.size ≤ F6) {v0 : Value} (hc : W.cell? ⟨F6, 0, none⟩ = some v0) (v : Value) : OSt w (W.setCell ⟨F6, 0, none⟩ v) R Gb G N bs Ds := by
  refine ⟨by rw [World.cell?_setCell_far _ _ _ _ d2]; exact h.gb, fun j hj => by rw [World.cell?_setCell_far _ _ _ _ d3]; exact h.row j hj, fun j hj => by rw [World.frozen?_setCell]; exact h.frow j hj, by rw [World.cell?_setCell_far _ _ _ _ d1]; exact h.res, by rw [World.frozen?_setCell]; exact h.fres, fun D hD => ?_, h.dlo, h.nd, h.bel.setCell (p := ⟨F6, 0, none⟩) hw v, h.lo⟩
  exact (KeepsOthers.setCell W ⟨F6, 0, none⟩ v).same D _ (h.ds D hD) rfl
theorem leave14 (F : Fence) (n R : Nat) (tmps : Array Value) (hR : tmps.getD 2 undef = .pointer (some ⟨R, 0, none⟩)) (r : Bool) (w : World) : ∀ (Ds : List Nat) (W : World), W.cell? ⟨R, 0, none⟩ = some (.bool r) → (∀ D ∈ Ds, W.heap[D]? = some (.deferred (some []))) → Ds.Nodup → (∀ D ∈ Ds, w.heap.size ≤ D) → Below w.heap.size w W →
    LeavesInM F n Try.prog Try.f14 tmps (fun e w' => e = .returned (.bool r) ∧ Below w.heap.size w w') (Ds.map mkD) .returning W
  | [], W, hc, _, _, _, hb => by
    refine ⟨.bool r, ?_, rfl, hb⟩
    have hR2 : tmps[2]?.getD undef = .pointer (some ⟨R, 0, none⟩) := by simpa using hR
    simp [results, Try.f14, go_sem, hR2, hc]
  | D :: Ds, W, hc, hd, hn, hl, hb => by
    have h1 := hd D (List.mem_cons_self ..)
    rw [List.nodup_cons] at hn
    refine ⟨by simp, .inl ⟨D, _, rfl, run_takeDeferred h1, leave14 F n R tmps hR r w Ds _ ?_ ?_ hn.2 (fun D' h => hl D' (List.mem_cons_of_mem _ h)) ?_⟩⟩
    · exact cell_kept hc (grownBy_putObj' W D (.deferred none)) (fun r e => by cases e; exact ⟨_, h1, rfl⟩)
    · intro D' h'
      rw [World.putObj_heap_other (fun e => hn.1 (by first | (rw [← e]; exact h') | (rw [e]; exact h')))]
      exact hd D' (List.mem_cons_of_mem _ h')
    · exact hb.trans (belowK_b (w := w) (Nat.le_refl _) W D _ _ (hl D (List.mem_cons_self ..)) h1 rfl rfl)
def zcells (N : Nat) : Array Value := madeCells (Value.int .i64 0).cells (N * 1)
theorem info3i : (Try.prog.info? 3).map (fun i => (i.zero, i.size, i.bytes)) = some (some (.int .i64 0), 1, 8) := by kernel_rfl
theorem zcells_get (N j : Nat) (h : j < N) : (zcells N)[j]? = some (.int .i64 0) := by
  unfold zcells madeCells
  rw [Array.getElem?_map, Array.getElem?_range, if_pos (by omega)]
  have e : (Value.int .i64 0).cells = #[.int .i64 0] := rfl
  rw [e]
  simp [Nat.mod_one]
set_option maxHeartbeats 16000000 in
theorem order_in (F : Fence) (n : Nat) (h14 : F.fn 14) (h28 : F.fn 28) (h52 : F.fn 52) (hro : F.round = none) (hn : 4 ≤ n) (n0 : Nat) (l : List Nd) (v : Value) (w : World) (h : NdsR n0 w v l) :
    CallsIn F n Try.prog 14 #[v] w fun e w' => e = .returned (.bool (ordB l)) ∧ Below w.heap.size w w' := by
  have h1 : 1 ≤ n := by omega
  obtain ⟨a0, cap0, rfl, hm0⟩ := h.form
  have hm1 : (l.length : Int) ≤ 9223372036854775807 := by omega
  refine callsIn_of_wp_marks Try.func14 rfl h14 ?_ hro
  simp only [Try.ntmps14, List.size_toArray, List.length_cons, List.length_nil, Nat.reduceAdd, Nat.reduceSub, Array.replicate_succ, Array.replicate_zero, List.push_toArray, List.append_toArray, List.nil_append, List.cons_append]
  by_cases hlen : 1 ≤ l.length ∧ l.length ≤ 300
  · have q1 : decide ((l.length : Int) < 1) = false := decide_eq_false (by omega)
    have q2 : decide ((300 : Int) < (l.length : Int)) = false := decide_eq_false (by omega)
    have hmk : ∀ W : World, (Instr.makeSlice 33 (.int .i64 (l.length : Int)) (.int .i64 (l.length : Int))).run Try.prog W = .ok (.slice (some ⟨W.heap.size, 0, none⟩) l.length l.length) (W.alloc (.cells (zcells l.length) 3)) := by
      intro W
      obtain ⟨i0, hi0, hz0, hz1, hz2⟩ := info_parts info3i
      have hr := run_make (P := Try.prog) W 33 3 i0 (.int .i64 0) (by kernel_rfl) hi0 hz0 .i64 .i64 l.length l.length (by omega) (by omega) (by rw [hz2]; omega) (by omega)
      simp only [Int.toNat_natCast] at hr
      rw [hr, hz1]
      rfl
    gi_wp2
    have g1 := World.grownBy_alloc w (.cells #[.bool false] 4) none
    have b1 := Blk.new w 4 #[.bool false]
    obtain ⟨W1, hW1⟩ : ∃ W1, w.alloc (.cells #[.bool false] 4) = W1 := ⟨_, rfl⟩
    rw [hW1] at g1 b1 ⊢
    have s1 : W1.heap.size = w.heap.size + 1 := by rw [← hW1, World.size_alloc]
    have g2 := World.grownBy_alloc W1 (.cells (zcells l.length) 3) none
    have b2 := Blk.new W1 3 (zcells l.length)
    obtain ⟨W2, hW2⟩ : ∃ W2, W1.alloc (.cells (zcells l.length) 3) = W2 := ⟨_, rfl⟩
    rw [hW2] at g2 b2 ⊢
    have s2 : W2.heap.size = w.heap.size + 1 + 1 := by rw [← hW2, World.size_alloc, s1]
    have g3 := World.grownBy_alloc W2 (.cells #[.slice (some ⟨w.heap.size + 1, 0, none⟩) l.length l.length] 33) none
    have b3 := Blk.new W2 33 #[.slice (some ⟨w.heap.size + 1, 0, none⟩) l.length l.length]
    obtain ⟨W3, hW3⟩ : ∃ W3, W2.alloc (.cells #[.slice (some ⟨w.heap.size + 1, 0, none⟩) l.length l.length] 33) = W3 := ⟨_, rfl⟩
    rw [hW3] at g3 b3 ⊢
    rw [s1] at b2
    rw [s2] at b3
    obtain ⟨R, hR⟩ : ∃ R, w.heap.size = R := ⟨_, rfl⟩
    obtain ⟨G, hG⟩ : ∃ G, w.heap.size + 1 = G := ⟨_, rfl⟩
    obtain ⟨Gb, hGb⟩ : ∃ Gb, w.heap.size + 1 + 1 = Gb := ⟨_, rfl⟩
    rw [hGb, hG] at b3
    rw [hG] at b2
    rw [hR] at b1
    have b1' := Blk.grown (Blk.grown b1 g2 (by simp)) g3 (by simp)
    have b2' := Blk.grown b2 g3 (by simp)
    have o0 : OSt w W3 R Gb G l.length [] [] := by
      refine ⟨Blk.cell b3 0, fun j hj => ?_, fun j _ => Blk.frozen b2' j, Blk.cell b1' 0, Blk.frozen b1' 0, fun _ h => (by cases h), fun _ h => (by cases h), List.nodup_nil, ?_, by omega⟩
      · rw [Blk.cell b2' j, zcells_get _ _ hj]; rfl
      · exact ((grown_below g1 (Nat.le_refl _)).trans (grown_below g2 (by omega))).trans (grown_below g3 (by omega))
    have O0 := hide o0
    rw [hGb, hG, hR]
    clear g1 g2 g3 b1 b2 b3 b1' b2' hW1 hW2 hW3 o0
    refine wpIn_loop (fun a W => ∃ (i : Nat) (bs Ds : List Nat) (t1 t4 t5 t6 t7 t8 t9 t10 t11 t12 t13 t14 t15 t16 t17 t18 t19 t23 t24 t25 t26 t27 t28 t29 t30 t31 t32 t33 t34 t35 t36 t37 t38 t39 t40 t41 t42 t43 t44 t45 t46 t47 t48 t49 t50 t51 t52 t53 t54 t55 t56 t57 t58 t59 t60 t61 t62 t63 : Value), a = { tmps := #[.slice a0 l.length cap0, t1, .pointer (some ⟨R, 0, none⟩), .pointer (some ⟨Gb, 0, none⟩), t4, t5, t6, t7, t8, t9, t10, t11, t12, t13, t14, t15, t16, t17, t18, t19, .slice a0 l.length cap0, .int .i64 l.length, .int .i64 i, t23, t24, t25, t26, t27, t28, t29, t30, t31, t32, t33, t34, t35, t36, t37, t38, t39, t40, t41, t42, t43, t44, t45, t46, t47, t48, t49, t50, t51, t52, t53, t54, t55, t56, t57, t58, t59, t60, t61, t62, t63], defers := Ds.map mkD } ∧ i ≤ l.length ∧ bs.length = i ∧ ordL (l.take i) [] = some bs ∧ (∀ j, j < i → bs.getD j 0 ≤ j) ∧ OSt w W R Gb G l.length bs Ds) (fun a _ => l.length - (intOf (a.tmps.getD 22 undef)).toNat) ?start ?round
    case start =>
      exact ⟨0, [], [], _, _, _, _, _, _, _, _, _, _, _, _, _, _, _, _, _, _, _, _, _, _, _, _, _, _, _, _, _, _, _, _, _, _, _, _, _, _, _, _, _, _, _, _, _, _, _, _, _, _, _, _, _, _, _, _, _, _, rfl, Nat.zero_le _, rfl, rfl, fun j h => by omega, O0.out⟩
    case round =>
      rintro a W ⟨i, bs, Ds, t1, t4, t5, t6, t7, t8, t9, t10, t11, t12, t13, t14, t15, t16, t17, t18, t19, t23, t24, t25, t26, t27, t28, t29, t30, t31, t32, t33, t34, t35, t36, t37, t38, t39, t40, t41, t42, t43, t44, t45, t46, t47, t48, t49, t50, t51, t52, t53, t54, t55, t56, t57, t58, t59, t60, t61, t62, t63, rfl, hi, hbl, hord, hbs, ho⟩
      have HO := hide ho
      have HORD := hide hord
      clear hord
      by_cases hlt : i < l.length
      · have q3 : decide ((i : Int) < (l.length : Int)) = true := decide_eq_true (by omega)
        have hib : (0 : Int) ≤ i ∧ (i : Int) < (l.length : Int) := by omega
        obtain ⟨g, off, cap, x1, x2, x3, x4, x5, hv, _, _, hg, hnd, e0, e1, e2, e3, e4, e5, e6, e7⟩ := h.at_ i hlt
        injection hv with hv _ hcp
        subst hv hcp
        obtain ⟨a1, c1, a2, c2, a3, c3, a4, c4, a5, c5, rfl, rfl, rfl, rfl, rfl⟩ := hnd.forms
        obtain ⟨nd, hne⟩ : ∃ n, l[i] = n := ⟨_, rfl⟩
        rw [hne] at hnd e0 e1 e2 e3 e4 e5 e6 e7
        have tr : ∀ {o : Nat} {v : Value}, w.cell? ⟨g, o, none⟩ = some v → W.cell? ⟨g, o, none⟩ = some v := fun hc => (ho.bel.cell (p := ⟨g, _, none⟩) hg).trans hc
        have f0 := tr e0
        have f1 := tr e1
        have f2 := tr e2
        have f3 := tr e3
        have f4 := tr e4
        have f5 := tr e5
        have f6 := tr e6
        have f7 := tr e7
        unfold sv at f1
        have hgW : g < W.heap.size := Nat.lt_of_lt_of_le hg ho.bel.size
        clear e0 e1 e2 e3 e4 e5 e6 e7 ho
        gi_wp2_with (gi_at_call 28; refine (back_in F (n - 1) h28 hro _ _ _ _).mono ?_; rintro e w' ⟨rfl, rfl⟩)
        have ga := World.grownBy_alloc W (.cells #[.int .i64 nd.kind, .string ⟨nd.name.toArray⟩, .bool nd.inn, .slice a1 nd.sets.length c1, .slice a2 nd.words.length c2, .slice a3 nd.redirs.length c3, .slice a4 nd.pats.length c4, .slice a5 nd.kids.length c5] 35) none
        have ba := Blk.new W 35 #[.int .i64 nd.kind, .string ⟨nd.name.toArray⟩, .bool nd.inn, .slice a1 nd.sets.length c1, .slice a2 nd.words.length c2, .slice a3 nd.redirs.length c3, .slice a4 nd.pats.length c4, .slice a5 nd.kids.length c5]
        have oa := HO.out.alloc (.cells #[.int .i64 nd.kind, .string ⟨nd.name.toArray⟩, .bool nd.inn, .slice a1 nd.sets.length c1, .slice a2 nd.words.length c2, .slice a3 nd.redirs.length c3, .slice a4 nd.pats.length c4, .slice a5 nd.kids.length c5] 35)
        obtain ⟨Wa, hWa⟩ : ∃ Wa, W.alloc (.cells #[.int .i64 nd.kind, .string ⟨nd.name.toArray⟩, .bool nd.inn, .slice a1 nd.sets.length c1, .slice a2 nd.words.length c2, .slice a3 nd.redirs.length c3, .slice a4 nd.pats.length c4, .slice a5 nd.kids.length c5] 35) = Wa := ⟨_, rfl⟩
        rw [hWa] at ga ba oa ⊢
        have sa : Wa.heap.size = W.heap.size + 1 := by rw [← hWa, World.size_alloc]
        have gb := World.grownBy_alloc Wa (.cells #[.int .i64 i] 3) none
        have bb := Blk.new Wa 3 #[.int .i64 i]
        have ob := oa.alloc (.cells #[.int .i64 i] 3)
        obtain ⟨Wb, hWb⟩ : ∃ Wb, Wa.alloc (.cells #[.int .i64 i] 3) = Wb := ⟨_, rfl⟩
        rw [hWb] at gb bb ob ⊢
        have sb : Wb.heap.size = W.heap.size + 1 + 1 := by rw [← hWb, World.size_alloc, sa]
        have gc := World.grownBy_alloc Wb (.cells #[.slice a5 nd.kids.length c5] 33) none
        have bc := Blk.new Wb 33 #[.slice a5 nd.kids.length c5]
        have oc := ob.alloc (.cells #[.slice a5 nd.kids.length c5] 33)
        obtain ⟨Wc, hWc⟩ : ∃ Wc, Wb.alloc (.cells #[.slice a5 nd.kids.length c5] 33) = Wc := ⟨_, rfl⟩
        rw [hWc] at gc bc oc ⊢
        have sc : Wc.heap.size = W.heap.size + 1 + 1 + 1 := by rw [← hWc, World.size_alloc, sb]
        rw [sa] at bb
        rw [sb] at bc
        obtain ⟨N5, hN5⟩ : ∃ N, W.heap.size = N := ⟨_, rfl⟩
        obtain ⟨F6, hF6⟩ : ∃ N, W.heap.size + 1 = N := ⟨_, rfl⟩
        obtain ⟨S7, hS7⟩ : ∃ N, W.heap.size + 1 + 1 = N := ⟨_, rfl⟩
        rw [hS7] at bc
        rw [hF6] at bb
        rw [hN5] at ba
        rw [hS7, hF6, hN5]
        have ba' := Blk.grown (Blk.grown ba gb (by simp)) gc (by simp)
        have bb' := Blk.grown bb gc (by simp)
        have hWw := HO.out.bel.size
        have hkr : 0 < nd.kids.length → ∃ g off, a5 = some ⟨g, off, none⟩ ∧ g ≠ F6 ∧ g < Wc.heap.size ∧ ∀ j, j < nd.kids.length → Wc.cell? ⟨g, off + j, none⟩ = some (.int .i64 (nd.kids[j]?.getD 0)) := by
          intro hp
          obtain ⟨a5', c5', hv5, _, _, h5⟩ := hnd.kids.now
          injection hv5 with hv5 _ _
          obtain ⟨kg, ko, hka, hkg, hkc⟩ := h5 hp
          refine ⟨kg, ko, hv5.trans hka, by omega, by omega, fun j hj => ?_⟩
          have := hkc j (.int .i64 nd.kids[j]) (by simp [hj])
          rw [oc.bel.cell (p := ⟨kg, ko + j, none⟩) hkg, this, List.getElem?_eq_getElem hj]
          rfl
        have hkm : nd.kids.length ≤ 9223372036854775807 := by
          obtain ⟨_, _, _, _, h5, _⟩ := hnd.kids.now
          exact h5
        have hDl : ∀ D ∈ Ds, D < Wc.heap.size := fun D hD => by
          have := (Array.getElem?_eq_some_iff.1 (HO.out.ds D hD)).1
          omega
        have hlo := HO.out.lo
        have hRlt := cell_lt HO.out.res
        have hGblt := cell_lt HO.out.gb
        have hGlt : G < W.heap.size := cell_lt (HO.out.row i hlt)
        simp only [] at hRlt hGblt
        have OC := hide oc
        have BA := hide ba'
        have BB := hide bb'
        have HSZ := hide (And.intro sc (And.intro hN5 (And.intro hF6 hS7)))
        have dR : F6 ≠ R := by omega
        have dGb : F6 ≠ Gb := by omega
        have dG : F6 ≠ G := by omega
        have dN5 : F6 ≠ N5 := by omega
        have hF6w : w.heap.size ≤ F6 := by omega
        have hcw : w.heap.size ≤ Wc.heap.size := by omega
        have ste := back_stops F (n - 1) h52 hro (by omega) S7 F6 a5 c5 nd.kids hkm Wc (by omega) (by omega) (Blk.cell bc 0) hkr
        clear f0 f1 f2 f3 f4 f5 f6 f7 hgW ga gb gc ba bb bc oa ob oc ba' bb' sa sb sc hWa hWb hWc hN5 hF6 hS7 tr
        have hg1 : ∀ pre x, ordK bs (nd.kind == 14) ((pre ++ [x]).map Prod.snd) i = match ordK bs (nd.kind == 14) (pre.map (Prod.snd : Nat × Int → Int)) i with
            | some f => ordK bs (nd.kind == 14) [x.2] f
            | none => none := fun pre x => by rw [List.map_append, ordK_app]; rfl
        have HG1 := hide hg1
        have HBS := hide hbs
        clear hg1 hbs
        refine wpIn_rangeFunc_ownG hro h1 (gf := 52) (lb := #[.pointer (some ⟨S7, 0, none⟩)]) rfl h52 (enters_of Try.func52 (by kernel_rfl) rfl)
          ste KC.trans (fun W' lb o o' hlb ho hc _ p v hp hcell => cell_kept hcell (grownBy_putObj' W' lb o') (fun r e => by cases e; exact ⟨_, ho, hc⟩)) (Below.refl _ _) (fun _ => rfl)
          (fun pre W' => ∃ f : Nat, ordK bs (nd.kind == 14) (pre.map Prod.snd) i = some f ∧ W'.cell? ⟨F6, 0, none⟩ = some (.int .i64 f) ∧ W'.frozen? ⟨F6, 0, none⟩ = false ∧ W'.cell? ⟨N5, 0, none⟩ = some (.int .i64 nd.kind) ∧ OSt w W' R Gb G l.length bs Ds)
          (fun c pre W' => c = .ret ∧ ordK bs (nd.kind == 14) (pre.map Prod.snd) i = none ∧ OSt w W' R Gb G l.length bs Ds)
          (fun s A B row hs hg hr => by
            obtain ⟨f, h1, h2, h3, h4, h5⟩ := hs
            have hr2 : ∀ r, row = some r → ∃ o : Obj, A.heap[r]? = some o ∧ o.isCells = false := fun r e => (hr r e).2
            exact ⟨f, h1, cell_kept h2 hg hr2, (frozen_kept h2 hg hr2).trans h3, cell_kept h4 hg hr2, h5.kept hcw hDl hg hr⟩)
          (fun c s A B row hs hg hr => ⟨hs.1, hs.2.1, hs.2.2.kept hcw hDl hg hr⟩)
          ⟨i, rfl, Blk.cell BB.out 0, Blk.frozen BB.out 0, Blk.cell BA.out 0, OC.out⟩
          (fun x => { tmps := #[.slice (some ⟨g, off, none⟩) l.length cap0, t1, .pointer (some ⟨R, 0, none⟩), .pointer (some ⟨Gb, 0, none⟩), .int .i64 i, .pointer (some ⟨N5, 0, none⟩), .pointer (some ⟨F6, 0, none⟩), t7, .int .i64 x.2, t9, t10, t11, t12, t13, t14, t15, t16, t17, t18, t19, .slice (some ⟨g, off, none⟩) l.length cap0, .int .i64 l.length, .int .i64 i, .bool true, .int .i64 i, .pointer (some ⟨g, off + i * 8, none⟩), .agg #[.int .i64 nd.kind, .string ⟨nd.name.toArray⟩, .bool nd.inn, .slice a1 nd.sets.length c1, .slice a2 nd.words.length c2, .slice a3 nd.redirs.length c3, .slice a4 nd.pats.length c4, .slice a5 nd.kids.length c5], .int .i64 i, .pointer (some ⟨N5, 7, none⟩), .slice a5 nd.kids.length c5, .func (.func 52) #[] #[.pointer (some ⟨S7, 0, none⟩)], .int .i64 (x.1 : Int), .int .i64 x.2, t33, t34, t35, t36, t37, t38, t39, t40, t41, t42, t43, t44, t45, t46, t47, t48, t49, t50, t51, t52, t53, t54, t55, t56, t57, t58, t59, t60, t61, t62, t63], defers := [] }) ?assign ?body ?done ?stop
        case assign =>
          intro lq x Wq K hK
          gi_wp2
          exact hK
        case body =>
          rintro lq pre x Wq ⟨f, hof, hc6, hz6, hc5, hst⟩ _
          have hfi : f ≤ i := by
            have := (ordK_le (c := nd.kind == 14) (fun j hj => HBS.out j (by rw [hbl] at hj; exact hj)) (pre.map Prod.snd) i f (by rw [hbl]; exact Nat.le_refl _) hof).1
            exact this
          have hone := HG1.out pre x
          rw [hof] at hone
          have hone2 : ordK bs (nd.kind == 14) ((pre ++ [x]).map Prod.snd) i = if x.2 = -1 ∧ (nd.kind == 14) = true then some f else if f = 0 ∨ x.2 ≠ (f : Int) - 1 then none else some (bs.getD (f - 1) 0) := hone
          have HOF := hide hof
          have HST := hide hst
          have HONE := hide hone2
          have cgb := hst.gb
          have cres := hst.res
          have fres := hst.fres
          have hrow := hst.row
          have hflim : (f : Int) ≤ 300 := by omega
          clear hof hone hone2 hst
          by_cases hA : x.2 = -1 ∧ nd.kind = 14
          · have p1 : (x.2 == -1) = true := by rw [beq_iff_eq]; exact hA.1
            have p2 : (nd.kind == 14) = true := by rw [beq_iff_eq]; exact hA.2
            have HA := hide hA
            clear hA
            gi_wp2
            exact ⟨KeepsFrom.refl _ _, KC.refl _ _, f, by rw [HONE.out, if_pos ⟨HA.out.1, by rw [beq_iff_eq]; exact HA.out.2⟩], hc6, hz6, hc5, HST.out⟩
          · have hnA : ¬ (x.2 = -1 ∧ (nd.kind == 14) = true) := fun e => hA ⟨e.1, eq_of_beq e.2⟩
            by_cases hB : f = 0 ∨ x.2 ≠ (f : Int) - 1
            · have hnone := HONE.out
              rw [if_neg hnA, if_pos hB] at hnone
              have HNONE := hide hnone
              have fin : ∀ v : Value, v = .bool false → OSt w (Wq.setCell ⟨R, 0, none⟩ v) R Gb G l.length bs Ds := by
                rintro v rfl
                have h := HST.out
                exact ⟨by rw [World.cell?_setCell_far _ _ _ _ h.lo.2.2.2.1]; exact h.gb, fun j hj => by rw [World.cell?_setCell_far _ _ _ _ h.lo.2.2.2.2.1]; exact h.row j hj, fun j hj => by rw [World.frozen?_setCell]; exact h.frow j hj, World.cell?_setCell_same' _ _ _ (by rw [h.res]; rfl), by rw [World.frozen?_setCell]; exact h.fres, fun D hD => (KeepsOthers.setCell Wq ⟨R, 0, none⟩ _).same D _ (h.ds D hD) rfl, h.dlo, h.nd, h.bel.setCell (p := ⟨R, 0, none⟩) h.lo.1 _, h.lo⟩
              have FIN := hide fin
              clear hnone fin
              have p3 : (x.2 == -1 && nd.kind == 14) = false := by
                rw [Bool.eq_false_iff]
                intro h
                simp only [Bool.and_eq_true, beq_iff_eq] at h
                exact hA h
              have p4 : ((f : Int) == 0 || x.2 != (f : Int) - 1) = true := by
                rw [Bool.or_eq_true]
                rcases hB with hB | hB
                · left; rw [hB]; rfl
                · right; rw [bne, beq_eq_false_iff_ne.2 hB]; rfl
              have HNA := hide hA
              clear hA hnA
              by_cases hx1 : x.2 = -1
              · have p1 : (x.2 == -1) = true := by rw [beq_iff_eq]; exact hx1
                have p2 : (nd.kind == 14) = false := by rw [beq_eq_false_iff_ne]; exact fun e => HNA.out ⟨hx1, e⟩
                have HX1 := hide hx1
                clear hx1 hB
                gi_wp2
                all_goals exact ⟨(KeepsOthers.setCell _ _ _).from _, rfl, HNONE.out, FIN.out _ rfl⟩
              · have p1 : (x.2 == -1) = false := by rw [beq_eq_false_iff_ne]; exact hx1
                have HX1 := hide hx1
                clear hx1 hB
                gi_wp2
                all_goals exact ⟨(KeepsOthers.setCell _ _ _).from _, rfl, HNONE.out, FIN.out _ rfl⟩
            · have hB1 : f ≠ 0 := fun e => hB (.inl e)
              have hB2 : x.2 = (f : Int) - 1 := Classical.byContradiction fun e => hB (.inr e)
              have hsome := HONE.out
              rw [if_neg hnA, if_neg hB] at hsome
              have HSOME := hide hsome
              obtain ⟨m, rfl⟩ : ∃ m, f = m + 1 := ⟨f - 1, by omega⟩
              have p3 : (x.2 == -1 && nd.kind == 14) = false := by
                rw [Bool.eq_false_iff]
                intro h
                simp only [Bool.and_eq_true, beq_iff_eq] at h
                exact hA h
              have p4 : (((m + 1 : Nat) : Int) == 0 || x.2 != ((m + 1 : Nat) : Int) - 1) = false := by
                rw [Bool.or_eq_false_iff]
                refine ⟨by rw [beq_eq_false_iff_ne]; omega, ?_⟩
                rw [bne, ← hB2, beq_self_eq_true]
                rfl
              have hxm : x.2 = (m : Int) := by omega
              have hmb : (0 : Int) ≤ m ∧ (m : Int) < (l.length : Int) := by omega
              have hcm := hrow m (by omega)
              have hbm : bs.getD (m + 1 - 1) 0 = bs.getD m 0 := rfl
              rw [hbm] at HSOME
              obtain ⟨z, hz⟩ : ∃ z, bs.getD m 0 = z := ⟨_, rfl⟩
              rw [hz] at hcm HSOME
              have fin : OSt w (Wq.setCell ⟨F6, 0, none⟩ (.int .i64 z)) R Gb G l.length bs Ds := HST.out.set6 dR dGb dG hF6w hc6 _
              have FIN := hide fin
              have kcF : KC F6 Wq (Wq.setCell ⟨F6, 0, none⟩ (.int .i64 z)) := fun p v hp hv => by rw [World.cell?_setCell_far _ _ _ _ (fun e => hp e.symm)]; exact hv
              have KCF := hide kcF
              have h5 : (Wq.setCell ⟨F6, 0, none⟩ (.int .i64 z)).cell? ⟨N5, 0, none⟩ = some (.int .i64 nd.kind) := by rw [World.cell?_setCell_far _ _ _ _ dN5]; exact hc5
              have H5 := hide h5
              clear hsome hbm hz fin kcF h5 hB hA hnA hB1 hB2
              gi_wp2
              exact ⟨(KeepsOthers.setCell _ _ _).from _, KCF.out, z, HSOME.out, World.cell?_setCell_same' _ _ _ (by rw [hc6]; rfl), by rw [World.frozen?_setCell]; exact hz6, H5.out, FIN.out⟩
        case done =>
          rintro D ys Wq hD rfl ⟨f, hof, hc6, hz6, hc5, hst⟩ hKd
          rw [revP_take _ _ (Nat.le_refl _), List.take_of_length_le (by rw [List.length_reverse]; exact Nat.le_refl _)] at hof
          have hfi : f ≤ i := (ordK_le (c := nd.kind == 14) (fun j hj => HBS.out j (by rw [hbl] at hj; exact hj)) _ i f (by rw [hbl]; exact Nat.le_refl _) hof).1
          have cgb := hst.gb
          have crow := hst.row i hlt
          have frow := hst.frow i hlt
          have hnext : OSt w (Wq.setCell ⟨G, i, none⟩ (.int .i64 f)) R Gb G l.length (bs ++ [f]) (D :: Ds) := by
            refine ⟨by rw [World.cell?_setCell_far _ _ _ _ (fun e => hst.lo.2.2.2.2.2 e.symm)]; exact hst.gb, fun j hj => ?_, fun j hj => by rw [World.frozen?_setCell]; exact hst.frow j hj, by rw [World.cell?_setCell_far _ _ _ _ (fun e => hst.lo.2.2.2.2.1 e.symm)]; exact hst.res, by rw [World.frozen?_setCell]; exact hst.fres, fun D' hD' => ?_, fun D' hD' => ?_, ?_, hst.bel.setCell (p := ⟨G, i, none⟩) hst.lo.2.2.1 _, hst.lo⟩
            · by_cases hji : j = i
              · subst hji
                rw [World.cell?_setCell_same' _ _ _ (by rw [crow]; rfl), List.getD_eq_getElem?_getD, List.getElem?_append_right (by omega), hbl, Nat.sub_self]
                rfl
              · have hne2 : (⟨G, i, none⟩ : Addr) ≠ ⟨G, j, none⟩ := fun e => hji (by injection e with _ e _; exact e.symm)
                first | rw [World.cell?_setCell_other hne2] | rw [World.cell?_setCell_other _ hne2] | rw [World.cell?_setCell_other _ _ hne2] | rw [World.cell?_setCell_other _ _ _ hne2] | rw [World.cell?_setCell_other _ _ _ _ hne2]
                rw [hst.row j hj]
                rw [List.getD_eq_getElem?_getD, List.getD_eq_getElem?_getD]
                rcases Nat.lt_or_ge j i with h | h
                · rw [List.getElem?_append_left (by omega)]
                · rw [List.getElem?_eq_none (by omega), List.getElem?_eq_none (by rw [List.length_append, List.length_singleton]; omega)]
            · refine (KeepsOthers.setCell Wq ⟨G, i, none⟩ _).same D' _ ?_ rfl
              rw [List.mem_cons] at hD'
              rcases hD' with rfl | h
              · exact hKd
              · exact hst.ds D' h
            · rw [List.mem_cons] at hD'
              rcases hD' with rfl | h
              · omega
              · exact hst.dlo D' h
            · rw [List.nodup_cons]
              exact ⟨fun h => by have := hDl D h; omega, hst.nd⟩
          have HNX := hide hnext
          have hord2 : ordL (l.take (i + 1)) [] = some (bs ++ [f]) := by
            rw [List.take_succ_eq_append_getElem hlt, ordL_app, HORD.out, hne]
            show (match ordK bs (nd.kind == 14) nd.kids.reverse bs.length with | some b => ordL [] (bs ++ [b]) | none => none) = _
            rw [hbl, hof]
            rfl
          have HORD2 := hide hord2
          have hbs2 : ∀ j, j < i + 1 → (bs ++ [f]).getD j 0 ≤ j := by
            intro j hj
            rw [List.getD_eq_getElem?_getD]
            rcases Nat.lt_or_ge j i with h | h
            · rw [List.getElem?_append_left (by omega), ← List.getD_eq_getElem?_getD]; exact HBS.out j h
            · obtain rfl : j = i := by omega
              rw [List.getElem?_append_right (by omega), hbl, Nat.sub_self]
              exact hfi
          have HBS2 := hide hbs2
          clear hof hnext hord2 hbs2 hst
          gi_wp2
          refine ⟨⟨i + 1, bs ++ [f], D :: Ds, ?_⟩, ?_⟩
          · (repeat apply Exists.intro)
            refine ⟨?_, by omega, by rw [List.length_append, hbl]; rfl, HORD2.out, HBS2.out, HNX.out⟩
            rw [show ((i + 1 : Nat) : Int) = (i : Int) + 1 from by omega]
            rfl
          · simp [intOf]; omega
        case stop =>
          rintro D c pre Wq hD ⟨k, hk, rfl⟩ ⟨rfl, hnn, hst⟩ hKd
          have hfalse : ordB l = false := by
            unfold ordB
            have hn2 : ordK bs (nd.kind == 14) nd.kids.reverse i = none := by
              rw [← List.take_append_drop k nd.kids.reverse, ordK_app]
              rw [revP_take _ _ hk] at hnn
              rw [hnn]
            have : ordL l [] = none := by
              rw [← List.take_append_drop i l, ordL_app, HORD.out, List.drop_eq_getElem_cons hlt, hne]
              show (match ordK bs (nd.kind == 14) nd.kids.reverse bs.length with | some b => ordL _ (bs ++ [b]) | none => none) = _
              rw [hbl, hn2]
            rw [this]
            simp
          have hl14 := leave14 F n R #[.slice (some ⟨g, off, none⟩) l.length cap0, t1, .pointer (some ⟨R, 0, none⟩), .pointer (some ⟨Gb, 0, none⟩), .int .i64 i, .pointer (some ⟨N5, 0, none⟩), .pointer (some ⟨F6, 0, none⟩), t7, t8, t9, t10, t11, t12, t13, t14, t15, t16, t17, t18, t19, .slice (some ⟨g, off, none⟩) l.length cap0, .int .i64 l.length, .int .i64 i, .bool true, .int .i64 i, .pointer (some ⟨g, off + i * 8, none⟩), .agg #[.int .i64 nd.kind, .string ⟨nd.name.toArray⟩, .bool nd.inn, .slice a1 nd.sets.length c1, .slice a2 nd.words.length c2, .slice a3 nd.redirs.length c3, .slice a4 nd.pats.length c4, .slice a5 nd.kids.length c5], .int .i64 i, .pointer (some ⟨N5, 7, none⟩), .slice a5 nd.kids.length c5, .func (.func 52) #[] #[.pointer (some ⟨S7, 0, none⟩)], t31, t32, t33, t34, t35, t36, t37, t38, t39, t40, t41, t42, t43, t44, t45, t46, t47, t48, t49, t50, t51, t52, t53, t54, t55, t56, t57, t58, t59, t60, t61, t62, t63] rfl (ordB l) w (D :: Ds) Wq (by rw [hfalse]; exact hst.res) (fun D' hD' => by
            rw [List.mem_cons] at hD'
            rcases hD' with rfl | h
            · exact hKd
            · exact hst.ds D' h) (by rw [List.nodup_cons]; exact ⟨fun h => by have := hDl D h; omega, hst.nd⟩) (fun D' hD' => by
            rw [List.mem_cons] at hD'
            rcases hD' with rfl | h
            · omega
            · exact hst.dlo D' h) hst.bel
          have HL14 := hide hl14
          clear hl14 hfalse
          gi_wp2
          first | exact HL14.out | (have h14q := HL14.out; rw [hR] at h14q; exact h14q)
      · obtain rfl : i = l.length := by omega
        have q3 : decide ((l.length : Int) < (l.length : Int)) = false := decide_eq_false (by omega)
        obtain ⟨L, hL⟩ : ∃ L, l.length = L + 1 := ⟨l.length - 1, by omega⟩
        have hLi : (l.length : Int) - 1 = (L : Int) := by omega
        have hLb : (0 : Int) ≤ L ∧ (L : Int) < (l.length : Int) := by omega
        have cgb := ho.gb
        have crow := ho.row L (by omega)
        have cres := ho.res
        have fres := ho.fres
        have hob : ordB l = (((bs.getD L 0 : Nat) : Int) == 0) := by
          have h2 := HORD.out
          rw [List.take_length] at h2
          unfold ordB
          rw [h2, decide_eq_true hlen.1, decide_eq_true hlen.2]
          show (true && true && (bs.getLastD 1 == 0)) = _
          have h3 : bs.getLastD 1 = bs.getD L 0 := by
            rw [List.getLastD_eq_getLast?, List.getLast?_eq_getElem?, hbl, hL, Nat.add_sub_cancel, List.getD_eq_getElem?_getD]
            rw [List.getElem?_eq_getElem (by omega)]
            rfl
          rw [h3]
          generalize bs.getD L 0 = z
          cases z with
          | zero => rfl
          | succ z =>
            symm
            show (((z + 1 : Nat) : Int) == 0) = false
            rw [beq_eq_false_iff_ne]
            omega
        obtain ⟨z, hz⟩ : ∃ z, bs.getD L 0 = z := ⟨_, rfl⟩
        rw [hz] at crow hob
        obtain ⟨r, hr⟩ : ∃ r, ((z : Int) == 0) = r := ⟨_, rfl⟩
        rw [hr] at hob
        have hfin : ∀ tmps : Array Value, tmps.getD 2 undef = .pointer (some ⟨R, 0, none⟩) → LeavesInM F n Try.prog Try.f14 tmps (fun e w' => e = .returned (.bool (ordB l)) ∧ Below w.heap.size w w') (Ds.map mkD) .returning (W.setCell ⟨R, 0, none⟩ (.bool r)) := by
          intro tmps ht
          rw [hob]
          refine leave14 F n R tmps ht r w Ds _ (World.cell?_setCell_same' _ _ _ (by rw [cres]; rfl)) (fun D hD => (KeepsOthers.setCell W ⟨R, 0, none⟩ _).same D _ (ho.ds D hD) rfl) ho.nd ho.dlo (ho.bel.setCell (p := ⟨R, 0, none⟩) ho.lo.1 _)
        have HFIN := hide hfin
        clear hfin hob hz hL ho
        gi_wp2
        first | exact HFIN.out _ rfl | (have h14q := HFIN.out _ rfl; rw [hR] at h14q; exact h14q)
  · have hob : ordB l = false := by
      unfold ordB
      rcases Nat.lt_or_ge 300 l.length with h | h
      · rw [decide_eq_false (p := l.length ≤ 300) (by omega)]; simp
      · rw [decide_eq_false (p := 1 ≤ l.length) (by omega)]; simp
    have b1 := Blk.new w 4 #[.bool false]
    have g1 := World.grownBy_alloc w (.cells #[.bool false] 4) none
    have hfin : ∀ tmps : Array Value, tmps.getD 2 undef = .pointer (some ⟨w.heap.size, 0, none⟩) → ∀ W', W' = (w.alloc (.cells #[.bool false] 4)).setCell ⟨w.heap.size, 0, none⟩ (.bool false) ∨ W' = w.alloc (.cells #[.bool false] 4) → LeavesInM F n Try.prog Try.f14 tmps (fun e w' => e = .returned (.bool (ordB l)) ∧ Below w.heap.size w w') [] .returning W' := by
      intro tmps ht W' hW'
      rw [hob]
      have hb := grown_below g1 (Nat.le_refl _)
      rcases hW' with rfl | rfl
      · exact leave14 F n w.heap.size tmps ht false w [] _ (World.cell?_setCell_same' _ _ _ (by rw [Blk.cell b1 0]; rfl)) (fun _ h => (by cases h)) List.nodup_nil (fun _ h => (by cases h)) (hb.setCell (p := ⟨w.heap.size, 0, none⟩) (Nat.le_refl _) _)
      · exact leave14 F n w.heap.size tmps ht false w [] _ (Blk.cell b1 0) (fun _ h => (by cases h)) List.nodup_nil (fun _ h => (by cases h)) hb
    have HFIN := hide hfin
    clear hfin hob b1 g1
    by_cases h300 : 300 < l.length
    · have q1 : decide ((l.length : Int) < 1) = false := decide_eq_false (by omega)
      have q2 : decide ((300 : Int) < (l.length : Int)) = true := decide_eq_true (by omega)
      gi_wp2
      first | exact HFIN.out _ rfl _ (.inl rfl) | exact HFIN.out _ rfl _ (.inr rfl)
    · have q1 : decide ((l.length : Int) < 1) = true := decide_eq_true (by omega)
      gi_wp2
      first | exact HFIN.out _ rfl _ (.inl rfl) | exact HFIN.out _ rfl _ (.inr rfl)
theorem order_any (n0 : Nat) (l : List Nd) (v : Value) (w : World) (h : NdsR n0 w v l) : Calls Try.prog 14 #[v] w fun e w' => e = .returned (.bool (ordB l)) ∧ w.grownBy w' none := by
  refine Calls.mono ((callsIn_wide (n := 4)).1 (order_in _ 4 trivial trivial trivial rfl (Nat.le_refl _) n0 l v w h)) ?_
  rintro e w' ⟨rfl, hb⟩
  exact ⟨rfl, below_grown hb⟩

end Go.Proofs.Ytdhfhphbkfgamaa
