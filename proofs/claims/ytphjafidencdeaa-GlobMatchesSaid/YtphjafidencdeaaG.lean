/- The iterator of a pattern's parts: what it hands to its loop. -/
import Derived.Test.YtphjafidencdeaaF
import Derived.RangeFuncNested
import Derived.RangeFuncBound
import Derived.RangeFuncCalls
import Derived.RangeFuncLeaves
import Derived.Shelf.Abstract
import Derived.Shelf.RegionOpen
import Derived.WalkKit
import Derived.OwnWalkIn
import Derived.TacticsInMore
import Derived.LoopNIn
import Derived.LoopIn
namespace Go.Proofs.Ytphjafidencdeaa
open Go.RowKit Go.Shelf
attribute [local go_sem] Oper.semAt_some
set_option maxRecDepth 100000

theorem quo_two (l : List UInt8) : (quo l).2 ≤ 2 := by
  match l with
  | [] => exact Nat.zero_le _
  | [c] => exact Nat.le_succ _
  | c :: d :: r =>
    show (if c = 92 then (d, 2) else (c, 1)).2 ≤ 2
    split <;> simp
theorem setGo_le {α : Type} {add : α → UInt8 → UInt8 → α} {l : List UInt8} {first : Nat} : ∀ (m i : Nat) (s : α), l.length - i = m → ∀ {s' n}, setGo add l first i s = some (s', n) → n ≤ l.length := by
  intro m
  induction m using Nat.strongRecOn with
  | ind m ih =>
    intro i s hm s' n h
    by_cases hi : i < l.length
    · by_cases hc : l[i] = 93 ∧ first < i
      · rw [setGo_close hi hc] at h
        injection h with h
        injection h with _ h
        omega
      · have hq := quo_pos (drop_ne hi)
        by_cases hr : i + (quo (l.drop i)).2 + 1 < l.length ∧ l.getD (i + (quo (l.drop i)).2) 0 = 45 ∧ l.getD (i + (quo (l.drop i)).2 + 1) 0 ≠ 93
        · rw [setGo_range hi hc hr] at h
          exact ih _ (by omega) _ _ rfl h
        · rw [setGo_one hi hc hr] at h
          exact ih _ (by omega) _ _ rfl h
    · rw [setGo_end hi] at h
      cases h
theorem setGo_ok {l : List UInt8} {first : Nat} : ∀ (m i : Nat) (s : Ws), l.length - i = m → s.ok → ∀ {s' n}, setGo addR l first i s = some (s', n) → s'.ok := by
  intro m
  induction m using Nat.strongRecOn with
  | ind m ih =>
    intro i s hm hs s' n h
    by_cases hi : i < l.length
    · by_cases hc : l[i] = 93 ∧ first < i
      · rw [setGo_close hi hc] at h
        injection h with h
        injection h with h _
        subst h
        exact hs
      · have hq := quo_pos (drop_ne hi)
        by_cases hr : i + (quo (l.drop i)).2 + 1 < l.length ∧ l.getD (i + (quo (l.drop i)).2) 0 = 45 ∧ l.getD (i + (quo (l.drop i)).2 + 1) 0 ≠ 93
        · rw [setGo_range hi hc hr] at h
          exact ih _ (by omega) _ _ rfl (addN_ok hs _ _) h
        · rw [setGo_one hi hc hr] at h
          exact ih _ (by omega) _ _ rfl (addN_ok hs _ _) h
    · rw [setGo_end hi] at h
      cases h
theorem setF_le (l : List UInt8) : (setF l).2 ≤ l.length ∧ (setF l).1.s.ok := by
  unfold setF
  cases h : setGo addR l (if notB l then 1 else 0) (if notB l then 1 else 0) Ws.zero with
  | none => exact ⟨Nat.zero_le _, Ws.ok_zero⟩
  | some q =>
    obtain ⟨s, n⟩ := q
    refine ⟨setGo_le _ _ _ rfl h, ?_⟩
    have hs := setGo_ok _ _ _ rfl Ws.ok_zero h
    show (if notB l then s.inv else s).ok
    split
    · exact Ws.ok_inv s
    · exact hs
theorem stepP_le {l : List UInt8} (h : l ≠ []) : (stepP l).2 ≤ l.length ∧ (stepP l).1.s.ok := by
  have h0 : 0 < l.length := List.length_pos_iff.2 h
  have hq := quo_le (l := l) (i := 0) h0
  rw [List.drop_zero, Nat.zero_add] at hq
  have hs := setF_le (l.drop 1)
  rw [List.length_drop] at hs
  unfold stepP
  repeat' split
  · exact ⟨h0, Ws.ok_zero⟩
  · exact ⟨h0, Ws.ok_all⟩
  · exact ⟨by show 1 + _ ≤ _; omega, hs.2⟩
  · exact ⟨h0, Ws.ok_add Ws.ok_zero _⟩
  · exact ⟨hq, Ws.ok_add Ws.ok_zero _⟩
def lenAt (w : World) (pb : Nat) : Nat := match w.cell? ⟨pb, 0, none⟩ with
  | some (.string s) => s.size
  | _ => 0
theorem lenAt_eq {w : World} {pb : Nat} {l : List UInt8} (h : Blk w pb 9 #[sv l]) : lenAt w pb = l.length := by
  unfold lenAt
  rw [h.cell 0]
  exact sz l
def Pt.agg (p : Pt) : Value := .agg p.cells.toArray

theorem yield_step {o : Oper} {a : Act} {n l pb : Nat} {next : Act → World → Prop} {Q : Exit → Act → World → Prop} {J Jx : List Pt → World → Prop} {pre : List Pt} {x : Pt} {w E : World} {rest : List UInt8}
    (hY : ∀ pre x W1, J pre W1 → pre.length < 1000000 → YieldAt Fence.wide (n - 1) Try.prog l #[x.agg] W1 fun e W' => (e = .returned (.bool true) ∧ J (pre ++ [x]) W' ∧ W'.heap[pb]? = W1.heap[pb]?) ∨ (e = .returned (.bool false) ∧ Jx (pre ++ [x]) W'))
    (hAb : ∀ pre A B, J pre A → A.grownBy B (some pb) → J pre B) (hJ : J pre w) (hlen : pre.length < 1000000) (hE : Blk E pb 9 #[sv rest] ∧ w.grownBy E (some pb))
    (hnext : ∀ W', J (pre ++ [x]) W' → Blk W' pb 9 #[sv rest] → next (a.put o.dst (.bool true)) W') (hstop : ∀ W', Jx (pre ++ [x]) W' → next (a.put o.dst (.bool false)) W') :
    o.uponIn Fence.wide n Try.prog a next Q ((Instr.yield l #[x.agg]).run Try.prog E) := by
  obtain ⟨fn, tmps, assign, body, hy, hR⟩ := hY pre x E (hAb _ _ _ hJ hE.2) hlen
  rw [hy, Oper.uponIn_round]
  refine ⟨fun h => absurd h (by simp [Fence.wide]), hR.mono fun e W' hr => ?_⟩
  rcases hr with ⟨rfl, h1, h2⟩ | ⟨rfl, h1⟩
  · exact hnext W' h1 (h2.trans hE.1)
  · exact hstop W' h1

set_option maxHeartbeats 4000000 in
theorem iter_any (n pb : Nat) (p : List UInt8) (l : Nat) (hp : p.length ≤ 1000000) (J Jx : List Pt → World → Prop) (W : World)
    (hAb : ∀ pre A B, J pre A → A.grownBy B (some pb) → J pre B)
    (hY : ∀ pre x W1, J pre W1 → pre.length < 1000000 → YieldAt Fence.wide (n - 1) Try.prog l #[x.agg] W1 fun e W' => (e = .returned (.bool true) ∧ J (pre ++ [x]) W' ∧ W'.heap[pb]? = W1.heap[pb]?) ∨ (e = .returned (.bool false) ∧ Jx (pre ++ [x]) W'))
    (hpb : Blk W pb 9 #[sv p]) (h0 : J [] W) :
    CallsIn Fence.wide n Try.prog 28 #[.func (.yield l) #[] #[], .pointer (some ⟨pb, 0, none⟩)] W fun e W' => (∃ v, e = .returned v) ∧ (J (partsF p) W' ∨ ∃ pre, pre <+: partsF p ∧ Jx pre W') := by
  refine callsIn_of_wp Try.func28 rfl trivial ?_ rfl
  simp only [Try.ntmps28, List.size_toArray, List.length_cons, List.length_nil, Nat.reduceAdd, Nat.reduceSub, Array.replicate_succ, Array.replicate_zero, List.push_toArray, List.append_toArray, List.nil_append, List.cons_append]
  gi_wp2
  have hplt := hpb.lt
  have HAb := hide hAb
  have HY := hide hY
  clear hAb hY
  gi_loopw [3] (fun _ wr => ∃ (pre : List Pt) (rest : List UInt8), Blk wr pb 9 #[sv rest] ∧ partsF p = pre ++ partsF rest ∧ J pre wr ∧ pre.length + rest.length ≤ p.length) (fun _ wr => lenAt wr pb)
  case atStart => exact ⟨[], p, hpb, rfl, h0, by simp⟩
  case round =>
    obtain ⟨pre, r, hB, hpf, hJ, hlen⟩ := hrel
    have HB := hide hB
    have HJ := hide hJ
    have Hpf := hide hpf
    have hcell : wr.cell? ⟨pb, 0, none⟩ = some (.string ⟨r.toArray⟩) := hB.cell 0
    have hfz := hB.frozen 0
    have hlt := hB.lt
    clear hB hJ hpf hpb h0 hplt
    by_cases hr : r = []
    · subst hr
      gi_wp2
      refine bodyPost_end (results_none rfl _ _ _) rfl ?_
      refine ⟨⟨_, rfl⟩, .inl ?_⟩
      have := Hpf.out
      rw [partsF_nil, List.append_nil] at this
      rw [this]
      exact HJ.out
    · have he : r.isEmpty = false := by simpa using hr
      have hq : ((ByteArray.mk r.toArray) == ByteArray.mk #[]) = false := by
        have := sv_beq r []
        rw [this, beq_eq_false_iff_ne]
        exact hr
      have Hr := hide hr
      have Hq := hide (quoted_any r wr hr (by omega))
      have hql := stepP_le hr
      gi_wp2_with fail
      refine ⟨trivial, fun h => absurd h (by simp [Fence.wide]), (callsIn_wide.2 Hq.out).mono ?_⟩
      rintro e w1 ⟨rfl, rfl⟩
      unfold quoV
      obtain ⟨c, hc⟩ : ∃ c, (quo r).1 = c := ⟨_, rfl⟩
      obtain ⟨k, hk⟩ : ∃ k, (quo r).2 = k := ⟨_, rfl⟩
      have hkp := And.intro (quo_pos hr) (quo_two r)
      rw [hc, hk]
      rw [hk] at hkp
      have hext : ∀ m, (ByteArray.mk r.toArray).extract m r.length = ⟨(r.drop m).toArray⟩ := fun m => ext_drop r m _ rfl
      have hrl : 1 ≤ r.length := List.length_pos_iff.2 hr
      by_cases w1a : k = 1 ∧ c = 42
      · have hst : stepP r = (⟨true, true, Ws.zero⟩, 1) := by unfold stepP; rw [hc, hk, if_pos w1a]
        have Hst := hide hst
        obtain ⟨rfl, rfl⟩ := w1a
        clear hst
        gi_wp2_with fail
        refine yield_step (x := ⟨true, true, Ws.zero⟩) (rest := r.tail) HY.out HAb.out HJ.out (by omega) (⟨(Blk.set_ HB.out 0 _).alloc _, only_alloc (only_setCell (only_refl w1 (some pb)) (.inl rfl) _) _⟩) (fun W' hJ' hB' => ?_) (fun W' hJx => ?_)
        · have HJ' := hide hJ'
          have HB' := hide hB'
          clear hJ' hB'
          gi_wp2
          go_roundw
          case rel => exact ⟨pre ++ [⟨true, true, Ws.zero⟩], r.tail, HB'.out, by rw [Hpf.out, partsF_cons hr, Hst.out]; simp, HJ'.out, by simp; omega⟩
          case measure => rw [lenAt_eq HB'.out, lenAt_eq HB.out]; simp; omega
        · have HJx := hide hJx
          clear hJx
          gi_wp2
          refine bodyPost_ret (results_none rfl _ _ _) rfl ?_
          exact ⟨⟨_, rfl⟩, .inr ⟨pre ++ [⟨true, true, Ws.zero⟩], ⟨partsF (r.tail), by rw [Hpf.out, partsF_cons hr, Hst.out]; simp⟩, HJx.out⟩⟩
      by_cases w2a : k = 1 ∧ c = 63
      · have hst : stepP r = (⟨false, true, Ws.all⟩, 1) := by unfold stepP; rw [hc, hk, if_neg w1a, if_pos w2a]
        have Hst := hide hst
        obtain ⟨rfl, rfl⟩ := w2a
        clear hst w1a
        gi_wp2_with fail
        refine yield_step (x := ⟨false, true, Ws.all⟩) (rest := r.tail) HY.out HAb.out HJ.out (by omega) (⟨(Blk.set_ HB.out 0 _).alloc _, only_alloc (only_setCell (only_refl w1 (some pb)) (.inl rfl) _) _⟩) (fun W' hJ' hB' => ?_) (fun W' hJx => ?_)
        · have HJ' := hide hJ'
          have HB' := hide hB'
          clear hJ' hB'
          gi_wp2
          go_roundw
          case rel => exact ⟨pre ++ [⟨false, true, Ws.all⟩], r.tail, HB'.out, by rw [Hpf.out, partsF_cons hr, Hst.out]; simp, HJ'.out, by simp; omega⟩
          case measure => rw [lenAt_eq HB'.out, lenAt_eq HB.out]; simp; omega
        · have HJx := hide hJx
          clear hJx
          gi_wp2
          refine bodyPost_ret (results_none rfl _ _ _) rfl ?_
          exact ⟨⟨_, rfl⟩, .inr ⟨pre ++ [⟨false, true, Ws.all⟩], ⟨partsF (r.tail), by rw [Hpf.out, partsF_cons hr, Hst.out]; simp⟩, HJx.out⟩⟩
      by_cases w3a : k = 1 ∧ c = 91
      · obtain ⟨y, hy⟩ : ∃ y, (setF r.tail).1 = y := ⟨_, rfl⟩
        obtain ⟨m, hm⟩ : ∃ m, (setF r.tail).2 = m := ⟨_, rfl⟩
        have hml := setF_le r.tail
        rw [hy, hm, List.length_tail] at hml
        have hset := set_any r.tail (w1.alloc (.cells #[.bool false, .bool false, .int .u64 0, .int .u64 0, .int .u64 0, .int .u64 0] 38)) (by rw [List.length_tail]; omega)
        rw [hy, hm] at hset
        unfold Pt.cells sv at hset
        have Hset := hide hset
        clear hset
        have hst : stepP r = if 0 < m then (y, 1 + m) else (⟨false, false, Ws.zero.add c⟩, 1) := by
          unfold stepP
          rw [hc, hk, if_neg w1a, if_neg w2a, if_pos w3a, List.drop_one, hy, hm]
        have Hst := hide hst
        obtain ⟨rfl, rfl⟩ := w3a
        clear hst w1a w2a hy hm
        gi_wp2_with fail
        refine ⟨trivial, fun h => absurd h (by simp [Fence.wide]), (callsIn_wide.2 Hset.out).mono ?_⟩
        rintro e w2 ⟨rfl, hg2⟩
        have hp2 := Blk.grown (Blk.new w1 38 #[.bool false, .bool false, .int .u64 0, .int .u64 0, .int .u64 0, .int .u64 0]) hg2 (by simp)
        obtain ⟨c0, c1, c2, c3, c4, c5⟩ := (show PtAt w2 w1.heap.size pt0 from hp2).c
        have HP2 := hide (show PtAt w2 w1.heap.size pt0 from hp2)
        have HB2 := hide (Blk.grown (Blk.alloc HB.out (.cells #[.bool false, .bool false, .int .u64 0, .int .u64 0, .int .u64 0, .int .u64 0] 38)) hg2 (by simp))
        have Hg2 := hide (only_trans (only_alloc (only_refl w1 none) (.cells #[.bool false, .bool false, .int .u64 0, .int .u64 0, .int .u64 0, .int .u64 0] 38)) hg2)
        have hcell2 : w2.cell? ⟨pb, 0, none⟩ = some (.string ⟨r.toArray⟩) := HB2.out.cell 0
        have hfz2 := HB2.out.frozen 0
        have hlt2 := HB2.out.lt
        have hx2 : w1.heap.size < w2.heap.size := Blk.lt hp2
        have hxz : ∀ j, w2.frozen? ⟨w1.heap.size, j, none⟩ = false := fun j => Blk.frozen hp2 j
        have hnx : pb ≠ w1.heap.size := by omega
        clear hg2 hp2
        by_cases hm0 : 0 < m
        · have hst2 := Hst.out
          rw [if_pos hm0] at hst2
          have Hst2 := hide hst2
          have hm1 : (0 : Int) < (m : Int) := by omega
          have hb5 : (0 : Int) ≤ 1 + (m : Int) ∧ 1 + (m : Int) ≤ (r.length : Int) := by omega
          have hb6 : (1 + (m : Int)).toNat = 1 + m := by omega
          have hw5 : IntKind.i64.wrap (1 + (m : Int)) = 1 + (m : Int) := by rw [IntWalk.i64_in _ (by omega)]
          clear Hst
          clear hst2
          iterate 60 (first | go_values | gi_guarded | gi_step | gi_upon | gi_back | (simp only [Int.not_lt, Int.not_le] at *; go_simp))
          have hP3 : PtAt (((((((w2.setCell ⟨w1.heap.size, 0, none⟩ (.bool y.many)).setCell ⟨w1.heap.size, 1, none⟩ (.bool y.wild)).setCell ⟨w1.heap.size, 2, none⟩ (.int .u64 y.s.a)).setCell ⟨w1.heap.size, 3, none⟩ (.int .u64 y.s.b)).setCell ⟨w1.heap.size, 4, none⟩ (.int .u64 y.s.c)).setCell ⟨w1.heap.size, 5, none⟩ (.int .u64 y.s.d)).alloc (.cells #[.bool y.many, .bool y.wild, .int .u64 y.s.a, .int .u64 y.s.b, .int .u64 y.s.c, .int .u64 y.s.d] 38)) w1.heap.size y := Blk.alloc (((((Blk.set_ HP2.out 0 _).set_ 1 _).set_ 2 _).set_ 3 _ |>.set_ 4 _).set_ 5 _) _
          have hB3 : Blk (((((((w2.setCell ⟨w1.heap.size, 0, none⟩ (.bool y.many)).setCell ⟨w1.heap.size, 1, none⟩ (.bool y.wild)).setCell ⟨w1.heap.size, 2, none⟩ (.int .u64 y.s.a)).setCell ⟨w1.heap.size, 3, none⟩ (.int .u64 y.s.b)).setCell ⟨w1.heap.size, 4, none⟩ (.int .u64 y.s.c)).setCell ⟨w1.heap.size, 5, none⟩ (.int .u64 y.s.d)).alloc (.cells #[.bool y.many, .bool y.wild, .int .u64 y.s.a, .int .u64 y.s.b, .int .u64 y.s.c, .int .u64 y.s.d] 38)) pb 9 #[sv r] := Blk.alloc (Blk.far (Blk.far (Blk.far (Blk.far (Blk.far (Blk.far HB2.out (by exact hnx) _) (by exact hnx) _) (by exact hnx) _) (by exact hnx) _) (by exact hnx) _) (by exact hnx) _) _
          have hG3 : w1.grownBy (((((((w2.setCell ⟨w1.heap.size, 0, none⟩ (.bool y.many)).setCell ⟨w1.heap.size, 1, none⟩ (.bool y.wild)).setCell ⟨w1.heap.size, 2, none⟩ (.int .u64 y.s.a)).setCell ⟨w1.heap.size, 3, none⟩ (.int .u64 y.s.b)).setCell ⟨w1.heap.size, 4, none⟩ (.int .u64 y.s.c)).setCell ⟨w1.heap.size, 5, none⟩ (.int .u64 y.s.d)).alloc (.cells #[.bool y.many, .bool y.wild, .int .u64 y.s.a, .int .u64 y.s.b, .int .u64 y.s.c, .int .u64 y.s.d] 38)) none := only_alloc (none_setCell (none_setCell (none_setCell (none_setCell (none_setCell (none_setCell Hg2.out (Nat.le_refl _) _) (Nat.le_refl _) _) (Nat.le_refl _) _) (Nat.le_refl _) _) (Nat.le_refl _) _) (Nat.le_refl _) _) _
          clear c0 c1 c2 c3 c4 c5 hcell2 hfz2 hlt2 hxz hx2
          generalize (((((((w2.setCell ⟨w1.heap.size, 0, none⟩ (.bool y.many)).setCell ⟨w1.heap.size, 1, none⟩ (.bool y.wild)).setCell ⟨w1.heap.size, 2, none⟩ (.int .u64 y.s.a)).setCell ⟨w1.heap.size, 3, none⟩ (.int .u64 y.s.b)).setCell ⟨w1.heap.size, 4, none⟩ (.int .u64 y.s.c)).setCell ⟨w1.heap.size, 5, none⟩ (.int .u64 y.s.d)).alloc (.cells #[.bool y.many, .bool y.wild, .int .u64 y.s.a, .int .u64 y.s.b, .int .u64 y.s.c, .int .u64 y.s.d] 38)) = w3 at hP3 hB3 hG3 ⊢
          obtain ⟨c0, c1, c2, c3, c4, c5⟩ := hP3.c
          have HB3 := hide hB3
          have Hg3 := hide hG3
          have hcell2 : w3.cell? ⟨pb, 0, none⟩ = some (.string ⟨r.toArray⟩) := hB3.cell 0
          have hfz2 := hB3.frozen 0
          have hlt2 := hB3.lt
          have hx2 : w1.heap.size < w3.heap.size := Blk.lt hP3
          clear hP3 hB3 hG3
          gi_wp2_with fail
          refine yield_step (x := y) (rest := r.drop (1 + m)) HY.out HAb.out HJ.out (by omega) (⟨Blk.set_ HB3.out 0 _, only_setCell (only_of_none Hg3.out _) (.inl rfl) _⟩) (fun W' hJ' hB' => ?_) (fun W' hJx => ?_)
          · have HJ' := hide hJ'
            have HB' := hide hB'
            clear hJ' hB'
            gi_wp2
            go_roundw
            case rel => exact ⟨pre ++ [y], r.drop (1 + m), HB'.out, by rw [Hpf.out, partsF_cons hr, Hst2.out]; simp, HJ'.out, by simp; omega⟩
            case measure => rw [lenAt_eq HB'.out, lenAt_eq HB.out]; simp; omega
          · have HJx := hide hJx
            clear hJx
            gi_wp2
            refine bodyPost_ret (results_none rfl _ _ _) rfl ?_
            exact ⟨⟨_, rfl⟩, .inr ⟨pre ++ [y], ⟨partsF (r.drop (1 + m)), by rw [Hpf.out, partsF_cons hr, Hst2.out]; simp⟩, HJx.out⟩⟩
        · have hm9 : m = 0 := by omega
          subst hm9
          have hst2 := Hst.out
          rw [if_neg hm0] at hst2
          have Hst2 := hide hst2
          clear hst2 Hst
          iterate 36 (first | go_values | gi_guarded | gi_step | gi_upon | gi_back | (simp only [Int.not_lt, Int.not_le] at *; go_simp))
          have hP3 : PtAt (w2.alloc (.cells #[.bool y.many, .bool y.wild, .int .u64 y.s.a, .int .u64 y.s.b, .int .u64 y.s.c, .int .u64 y.s.d] 38)) w1.heap.size pt0 := Blk.alloc HP2.out _
          have hB3 : Blk (w2.alloc (.cells #[.bool y.many, .bool y.wild, .int .u64 y.s.a, .int .u64 y.s.b, .int .u64 y.s.c, .int .u64 y.s.d] 38)) pb 9 #[sv r] := Blk.alloc HB2.out _
          have hG3 : w1.grownBy (w2.alloc (.cells #[.bool y.many, .bool y.wild, .int .u64 y.s.a, .int .u64 y.s.b, .int .u64 y.s.c, .int .u64 y.s.d] 38)) none := only_alloc Hg2.out _
          clear c0 c1 c2 c3 c4 c5 hcell2 hfz2 hlt2 hxz hx2
          generalize w2.alloc (.cells #[.bool y.many, .bool y.wild, .int .u64 y.s.a, .int .u64 y.s.b, .int .u64 y.s.c, .int .u64 y.s.d] 38) = w3 at hP3 hB3 hG3 ⊢
          have hadd : Calls Try.prog 30 #[.pointer (some ⟨w1.heap.size, 0, none⟩), .int .u8 91] w3 fun e w' => e = .returned (.tuple #[]) ∧ PtAt w' w1.heap.size ⟨false, false, Ws.zero.add 91⟩ ∧ w3.grownBy w' (some w1.heap.size) := add_blk w1.heap.size pt0 91 w3 hP3 Ws.ok_zero
          have Hadd := hide hadd
          have HB3 := hide hB3
          have Hg3 := hide hG3
          have hcell3 : w3.cell? ⟨pb, 0, none⟩ = some (.string ⟨r.toArray⟩) := hB3.cell 0
          have hlt3 := hB3.lt
          clear hadd hP3 hB3 hG3
          gi_wp2_with fail
          refine ⟨trivial, fun h => absurd h (by simp [Fence.wide]), (callsIn_wide.2 Hadd.out).mono ?_⟩
          rintro e w4 ⟨rfl, hp4, hg4⟩
          obtain ⟨c0, c1, c2, c3, c4, c5⟩ := hp4.c
          have HB4 := hide (Blk.grown HB3.out hg4 (by simpa using hnx))
          have Hg4 := hide (only_new Hg3.out (Nat.le_refl _) hg4)
          have hcell4 : w4.cell? ⟨pb, 0, none⟩ = some (.string ⟨r.toArray⟩) := HB4.out.cell 0
          have hfz4 := HB4.out.frozen 0
          have hlt4 := HB4.out.lt
          have hx4 : w1.heap.size < w4.heap.size := Blk.lt hp4
          clear hg4 hp4 hcell3 hlt3
          gi_wp2_with fail
          refine yield_step (x := ⟨false, false, Ws.zero.add 91⟩) (rest := r.tail) HY.out HAb.out HJ.out (by omega) (⟨Blk.set_ HB4.out 0 _, only_setCell (only_of_none Hg4.out _) (.inl rfl) _⟩) (fun W' hJ' hB' => ?_) (fun W' hJx => ?_)
          · have HJ' := hide hJ'
            have HB' := hide hB'
            clear hJ' hB'
            gi_wp2
            go_roundw
            case rel => exact ⟨pre ++ [⟨false, false, Ws.zero.add 91⟩], r.tail, HB'.out, by rw [Hpf.out, partsF_cons hr, Hst2.out]; simp, HJ'.out, by simp; omega⟩
            case measure => rw [lenAt_eq HB'.out, lenAt_eq HB.out]; simp; omega
          · have HJx := hide hJx
            clear hJx
            gi_wp2
            refine bodyPost_ret (results_none rfl _ _ _) rfl ?_
            exact ⟨⟨_, rfl⟩, .inr ⟨pre ++ [⟨false, false, Ws.zero.add 91⟩], ⟨partsF (r.tail), by rw [Hpf.out, partsF_cons hr, Hst2.out]; simp⟩, HJx.out⟩⟩
      · have hst : stepP r = (⟨false, false, Ws.zero.add c⟩, k) := by unfold stepP; rw [hc, hk, if_neg w1a, if_neg w2a, if_neg w3a]
        have Hst := hide hst
        clear hst
        by_cases hk1 : k = 1
        · subst hk1
          have n1 : ((c.toNat : Int) == 42) = false := byte_ne (d := 42) (fun e => w1a ⟨rfl, e⟩)
          have n2 : ((c.toNat : Int) == 63) = false := byte_ne (d := 63) (fun e => w2a ⟨rfl, e⟩)
          have n3 : ((c.toNat : Int) == 91) = false := byte_ne (d := 91) (fun e => w3a ⟨rfl, e⟩)
          clear w1a w2a w3a
          have hadd := add_blk w1.heap.size pt0 c (w1.alloc (.cells #[.bool false, .bool false, .int .u64 0, .int .u64 0, .int .u64 0, .int .u64 0] 38)) (Blk.new w1 38 _) Ws.ok_zero
          have Hadd := hide hadd
          clear hadd
          gi_wp2_with fail
          refine ⟨trivial, fun h => absurd h (by simp [Fence.wide]), (callsIn_wide.2 Hadd.out).mono ?_⟩
          rintro e w2 ⟨rfl, hp2, hg2⟩
          obtain ⟨c0, c1, c2, c3, c4, c5⟩ := hp2.c
          have HB2 := hide (Blk.grown (Blk.alloc HB.out (.cells #[.bool false, .bool false, .int .u64 0, .int .u64 0, .int .u64 0, .int .u64 0] 38)) hg2 (by simp; omega))
          have Hg2 := hide (only_new (only_alloc (only_refl w1 none) (.cells #[.bool false, .bool false, .int .u64 0, .int .u64 0, .int .u64 0, .int .u64 0] 38)) (Nat.le_refl _) hg2)
          have hcell2 : w2.cell? ⟨pb, 0, none⟩ = some (.string ⟨r.toArray⟩) := HB2.out.cell 0
          have hfz2 := HB2.out.frozen 0
          have hlt2 := HB2.out.lt
          have hx2 : w1.heap.size < w2.heap.size := Blk.lt hp2
          have hnx : pb ≠ w1.heap.size := by omega
          clear hg2 hp2
          simp only [pt0] at c0 c1
          gi_wp2_with fail
          refine yield_step (x := ⟨false, false, Ws.zero.add c⟩) (rest := r.tail) HY.out HAb.out HJ.out (by omega) (⟨Blk.set_ HB2.out 0 _, only_setCell (only_of_none Hg2.out _) (.inl rfl) _⟩) (fun W' hJ' hB' => ?_) (fun W' hJx => ?_)
          · have HJ' := hide hJ'
            have HB' := hide hB'
            clear hJ' hB'
            gi_wp2
            go_roundw
            case rel => exact ⟨pre ++ [⟨false, false, Ws.zero.add c⟩], r.tail, HB'.out, by rw [Hpf.out, partsF_cons hr, Hst.out]; simp, HJ'.out, by simp; omega⟩
            case measure => rw [lenAt_eq HB'.out, lenAt_eq HB.out]; simp; omega
          · have HJx := hide hJx
            clear hJx
            gi_wp2
            refine bodyPost_ret (results_none rfl _ _ _) rfl ?_
            exact ⟨⟨_, rfl⟩, .inr ⟨pre ++ [⟨false, false, Ws.zero.add c⟩], ⟨partsF (r.tail), by rw [Hpf.out, partsF_cons hr, Hst.out]; simp⟩, HJx.out⟩⟩
        · have hk2 : k = 2 := by omega
          subst hk2
          clear w1a w2a w3a hk1
          have hr2 : 2 ≤ r.length := by have := hql.1; rw [Hst.out] at this; exact this
          have hadd := add_blk w1.heap.size pt0 c (w1.alloc (.cells #[.bool false, .bool false, .int .u64 0, .int .u64 0, .int .u64 0, .int .u64 0] 38)) (Blk.new w1 38 _) Ws.ok_zero
          have Hadd := hide hadd
          clear hadd
          gi_wp2_with fail
          refine ⟨trivial, fun h => absurd h (by simp [Fence.wide]), (callsIn_wide.2 Hadd.out).mono ?_⟩
          rintro e w2 ⟨rfl, hp2, hg2⟩
          obtain ⟨c0, c1, c2, c3, c4, c5⟩ := hp2.c
          have HB2 := hide (Blk.grown (Blk.alloc HB.out (.cells #[.bool false, .bool false, .int .u64 0, .int .u64 0, .int .u64 0, .int .u64 0] 38)) hg2 (by simp; omega))
          have Hg2 := hide (only_new (only_alloc (only_refl w1 none) (.cells #[.bool false, .bool false, .int .u64 0, .int .u64 0, .int .u64 0, .int .u64 0] 38)) (Nat.le_refl _) hg2)
          have hcell2 : w2.cell? ⟨pb, 0, none⟩ = some (.string ⟨r.toArray⟩) := HB2.out.cell 0
          have hfz2 := HB2.out.frozen 0
          have hlt2 := HB2.out.lt
          have hx2 : w1.heap.size < w2.heap.size := Blk.lt hp2
          have hnx : pb ≠ w1.heap.size := by omega
          clear hg2 hp2
          simp only [pt0] at c0 c1
          gi_wp2_with fail
          refine yield_step (x := ⟨false, false, Ws.zero.add c⟩) (rest := r.drop 2) HY.out HAb.out HJ.out (by omega) (⟨Blk.set_ HB2.out 0 _, only_setCell (only_of_none Hg2.out _) (.inl rfl) _⟩) (fun W' hJ' hB' => ?_) (fun W' hJx => ?_)
          · have HJ' := hide hJ'
            have HB' := hide hB'
            clear hJ' hB'
            gi_wp2
            go_roundw
            case rel => exact ⟨pre ++ [⟨false, false, Ws.zero.add c⟩], r.drop 2, HB'.out, by rw [Hpf.out, partsF_cons hr, Hst.out]; simp, HJ'.out, by simp; omega⟩
            case measure => rw [lenAt_eq HB'.out, lenAt_eq HB.out]; simp; omega
          · have HJx := hide hJx
            clear hJx
            gi_wp2
            refine bodyPost_ret (results_none rfl _ _ _) rfl ?_
            exact ⟨⟨_, rfl⟩, .inr ⟨pre ++ [⟨false, false, Ws.zero.add c⟩], ⟨partsF (r.drop 2), by rw [Hpf.out, partsF_cons hr, Hst.out]; simp⟩, HJx.out⟩⟩

end Go.Proofs.Ytphjafidencdeaa
