/- The walk of Read of the pipe, for any number. -/
import Derived.Test.YtlidkcbjahaahaaB
namespace Go.Proofs.Ytlidkcbjahaahaa
open Go.RowKit

theorem info5 : (Try.prog.info? 5).map (fun i => (i.zero, i.size, i.bytes)) = some (some (.int .u8 0), 1, 1) := by kernel_rfl

theorem PipeCs.readDone {cs f row r x m} (h : PipeCs cs f row r x) (hm : m ≤ row.length) :
    PipeCs ((cs.setIfInBounds 128 (.int .i64 (((f + m) % 128 : Nat)))).setIfInBounds 129 (.int .i64 ((row.length : Int) - m))) ((f + m) % 128) (row.drop m) r x := by
  have hmod : (f + m) % 128 < 128 := Nat.mod_lt _ (by omega)
  have hl := h.hl
  have hf := h.hf
  refine ⟨by simp [h.size], hmod, by rw [List.length_drop]; omega, ?_, ?_, ?_, ?_, ?_, ?_⟩
  · rw [Array.getElem?_setIfInBounds_ne (by omega), Array.getElem?_setIfInBounds_self_of_lt (by rw [h.size]; omega)]
  · rw [Array.getElem?_setIfInBounds_self_of_lt (by simp [h.size]), List.length_drop]
    congr 2; omega
  · rw [Array.getElem?_setIfInBounds_ne (by omega), Array.getElem?_setIfInBounds_ne (by omega)]; exact h.c2
  · rw [Array.getElem?_setIfInBounds_ne (by omega), Array.getElem?_setIfInBounds_ne (by omega)]; exact h.c3
  · intro i hi
    rw [Array.getElem?_setIfInBounds_ne (by omega), Array.getElem?_setIfInBounds_ne (by omega)]; exact h.bytes i hi
  · intro i hi
    rw [List.length_drop] at hi
    have h1 : ((f + m) % 128 + i) % 128 = (f + (m + i)) % 128 := by omega
    have h2 : (f + (m + i)) % 128 < 128 := Nat.mod_lt _ (by omega)
    rw [h1, Array.getElem?_setIfInBounds_ne (by omega), Array.getElem?_setIfInBounds_ne (by omega), List.getElem_drop]
    exact h.ring (m + i) (by omega)

def isEnd (row : List UInt8) (x : Int) : Bool := decide (row = [] ∧ x = 0)
theorem isEnd_true {row : List UInt8} {x : Int} (h : row = []) (hx : x = 0) : isEnd row x = true := by simp [isEnd, h, hx]
theorem isEnd_x {row : List UInt8} {x : Int} (hx : ¬ x = 0) : isEnd row x = false := by simp [isEnd, hx]
theorem isEnd_r {row : List UInt8} {x : Int} (h : ¬ row = []) : isEnd row x = false := by simp [isEnd, h]
def rdN (n : Int) (len : Nat) : Nat := (max 0 (min n len)).toNat

set_option maxHeartbeats 400000 in
theorem read_any (b : Nat) (n : Int) (row : List UInt8) (f : Nat) (r x : Int) (cs : Array Value) (w : World) (hb : Blk w b 49 cs) (hp : PipeCs cs f row r x) :
    Calls Try.prog 9 #[.pointer (some ⟨b, 0, none⟩), .int .i64 n] w fun e w' => e = .returned (.tuple #[.string ⟨(row.take (rdN n row.length)).toArray⟩, .bool (isEnd (row.drop (rdN n row.length)) x)]) ∧
      ∃ cs' f', Blk w' b 49 cs' ∧ PipeCs cs' f' (row.drop (rdN n row.length)) r x ∧ w.grownBy w' (some b) := by
  have hf := hp.hf
  have hl := hp.hl
  have g0 : w.cell? ⟨b, 128, none⟩ = _ := (hb.cell 128).trans hp.c0
  have g1 : w.cell? ⟨b, 129, none⟩ = _ := (hb.cell 129).trans hp.c1
  obtain ⟨m, hm⟩ : ∃ m, m = rdN n row.length := ⟨_, rfl⟩
  have hm1 : m ≤ row.length := by rw [hm]; unfold rdN; omega
  rw [← hm]
  have Hn := hide hm
  have Hb := hide hb
  have Hp := hide hp
  have hblt := hb.lt
  clear hm hb hp
  have hmk := fun w' => run_make_row' (P := Try.prog) 50 5 (.int .u8 0) 1 Try.underlying50 info5 rfl .i64 .i64 m (by omega) (by omega) w'
  go_enter Try.func9, Try.ntmps9
  go_wp2_with (first
    | ((with_reducible refine wpList_min (min n row.length) ?m1 ?n1 ?hx1 ?hy1 ?hk1 ?_); (case hx1 => exact rfl); (case hy1 => exact rfl); (case hk1 => exact rfl))
    | ((with_reducible refine wpList_max m ?m2 ?n2 ?hx2 ?hy2 ?hk2 ?_); (case hx2 => exact rfl); (case hy2 => exact rfl); (case hk2 => have := Hn.out; unfold rdN at this; omega)))
  clear hmk g0 g1
  have hrow0 : (w.alloc (.cells (madeCells #[.int .u8 0] m) 5)).rowIs w.heap.size 5 m (fun j => if j < 0 then .int .u8 (row.getD j 0).toNat else .int .u8 0) := by
    simpa using World.rowIs_made w (.int .u8 0) m 5
  have Hrow0 := hide hrow0
  clear hrow0
  go_loopw [18] (fun v wr => ∃ k : Nat, k ≤ m ∧ v = .int .i64 k ∧ Blk wr b 49 cs ∧ wr.rowIs w.heap.size 5 m (fun j => if j < k then .int .u8 (row.getD j 0).toNat else .int .u8 0) ∧ w.grownBy wr none) (fun v _ => m - (intOf v).toNat)
  case atStart => exact ⟨0, by omega, rfl, Hb.out.alloc _, Hrow0.out, only_alloc (only_refl _ _) _⟩
  case round =>
    obtain ⟨k, hk, rfl, hb', hrow, hg⟩ := hrel
    have hp := Hp.out
    have g0 : wr.cell? ⟨b, 128, none⟩ = _ := (hb'.cell 128).trans hp.c0
    have g1 : wr.cell? ⟨b, 129, none⟩ = _ := (hb'.cell 129).trans hp.c1
    have z0 : wr.frozen? ⟨b, 128, none⟩ = false := hb'.frozen 128
    have z1 : wr.frozen? ⟨b, 129, none⟩ = false := hb'.frozen 129
    by_cases hlt : k < m
    · have hm : (f + k) % 128 < 128 := Nat.mod_lt _ (by omega)
      have hkr : k < row.length := by omega
      have g3 : wr.cell? ⟨b, (f + k) % 128, none⟩ = some (.int .u8 row[k].toNat) := (hb'.cell _).trans (hp.ring k hkr)
      have g4 : wr.cell? ⟨w.heap.size, k, none⟩ = some (.int .u8 0) := by rw [hrow.cell hlt]; simp
      have z4 : wr.frozen? ⟨w.heap.size, k, none⟩ = false := hrow.frozen k
      have Hst := hide (hb'.far (p := ⟨w.heap.size, k, none⟩) (Nat.ne_of_lt hblt) (.int .u8 row[k].toNat))
      have Hrow := hide (hrow.set k (.int .u8 row[k].toNat))
      have Hg := hide (none_setCell hg (p := ⟨w.heap.size, k, none⟩) (Nat.le_refl _) (.int .u8 row[k].toNat))
      have Hne : Hid (b ≠ w.heap.size) := hide (Nat.ne_of_lt hblt)
      clear hb' hrow hg hp
      go_wp2
      refine wp_region_qtail 15 (by kernel_rfl) (by kernel_rfl) ?_
      simp only [List.take_succ_cons, List.take_zero, List.drop_succ_cons, List.drop_zero]
      repeat (go_big_quiet_step (fail))
      refine wpQuiet_nil ?_
      rintro _ ⟨nq, rfl⟩
      go_wp2
      go_roundw
      case rel =>
        refine ⟨k + 1, by omega, by go_num, Hst.out.drewN _, ?_, only_drewN Hg.out _⟩
        have h := Hrow.out
        exact h.congr (fun i _ => by
          by_cases e : i = k
          · subst e; simp [hkr]
          · by_cases e2 : i < k
            · simp [e, e2, show i < k + 1 by omega]
            · simp [e, e2, show ¬ i < k + 1 by omega])
      case measure => simp [intOf]; omega
    · obtain rfl : k = m := by omega
      have g3 : wr.cell? ⟨b, 131, none⟩ = some (.int .i64 x) := (hb'.cell _).trans hp.c3
      have Hp' := hide (hp.readDone hm1)
      have Hb' := hide ((hb'.set_ 128 (.int .i64 (((f + k) % 128 : Nat)))).set_ 129 (.int .i64 ((row.length : Int) - k)))
      have hrow' : ((wr.setCell ⟨b, 128, none⟩ (.int .i64 (((f + k) % 128 : Nat)))).setCell ⟨b, 129, none⟩ (.int .i64 ((row.length : Int) - k))).rowIs w.heap.size 5 k (fun j => if j < k then .int .u8 (row.getD j 0).toNat else .int .u8 0) :=
        (hrow.setOther (a := ⟨b, 128, none⟩) (Nat.ne_of_gt hblt) _).setOther (a := ⟨b, 129, none⟩) (Nat.ne_of_gt hblt) _
      have hcv : ∀ w', (∃ n, w' = ((wr.setCell ⟨b, 128, none⟩ (.int .i64 (((f + k) % 128 : Nat)))).setCell ⟨b, 129, none⟩ (.int .i64 ((row.length : Int) - k))).drewN n) →
          (convert 50 9 (.slice (some ⟨w.heap.size, 0, none⟩) k k)).run Try.prog w' = .ok (.string ⟨(row.take k).toArray⟩) w' := by
        rintro _ ⟨n, rfl⟩
        have h := run_string_of_bytes (P := Try.prog) (((wr.setCell ⟨b, 128, none⟩ (.int .i64 (((f + k) % 128 : Nat)))).setCell ⟨b, 129, none⟩ (.int .i64 ((row.length : Int) - k))).drewN n) Try.underlying50 Try.underlying5 Try.underlying9 ⟨w.heap.size, 0, none⟩ (row.take k) k (by
          intro i hi
          rw [Addr.add_lit, Nat.zero_add]
          have hi' : i < k := by rw [List.length_take] at hi; omega
          refine (hrow'.cell hi').trans ?_
          simp [hi', List.getD_eq_getElem?_getD, show i < row.length by omega])
        rw [List.length_take, Nat.min_eq_left hm1] at h
        exact h
      have Hcv := hide hcv
      have Hg := hide (only_setCell (only_setCell (only_of_none hg (some b)) (p := ⟨b, 128, none⟩) (.inl rfl) (.int .i64 (((f + k) % 128 : Nat)))) (p := ⟨b, 129, none⟩) (.inl rfl) (.int .i64 ((row.length : Int) - k)))
      clear hb' hrow hg hp hrow' hcv
      by_cases hend : row.length = k
      · subst hend
        simp only [Int.sub_self] at Hb' Hg Hcv Hp'
        have hd : row.drop row.length = [] := by simp
        have Hd := hide hd
        clear hd
        by_cases hx : x = 0
        · have e2 : (x == 0) = true := by simp [hx]
          have Hx := hide hx
          clear hx
          go_wp2
          refine wp_region_quiet_lit (by kernel_rfl) (by kernel_rfl) ?_
          repeat (first | ((with_reducible refine wpQuiet_convert (.string ⟨(row.take row.length).toArray⟩) ?hr ?_); (case hr => exact Hcv.out); simp only [Act.put, List.setIfInBounds_toArray, List.set_cons_zero, List.set_cons_succ]) | go_big_quiet_step (fail))
          refine wpQuiet_nil ?_
          rintro _ ⟨nq, rfl⟩
          go_wp2
          go_ret2
          exact ⟨by rw [isEnd_true Hd.out Hx.out]; rfl, _, _, Hb'.out.drewN _, Hp'.out, only_drewN Hg.out _⟩
        · have e2 : (x == 0) = false := by simp [hx]
          have Hx := hide hx
          clear hx
          go_wp2
          refine wp_region_quiet_lit (by kernel_rfl) (by kernel_rfl) ?_
          repeat (first | ((with_reducible refine wpQuiet_convert (.string ⟨(row.take row.length).toArray⟩) ?hr ?_); (case hr => exact Hcv.out); simp only [Act.put, List.setIfInBounds_toArray, List.set_cons_zero, List.set_cons_succ]) | go_big_quiet_step (fail))
          refine wpQuiet_nil ?_
          rintro _ ⟨nq, rfl⟩
          go_wp2
          go_ret2
          exact ⟨by rw [isEnd_x Hx.out]; rfl, _, _, Hb'.out.drewN _, Hp'.out, only_drewN Hg.out _⟩
      · have e1 : ((row.length : Int) - k == 0) = false := by simp; omega
        have Hd := hide (show row.drop k ≠ [] by simp; omega)
        go_wp2
        refine wp_region_quiet_lit (by kernel_rfl) (by kernel_rfl) ?_
        repeat (first | ((with_reducible refine wpQuiet_convert (.string ⟨(row.take k).toArray⟩) ?hr ?_); (case hr => exact Hcv.out); simp only [Act.put, List.setIfInBounds_toArray, List.set_cons_zero, List.set_cons_succ]) | go_big_quiet_step (fail))
        refine wpQuiet_nil ?_
        rintro _ ⟨nq, rfl⟩
        go_wp2
        go_ret2
        exact ⟨by rw [isEnd_r Hd.out]; rfl, _, _, Hb'.out.drewN _, Hp'.out, only_drewN Hg.out _⟩

end Go.Proofs.Ytlidkcbjahaahaa
