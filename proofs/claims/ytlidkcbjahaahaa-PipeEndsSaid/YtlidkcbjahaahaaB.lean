/- Walks of the pipe: one more user, a new pipe, and Write of any text. -/
import Derived.Test.YtlidkcbjahaahaaKit
namespace Go.Proofs.Ytlidkcbjahaahaa
open Go.RowKit

set_option maxHeartbeats 400000 in
theorem side_any (x : Bool) (w : World) :
    Calls Try.prog 18 #[.bool x] w fun e w' => e = .returned (.int .i64 (if x then 1 else 0)) ∧ w' = w := by
  cases x
  all_goals
    go_enter Try.func18, Try.ntmps18
    go_wp2
    go_ret
    exact ⟨rfl, rfl⟩

set_option maxHeartbeats 400000 in
theorem join_t (b : Nat) (x : Int) (w : World) (hc : w.cell? ⟨b, 131, none⟩ = some (.int .i64 x)) (hf : w.frozen? ⟨b, 131, none⟩ = false) :
    Calls Try.prog 12 #[.pointer (some ⟨b, 0, none⟩), .bool true] w fun e w' => e = .returned (.tuple #[]) ∧ ∃ n, w' = (w.drewN n).setCell ⟨b, 131, none⟩ (.int .i64 (wrap64 (x + 1))) := by
  go_enter Try.func12, Try.ntmps12
  go_wp2
  refine wp_region_qtail 11 (by kernel_rfl) (by kernel_rfl) ?_
  simp only [List.take_succ_cons, List.take_zero, List.drop_succ_cons, List.drop_zero]
  repeat (go_big_quiet_step ((go_at_call 18; exact Calls.quiet_of_same (side_any _ _))))
  refine wpQuiet_nil ?_
  rintro _ ⟨nq, rfl⟩
  go_wp2
  go_returns
  exact ⟨rfl, _, rfl⟩


def pipe0 : Array Value := Array.replicate 128 (.int .u8 0) ++ #[.int .i64 0, .int .i64 0, .int .i64 1, .int .i64 1]
set_option maxHeartbeats 400000 in
theorem new_any (w : World) :
    Calls Try.prog 7 #[] w fun e w' => e = .returned (.pointer (some ⟨w.heap.size, 0, none⟩)) ∧ w' = w.alloc (.cells pipe0 49) := by
  go_enter Try.func7, Try.ntmps7
  go_wp2_with (first
    | (refine wpList_val (o := ⟨some 2, _, _, _, _, _⟩) (.agg pipe0) w rfl (by kernel_rfl) ?_)
    | (refine wpList_val (o := ⟨some 3, _, _, _, _, _⟩) (.pointer (some ⟨w.heap.size, 0, none⟩)) (w.alloc (.cells pipe0 49)) rfl (by kernel_rfl) ?_))
  go_ret
  exact ⟨rfl, rfl⟩


structure PipeCs (cs : Array Value) (f : Nat) (row : List UInt8) (r x : Int) : Prop where
  size : cs.size = 132
  hf : f < 128
  hl : row.length ≤ 128
  c0 : cs[128]? = some (.int .i64 (f : Nat))
  c1 : cs[129]? = some (.int .i64 (row.length : Nat))
  c2 : cs[130]? = some (.int .i64 r)
  c3 : cs[131]? = some (.int .i64 x)
  bytes : ∀ i, i < 128 → ∃ u : UInt8, cs[i]? = some (.int .u8 u.toNat)
  ring : ∀ i (h : i < row.length), cs[(f + i) % 128]? = some (.int .u8 row[i].toNat)

/-- The loop of Write, k bytes of s being laid. -/
structure WrCs (cs : Array Value) (f : Nat) (row : List UInt8) (r x : Int) (s : ByteArray) (k : Nat) : Prop where
  size : cs.size = 132
  c0 : cs[128]? = some (.int .i64 (f : Nat))
  c1 : cs[129]? = some (.int .i64 (row.length : Nat))
  c2 : cs[130]? = some (.int .i64 r)
  c3 : cs[131]? = some (.int .i64 x)
  bytes : ∀ i, i < 128 → ∃ u : UInt8, cs[i]? = some (.int .u8 u.toNat)
  ring : ∀ i (h : i < row.length), cs[(f + i) % 128]? = some (.int .u8 row[i].toNat)
  more : ∀ i (h : i < s.size), i < k → cs[(f + row.length + i) % 128]? = some (.int .u8 s[i].toNat)


theorem WrCs.zero {cs f row r x} (hp : PipeCs cs f row r x) (s : ByteArray) : WrCs cs f row r x s 0 :=
  ⟨hp.size, hp.c0, hp.c1, hp.c2, hp.c3, hp.bytes, hp.ring, fun i _ h => absurd h (by omega)⟩

theorem WrCs.next {cs f row r x s k} (h : WrCs cs f row r x s k) (hk : k < s.size) (hl : row.length + k < 128) :
    WrCs (cs.setIfInBounds ((f + row.length + k) % 128) (.int .u8 s[k].toNat)) f row r x s (k + 1) := by
  have hm : (f + row.length + k) % 128 < 128 := Nat.mod_lt _ (by omega)
  refine ⟨by simp [h.size], ?_, ?_, ?_, ?_, ?_, ?_, ?_⟩
  · rw [Array.getElem?_setIfInBounds_ne (by omega)]; exact h.c0
  · rw [Array.getElem?_setIfInBounds_ne (by omega)]; exact h.c1
  · rw [Array.getElem?_setIfInBounds_ne (by omega)]; exact h.c2
  · rw [Array.getElem?_setIfInBounds_ne (by omega)]; exact h.c3
  · intro i hi
    by_cases e : (f + row.length + k) % 128 = i
    · subst e; exact ⟨s[k], by rw [Array.getElem?_setIfInBounds_self_of_lt (by rw [h.size]; omega)]⟩
    · rw [Array.getElem?_setIfInBounds_ne e]; exact h.bytes i hi
  · intro i hi
    rw [Array.getElem?_setIfInBounds_ne (by omega)]; exact h.ring i hi
  · intro i hi hik
    by_cases e : i = k
    · subst e; rw [Array.getElem?_setIfInBounds_self_of_lt (by rw [h.size]; omega)]
    · rw [Array.getElem?_setIfInBounds_ne (by omega)]; exact h.more i hi (by omega)

theorem WrCs.done {cs0 cs f row r x s k} (h : WrCs cs f row r x s k) (hp : PipeCs cs0 f row r x) (hk : k = min s.size (128 - row.length)) :
    PipeCs (cs.setIfInBounds 129 (.int .i64 ((row.length : Int) + k))) f (row ++ s.data.toList.take (128 - row.length)) r x := by
  have hl := hp.hl
  have hlen : (row ++ s.data.toList.take (128 - row.length)).length = row.length + k := by
    rw [List.length_append, List.length_take, hk, Nat.min_comm]; rfl
  have hf := hp.hf
  refine ⟨by simp [h.size], hp.hf, by omega, ?_, ?_, ?_, ?_, ?_, ?_⟩
  · rw [Array.getElem?_setIfInBounds_ne (by omega)]; exact h.c0
  · rw [Array.getElem?_setIfInBounds_self_of_lt (by rw [h.size]; omega), hlen]; simp
  · rw [Array.getElem?_setIfInBounds_ne (by omega)]; exact h.c2
  · rw [Array.getElem?_setIfInBounds_ne (by omega)]; exact h.c3
  · intro i hi
    rw [Array.getElem?_setIfInBounds_ne (by omega)]; exact h.bytes i hi
  · intro i hi
    have hm : (f + i) % 128 < 128 := Nat.mod_lt _ (by omega)
    rw [Array.getElem?_setIfInBounds_ne (by omega)]
    by_cases e : i < row.length
    · rw [List.getElem_append_left e]; exact h.ring i e
    · rw [List.getElem_append_right (by omega), List.getElem_take]
      have h2 := h.more (i - row.length) (by omega) (by omega)
      rw [show f + row.length + (i - row.length) = f + i by omega] at h2
      exact h2

set_option maxHeartbeats 400000 in
theorem write_any (b : Nat) (s : ByteArray) (hs : s.size ≤ maxLen) (row : List UInt8) (f : Nat) (r x : Int) (cs : Array Value) (w : World) (hb : Blk w b 49 cs) (hp : PipeCs cs f row r x)
  (hr : (r == 0) = false) :
    Calls Try.prog 8 #[.pointer (some ⟨b, 0, none⟩), .string s] w fun e w' => e = .returned (.tuple #[.int .i64 (min s.size (128 - row.length) : Nat), .int .i64 0]) ∧
      ∃ cs', Blk w' b 49 cs' ∧ PipeCs cs' f (row ++ s.data.toList.take (128 - row.length)) r x ∧ w.grownBy w' (some b) := by
  have hf := hp.hf
  have hl := hp.hl
  have g0 : w.cell? ⟨b, 128, none⟩ = _ := (hb.cell 128).trans hp.c0
  have g1 : w.cell? ⟨b, 129, none⟩ = _ := (hb.cell 129).trans hp.c1
  have g2 : w.cell? ⟨b, 130, none⟩ = _ := (hb.cell 130).trans hp.c2
  unfold maxLen at hs
  obtain ⟨n, hn⟩ : ∃ n : Nat, n = min s.size (128 - row.length) := ⟨_, rfl⟩
  have hnl : n ≤ s.size ∧ n + row.length ≤ 128 := by omega
  obtain ⟨hn1, hn2⟩ := hnl
  have Hn := hide hn
  have Hb := hide hb
  have Hp := hide hp
  clear hn hb hp
  go_enter Try.func8, Try.ntmps8
  go_wp2_with ((with_reducible refine wpList_min n ?m1 ?n1 ?hx ?hy ?hk ?_); (case hx => exact rfl); (case hy => exact rfl); (case hk => have := Hn.out; omega))
  clear g0 g1 g2
  go_loopw [23] (fun v wr => ∃ k : Nat, k ≤ n ∧ v = .int .i64 k ∧ ∃ cs', Blk wr b 49 cs' ∧ WrCs cs' f row r x s k ∧ w.grownBy wr (some b)) (fun v _ => n - (intOf v).toNat)
  case atStart => exact ⟨0, by omega, rfl, cs, Hb.out, WrCs.zero Hp.out s, only_refl _ _⟩
  case round =>
    obtain ⟨k, hk, rfl, cs', hb', hw', hg⟩ := hrel
    have g0 : wr.cell? ⟨b, 128, none⟩ = _ := (hb'.cell 128).trans hw'.c0
    have g1 : wr.cell? ⟨b, 129, none⟩ = _ := (hb'.cell 129).trans hw'.c1
    have z1 : wr.frozen? ⟨b, 129, none⟩ = false := hb'.frozen 129
    by_cases hlt : k < n
    · have hks : k < s.size := by omega
      have hm : (f + row.length + k) % 128 < 128 := Nat.mod_lt _ (by omega)
      have hnx := hw'.next hks (by omega)
      obtain ⟨u, hu⟩ := hw'.bytes _ hm
      have hst := hb'.set_ ((f + row.length + k) % 128) (.int .u8 s[k].toNat)
      have g3 : wr.cell? ⟨b, (f + row.length + k) % 128, none⟩ = _ := (hb'.cell _).trans hu
      have z3 : wr.frozen? ⟨b, (f + row.length + k) % 128, none⟩ = false := hb'.frozen _
      have hgst : w.grownBy (wr.setCell ⟨b, (f + row.length + k) % 128, none⟩ (.int .u8 s[k].toNat)) (some b) := only_setCell hg (.inl rfl) _
      have Hnx := hide hnx
      have Hst := hide hst
      have Hg := hide hgst
      clear hb' hw' hg hnx hst hgst hu
      go_wp2
      refine wp_region_qtail 19 (by kernel_rfl) (by kernel_rfl) ?_
      simp only [List.take_succ_cons, List.take_zero, List.drop_succ_cons, List.drop_zero]
      repeat (go_big_quiet_step (fail))
      refine wpQuiet_nil ?_
      rintro _ ⟨nq, rfl⟩
      go_wp2
      go_roundw
      case rel => exact ⟨k + 1, by omega, by go_num, _, Hst.out.drewN _, Hnx.out, only_drewN Hg.out _⟩
      case measure => simp [intOf]; omega
    · have hst := hb'.set_ 129 (.int .i64 ((row.length : Int) + n))
      have hgst : w.grownBy (wr.setCell ⟨b, 129, none⟩ (.int .i64 ((row.length : Int) + n))) (some b) := only_setCell hg (.inl rfl) _
      have Hst := hide hst
      have Hg := hide hgst
      have Hw := hide hw'
      clear hb' hw' hg hst hgst
      go_wp2
      go_ret2
      obtain rfl : k = n := by omega
      refine ⟨by rw [← Hn.out]; rfl, _, Hst.out, Hw.out.done Hp.out Hn.out, Hg.out⟩

end Go.Proofs.Ytlidkcbjahaahaa
