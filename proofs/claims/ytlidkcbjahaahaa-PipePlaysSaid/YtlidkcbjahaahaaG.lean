/- The walk of PipePlays: whatever the steps, it answers true and changes nothing that was there. -/
import Derived.Test.YtlidkcbjahaahaaF
namespace Go.Proofs.Ytlidkcbjahaahaa
open Go.RowKit

/-- What the law reads: Op number i of the slice. -/
def OpsIn (w : World) (a : Option Addr) (len : Nat) : Prop :=
  ∀ i, i < len → ∃ b off k n c s, a = some ⟨b, off, none⟩ ∧ b < w.heap.size ∧ (s : ByteArray).size ≤ maxLen ∧ w.cell? ⟨b, off + i * 4, none⟩ = some (.int .i64 k) ∧ w.cell? ⟨b, off + i * 4 + 1, none⟩ = some (.int .i64 n) ∧
    w.cell? ⟨b, off + i * 4 + 2, none⟩ = some (.bool c) ∧ w.cell? ⟨b, off + i * 4 + 3, none⟩ = some (.string s)

structure PlaysRel (B : Nat) (w wr : World) (bp br : Nat) (k : Nat) (row : List UInt8) (r x : Int) : Prop where
  hp : PipeIs wr bp row r x
  hr : RefIs wr br ⟨row.toArray⟩ r x
  below : Below B w wr
  bnd : 0 ≤ r ∧ r ≤ k + 1 ∧ 0 ≤ x ∧ x ≤ k + 1
  ne : bp ≠ br ∧ B ≤ bp ∧ B ≤ br

/-- In the middle of a round: the pipe and the reference each in its state, the step's own variable. -/
structure Mid (B : Nat) (w wr : World) (bp br lb : Nat) (row : List UInt8) (r x : Int) (row2 : List UInt8) (r2 x2 : Int) (K n : Int) (c : Bool) (s : ByteArray) : Prop where
  hp : PipeIs wr bp row r x
  hr : RefIs wr br ⟨row2.toArray⟩ r2 x2
  below : Below B w wr
  ne : bp ≠ br ∧ B ≤ bp ∧ B ≤ br
  loc : Blk wr lb 42 #[.int .i64 K, .int .i64 n, .bool c, .string s]
  nel : lb ≠ bp ∧ lb ≠ br

theorem Mid.start {B w wr bp br k row r x} (h : PlaysRel B w wr bp br k row r x) (hB : B ≤ wr.heap.size) (K n : Int) (c : Bool) (s : ByteArray) :
    Mid B w (wr.alloc (.cells #[.int .i64 K, .int .i64 n, .bool c, .string s] 42)) bp br wr.heap.size row r x row r x K n c s := by
  have h1 := h.hp.lt
  have h2 : br < wr.heap.size := Blk.lt h.hr
  exact ⟨h.hp.grown (only_alloc (only_refl _ none) _) (by simp), Blk.alloc h.hr _, h.below.alloc hB _, h.ne, Blk.new _ _ _, by omega, by omega⟩

theorem Mid.pipe {B w wr w' bp br lb row r x row2 r2 x2 K n c s row' r' x'} (h : Mid B w wr bp br lb row r x row2 r2 x2 K n c s) (hB : B ≤ w.heap.size) (hp : PipeIs w' bp row' r' x') (hg : wr.grownBy w' (some bp)) :
    Mid B w w' bp br lb row' r' x' row2 r2 x2 K n c s :=
  ⟨hp, Blk.grown h.hr hg (by have := h.ne; simp; omega), below_only h.below (Nat.le_trans hB h.below.size) h.ne.2.1 hg, h.ne, h.loc.grown hg (by have := h.nel; simp; omega), h.nel⟩
theorem Mid.same {B w wr w' bp br lb row r x row2 r2 x2 K n c s} (h : Mid B w wr bp br lb row r x row2 r2 x2 K n c s) (hB : B ≤ w.heap.size) (hg : wr.grownBy w' none) :
    Mid B w w' bp br lb row r x row2 r2 x2 K n c s :=
  ⟨h.hp.grown hg (by simp), Blk.grown h.hr hg (by simp), below_none h.below (Nat.le_trans hB h.below.size) hg, h.ne, h.loc.grown hg (by simp), h.nel⟩
theorem Mid.ref {B w wr w' bp br lb row r x row2 r2 x2 K n c s row' r' x'} (h : Mid B w wr bp br lb row r x row2 r2 x2 K n c s) (hB : B ≤ w.heap.size) (hp : RefIs w' br ⟨row'.toArray⟩ r' x') (hg : wr.grownBy w' (some br)) :
    Mid B w w' bp br lb row r x row' r' x' K n c s :=
  ⟨h.hp.grown hg (by have := h.ne; simp; omega), hp, below_only h.below (Nat.le_trans hB h.below.size) h.ne.2.2 hg, h.ne, h.loc.grown hg (by have := h.nel; simp; omega), h.nel⟩
theorem Mid.drew {B w wr bp br lb row r x row2 r2 x2 K n c s} (h : Mid B w wr bp br lb row r x row2 r2 x2 K n c s) (hB : B ≤ w.heap.size) : Mid B w wr.drew bp br lb row r x row2 r2 x2 K n c s :=
  h.same hB (only_drew (only_refl _ _))
theorem Mid.done {B w wr bp br lb row r x K n c s} (h : Mid B w wr bp br lb row r x row r x K n c s) {k : Nat} (hb : 0 ≤ r ∧ r ≤ k + 1 ∧ 0 ≤ x ∧ x ≤ k + 1) : PlaysRel B w wr bp br k row r x :=
  ⟨h.hp, h.hr, h.below, hb, h.ne⟩

theorem ref_write_row (b : Nat) (s : ByteArray) (row : List UInt8) (ht : row.length ≤ 128) (r x : Int) (w : World) (hp : RefIs w b ⟨row.toArray⟩ r x) (hr : (r == 0) = false) :
    Calls Try.prog 16 #[.pointer (some ⟨b, 0, none⟩), .string s] w fun e w' => e = .returned (.tuple #[.int .i64 (min s.size (128 - row.length) : Nat), .int .i64 0]) ∧
      RefIs w' b ⟨(row ++ s.data.toList.take (128 - row.length)).toArray⟩ r x ∧ w.grownBy w' (some b) := by
  have e : (⟨row.toArray⟩ : ByteArray).size = row.length := by simp [ByteArray.size_mk']
  have h := ref_write b s ⟨row.toArray⟩ (by rw [e]; exact ht) r x w hp hr
  rw [e] at h
  exact h

set_option maxRecDepth 100000 in
set_option maxHeartbeats 1000000 in
theorem plays_any (a : Option Addr) (len cap : Nat) (hlen : len ≤ 9223372036854775807) (w : World) (ha : OpsIn w a len) :
    Calls Try.prog 5 #[.slice a len cap] w fun e w' => e = .returned (.bool true) ∧ Below w.heap.size w w' := by
  have Ha := hide ha
  clear ha
  go_enter Try.func5, Try.ntmps5
  go_wp2_with (first
    | (go_at_call 6; refine (shown_any _).mono ?_; rintro e w1 ⟨rfl, hg⟩; (have Hg1 := hide hg; clear hg))
    | (go_at_call 7; refine (new_pipe _).mono ?_; rintro e w2 ⟨rfl, hp, hg, hz⟩; (have Hp := hide hp; have Hg2 := hide hg; have Hz := hide hz; clear hp hg hz))
    | (go_at_call 13; refine (ref_new _).mono ?_; rintro e w3 ⟨rfl, hp, hg, hz⟩; (have Hr := hide hp; have Hg3 := hide hg; have Hz3 := hide hz; clear hp hg hz)))
  have hrel0 : PlaysRel w.heap.size w w3 w1.heap.size w2.heap.size 0 [] 1 1 := by
    have h1 := Hg1.out; have h2 := Hg2.out; have h3 := Hg3.out
    have hp := Hp.out
    have z1 := h1.size
    have z2 := Hz.out
    refine ⟨?_, Hr.out, ?_, by omega, by omega⟩
    · obtain ⟨cs, f, hb, hc⟩ := hp
      exact ⟨cs, f, hb.grown h3 (by simp), hc⟩
    · exact below_none (below_none (below_of_none h1) h1.size h2) (by have := h2.size; omega) h3
  have Hrel0 := hide hrel0
  clear hrel0 Hp Hr Hg1 Hg2 Hg3 Hz Hz3
  generalize hbp : w1.heap.size = bp at *
  generalize hbr : w2.heap.size = br at *
  clear hbp hbr
  go_loopw [6] (fun v wr => ∃ (k : Nat) (row : List UInt8) (r x : Int), v = .int .i64 k ∧ k ≤ 200 ∧ PlaysRel w.heap.size w wr bp br k row r x) (fun v _ => 200 - (intOf v).toNat)
  case atStart => exact ⟨0, [], 1, 1, rfl, by omega, Hrel0.out⟩
  case round =>
    obtain ⟨k, row, r, x, rfl, hk200, hR⟩ := hrel
    by_cases hlt : k < len
    · by_cases hlt2 : k < 200
      · obtain ⟨b, off, kk, n, c, s, rfl, hb, hs, c0, c1, c2, c3⟩ := Ha.out k hlt
        have hbe := hR.below
        have g0 : wr.cell? ⟨b, off + k * 4, none⟩ = _ := (hbe.cell (p := ⟨b, _, none⟩) hb).trans c0
        have g1 : wr.cell? ⟨b, off + k * 4 + 1, none⟩ = _ := (hbe.cell (p := ⟨b, _, none⟩) hb).trans c1
        have g2 : wr.cell? ⟨b, off + k * 4 + 2, none⟩ = _ := (hbe.cell (p := ⟨b, _, none⟩) hb).trans c2
        have g3 : wr.cell? ⟨b, off + k * 4 + 3, none⟩ = _ := (hbe.cell (p := ⟨b, _, none⟩) hb).trans c3
        have hB : w.heap.size ≤ w.heap.size := Nat.le_refl _
        have M0 := hide (Mid.start hR hbe.size kk n c s)
        have hbnd := hR.bnd
        obtain ⟨b1, b2, b3, b4⟩ := hbnd
        clear hR hbe c0 c1 c2 c3
        by_cases h1 : kk = 1
        · subst h1
          go_wp2_with (first
            | (go_at_call 12; refine (join_pipe _ _ _ _ _ _ M0.out.hp (by omega) (by omega)).mono ?_; rintro e w4 ⟨rfl, hp, hg⟩; (have M1 := hide (M0.out.pipe hB hp hg); have q2 := M1.out.loc.cell 2; clear hp hg))
            | (go_at_call 14; refine (ref_join _ _ _ _ _ _ M1.out.hr (by omega) (by omega)).mono ?_; rintro e w5 ⟨rfl, hp, hg⟩; (have M2 := hide (M1.out.ref hB hp hg); clear hp hg q2))
            | (go_at_call 10; refine (state_pipe _ _ _ _ _ M2.out.hp).mono ?_; rintro e w6 ⟨rfl, hp, hg⟩; (have M3 := hide (M2.out.same hB hg); have q0 := Blk.cell M3.out.hr 0; have q1 := Blk.cell M3.out.hr 1; have q2 := Blk.cell M3.out.hr 2; clear hp hg)))
          go_roundw
          case rel => exact ⟨k + 1, row, _, _, by go_num, by omega, M3.out.done (by unfold addIf; cases c <;> simp <;> omega)⟩
          case measure => simp [intOf]; omega
        · have e1 : (kk == 1) = false := by simp [h1]
          clear h1
          by_cases h2 : kk = 2
          · subst h2
            clear e1
            by_cases hn : ((if c then x else r) == 0) = true
            · have Hn := hide hn
              clear hn
              go_wp2
              have M0 := hide (M0.out.drew hB)
              go_region_with (first
                | (go_at_call 11; refine (leave_no _ _ _ _ _ _ M0.out.hp Hn.out).mono ?_; rintro e w4 ⟨rfl, hp, hg⟩; (have M1 := hide (M0.out.pipe hB hp hg); have q2 := M1.out.loc.cell 2; clear hp hg))
                | (go_at_call 15; refine (ref_leave_no _ _ _ _ _ _ M1.out.hr Hn.out).mono ?_; rintro e w5 ⟨rfl, hp, hg⟩; (have M2 := hide (M1.out.ref hB hp hg); clear hp hg)))
              all_goals
                (go_wp2_with (go_at_call 10; refine (state_pipe _ _ _ _ _ M2.out.hp).mono ?_; rintro e w6 ⟨rfl, hp, hg⟩; (have M3 := hide (M2.out.same hB hg); have q0 := Blk.cell M3.out.hr 0; have q1 := Blk.cell M3.out.hr 1; have q2 := Blk.cell M3.out.hr 2; clear hp hg)))
                go_roundw
                case rel => exact ⟨k + 1, _, _, _, by go_num, by omega, M3.out.done ⟨by omega, by omega, by omega, by omega⟩⟩
                case measure => simp [intOf]; omega
            · have hn' : ((if c then x else r) == 0) = false := by simpa using hn
              have Hn := hide hn'
              clear hn hn'
              go_wp2
              have M0 := hide (M0.out.drew hB)
              go_region_with (first
                | (go_at_call 11; refine (leave_yes _ _ _ _ _ _ M0.out.hp (by omega) (by omega) Hn.out).mono ?_; rintro e w4 ⟨rfl, hp, hg⟩; (have M1 := hide (M0.out.pipe hB hp hg); have q2 := M1.out.loc.cell 2; clear hp hg))
                | (go_at_call 15; refine (ref_leave_yes _ _ _ _ _ _ M1.out.hr (by omega) (by omega) Hn.out).mono ?_; rintro e w5 ⟨rfl, hp, hg⟩; (have M2 := hide (M1.out.ref hB hp hg); clear hp hg)))
              all_goals
                (go_wp2_with (go_at_call 10; refine (state_pipe _ _ _ _ _ M2.out.hp).mono ?_; rintro e w6 ⟨rfl, hp, hg⟩; (have M3 := hide (M2.out.same hB hg); have q0 := Blk.cell M3.out.hr 0; have q1 := Blk.cell M3.out.hr 1; have q2 := Blk.cell M3.out.hr 2; clear hp hg)))
                go_roundw
                case rel => exact ⟨k + 1, _, _, _, by go_num, by omega, M3.out.done (by have h := Hn.out; revert h; unfold addIf; cases c <;> simp <;> omega)⟩
                case measure => simp [intOf]; omega
          · have e2 : (kk == 2) = false := by simp [h2]
            clear h2
            by_cases h3 : kk = 3
            · subst h3
              clear e1 e2
              by_cases hr0 : r = 0
              · subst hr0
                go_wp2_with (first
                  | (go_at_call 8; refine (write_broken _ _ _ _ _ M0.out.hp).mono ?_; rintro e w4 ⟨rfl, rfl⟩; (have q3 := M0.out.loc.cell 3))
                  | (go_at_call 16; refine (ref_broken _ _ _ _ _ M0.out.hr).mono ?_; rintro e w5 ⟨rfl, rfl⟩; (have M2 := hide M0.out; clear q3))
                  | (go_at_call 10; refine (state_pipe _ _ _ _ _ M2.out.hp).mono ?_; rintro e w6 ⟨rfl, hp, hg⟩; (have M3 := hide (M2.out.same hB hg); have q0 := Blk.cell M3.out.hr 0; have q1 := Blk.cell M3.out.hr 1; have q2 := Blk.cell M3.out.hr 2; clear hp hg)))
                go_roundw
                case rel => exact ⟨k + 1, _, _, _, by go_num, by omega, M3.out.done ⟨by omega, by omega, by omega, by omega⟩⟩
                case measure => simp [intOf]; omega
              · have hr1 : (r == 0) = false := by simp [hr0]
                have Hr1 := hide hr1
                have hl := M0.out.hp.len
                clear hr0 hr1
                go_wp2_with (first
                  | (go_at_call 8; refine (write_pipe _ _ hs _ _ _ _ M0.out.hp Hr1.out).mono ?_; rintro e w4 ⟨rfl, hp, hg⟩; (have M1 := hide (M0.out.pipe hB hp hg); have q3 := M1.out.loc.cell 3; clear hp hg))
                  | (go_at_call 16; refine (ref_write_row _ _ _ hl _ _ _ M1.out.hr Hr1.out).mono ?_; rintro e w5 ⟨rfl, hp, hg⟩; (have M2 := hide (M1.out.ref hB hp hg); clear hp hg q3))
                  | (go_at_call 10; refine (state_pipe _ _ _ _ _ M2.out.hp).mono ?_; rintro e w6 ⟨rfl, hp, hg⟩; (have M3 := hide (M2.out.same hB hg); have q0 := Blk.cell M3.out.hr 0; have q1 := Blk.cell M3.out.hr 1; have q2 := Blk.cell M3.out.hr 2; clear hp hg)))
                go_roundw
                case rel => exact ⟨k + 1, _, _, _, by go_num, by omega, M3.out.done ⟨by omega, by omega, by omega, by omega⟩⟩
                case measure => simp [intOf]; omega
            · have e3 : (kk == 3) = false := by simp [h3]
              have hl := M0.out.hp.len
              clear h3
              go_wp2_with (first
                | (go_at_call 9; refine (read_pipe _ _ _ _ _ _ M0.out.hp).mono ?_; rintro e w4 ⟨rfl, hp, hg⟩; (have M1 := hide (M0.out.pipe hB hp hg); have q1 := M1.out.loc.cell 1; clear hp hg))
                | (go_at_call 17; refine (ref_read _ _ _ hl _ _ _ M1.out.hr).mono ?_; rintro e w5 ⟨rfl, hp, hg⟩; (have M2 := hide (M1.out.ref hB hp hg); clear hp hg q1))
                | (go_at_call 10; refine (state_pipe _ _ _ _ _ M2.out.hp).mono ?_; rintro e w6 ⟨rfl, hp, hg⟩; (have M3 := hide (M2.out.same hB hg); have q0 := Blk.cell M3.out.hr 0; have q1 := Blk.cell M3.out.hr 1; have q2 := Blk.cell M3.out.hr 2; clear hp hg)))
              go_roundw
              case rel => exact ⟨k + 1, _, _, _, by go_num, by omega, M3.out.done ⟨by omega, by omega, by omega, by omega⟩⟩
              case measure => simp [intOf]; omega
      · have : k = 200 := by omega
        subst this
        have Hb := hide hR.below
        clear hR
        go_wp2
        go_ret
        exact ⟨rfl, Hb.out⟩
    · have Hb := hide hR.below
      clear hR
      go_wp2
      go_ret
      exact ⟨rfl, Hb.out⟩

end Go.Proofs.Ytlidkcbjahaahaa
