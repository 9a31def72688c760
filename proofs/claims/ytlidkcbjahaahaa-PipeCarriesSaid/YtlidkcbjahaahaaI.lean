/- The walk of PipeCarries: whatever the texts and the numbers, it answers true. -/
import Derived.Test.YtlidkcbjahaahaaF
namespace Go.Proofs.Ytlidkcbjahaahaa
open Go.RowKit

def StrsIn (w : World) (a : Option Addr) (len : Nat) : Prop :=
  ∀ i, i < len → ∃ b off s, a = some ⟨b, off, none⟩ ∧ b < w.heap.size ∧ (s : ByteArray).size ≤ maxLen ∧ w.cell? ⟨b, off + i, none⟩ = some (.string s)
def IntsIn (w : World) (a : Option Addr) (len : Nat) : Prop :=
  ∀ i, i < len → ∃ b off z, a = some ⟨b, off, none⟩ ∧ b < w.heap.size ∧ w.cell? ⟨b, off + i, none⟩ = some (.int .i64 z)

structure CarRel (B : Nat) (w wr : World) (bp : Nat) (k : Nat) (I O : ByteArray) (row : List UInt8) : Prop where
  hp : PipeIs wr bp row 1 1
  below : Below B w wr
  le : B ≤ bp
  eq : I.data.toList = O.data.toList ++ row
  sz : I.size ≤ 128 * k

theorem CarRel.size {B w wr bp k I O row} (h : CarRel B w wr bp k I O row) : I.size = O.size + row.length := by
  have h1 := congrArg List.length h.eq
  rw [List.length_append] at h1
  exact h1

theorem CarRel.write {B w wr w' bp k I O row} (h : CarRel B w wr bp k I O row) (hB : B ≤ w.heap.size) (s : ByteArray) (n : Nat) (hn : n = min s.size (128 - row.length))
    (hp : PipeIs w' bp (row ++ s.data.toList.take (128 - row.length)) 1 1) (hg : wr.grownBy w' (some bp)) : CarRel B w w' bp (k + 1) (I ++ s.extract 0 n) O (row ++ s.data.toList.take (128 - row.length)) := by
  refine ⟨hp, below_only h.below (Nat.le_trans hB h.below.size) h.le hg, h.le, ?_, ?_⟩
  · rw [ByteArray.data_append, ByteArray.data_extract, Array.toList_append, Array.toList_extract, List.extract_eq_take_drop, List.drop_zero, Nat.sub_zero, h.eq, List.append_assoc]
    congr 2
    have hsz : s.data.toList.length = s.size := rfl
    by_cases h2 : s.size ≤ 128 - row.length
    · rw [List.take_of_length_le (by omega), List.take_of_length_le (by omega)]
    · rw [show n = 128 - row.length by omega]
  · have h1 := h.sz
    rw [ByteArray.size_append, ByteArray.size_extract]
    have h3 := Nat.min_le_left n s.size
    omega

theorem CarRel.read {B w wr w' bp k I O row} (h : CarRel B w wr bp k I O row) (hB : B ≤ w.heap.size) (m : Nat)
    (hp : PipeIs w' bp (row.drop m) 1 1) (hg : wr.grownBy w' (some bp)) : CarRel B w w' bp k I (O ++ ⟨(row.take m).toArray⟩) (row.drop m) := by
  refine ⟨hp, below_only h.below (Nat.le_trans hB h.below.size) h.le hg, h.le, ?_, h.sz⟩
  rw [ByteArray.data_append, Array.toList_append, List.append_assoc]
  show _ = _ ++ (row.take m ++ row.drop m)
  rw [List.take_append_drop]
  exact h.eq

theorem CarRel.same {B w wr w' bp k I O row} (h : CarRel B w wr bp k I O row) (hB : B ≤ w.heap.size) (hp : PipeIs w' bp row 1 1) (hg : wr.grownBy w' none) : CarRel B w w' bp k I O row :=
  ⟨hp, below_none h.below (Nat.le_trans hB h.below.size) hg, h.le, h.eq, h.sz⟩

theorem car_leave (b : Nat) (row : List UInt8) (w : World) (hp : PipeIs w b row 1 1) :
    Calls Try.prog 11 #[.pointer (some ⟨b, 0, none⟩), .bool true] w fun e w' => e = .returned (.bool true) ∧ PipeIs w' b row 1 0 ∧ w.grownBy w' (some b) :=
  leave_yes b true row 1 1 w hp (by omega) (by omega) rfl
theorem car_last (b : Nat) (row : List UInt8) (I O : ByteArray) (heq : I.data.toList = O.data.toList ++ row) (w : World) (hp : PipeIs w b row 1 0) :
    Calls Try.prog 9 #[.pointer (some ⟨b, 0, none⟩), .int .i64 1000] w fun e w' => ∃ t : ByteArray, ((O ++ t).toList == I.toList) = true ∧ t.size ≤ 128 ∧ e = .returned (.tuple #[.string t, .bool true]) ∧ w.grownBy w' (some b) := by
  refine (read_pipe b 1000 row 1 0 w hp).mono ?_
  have hl := hp.len
  have h0 : rdN 1000 row.length = row.length := by unfold rdN; omega
  rw [h0, List.take_length, List.drop_length]
  rintro e w' ⟨rfl, h1, h2⟩
  refine ⟨⟨row.toArray⟩, ?_, by simpa [ByteArray.size_mk'] using hl, rfl, h2⟩
  rw [beq_iff_eq, ByteArray.toList_eq, ByteArray.toList_eq, heq, ByteArray.data_append, Array.toList_append]

theorem car_read (b : Nat) (n : Int) (row : List UInt8) (w : World) (hp : PipeIs w b row 1 1) :
    Calls Try.prog 9 #[.pointer (some ⟨b, 0, none⟩), .int .i64 n] w fun e w' => ∃ t : ByteArray, Hid (t = ⟨(row.take (rdN n row.length)).toArray⟩) ∧ ((t.size : Int) ≤ max 0 n ∧ t.size ≤ 128) ∧ e = .returned (.tuple #[.string t, .bool false]) ∧
      PipeIs w' b (row.drop (rdN n row.length)) 1 1 ∧ w.grownBy w' (some b) := by
  have h := read_pipe b n row 1 1 w hp
  rw [isEnd_x (by omega)] at h
  refine h.mono ?_
  rintro e w' ⟨rfl, h1, h2⟩
  refine ⟨_, hide rfl, ?_, rfl, h1, h2⟩
  have hl := hp.len
  have hs : (ByteArray.mk (row.take (rdN n row.length)).toArray).size = min (rdN n row.length) row.length := by simp [ByteArray.size_mk']
  rw [hs]
  unfold rdN
  omega
theorem car_write (b : Nat) (s : ByteArray) (hs : s.size ≤ 1000) (row : List UInt8) (w : World) (hp : PipeIs w b row 1 1) (m : Nat) (hm : m = min s.size (128 - row.length)) :
    Calls Try.prog 8 #[.pointer (some ⟨b, 0, none⟩), .string s] w fun e w' => e = .returned (.tuple #[.int .i64 m, .int .i64 0]) ∧
      PipeIs w' b (row ++ s.data.toList.take (128 - row.length)) 1 1 ∧ w.grownBy w' (some b) := by
  have h1 := write_pipe b s (by unfold maxLen; omega) row 1 1 w hp rfl
  rw [← hm] at h1
  exact h1

set_option maxRecDepth 100000 in
set_option maxHeartbeats 2000000 in
theorem carries_any (a : Option Addr) (len cap : Nat) (hlen : len ≤ 9223372036854775807) (a2 : Option Addr) (len2 cap2 : Nat) (_hlen2 : len2 ≤ 9223372036854775807) (w : World) (ha : StrsIn w a len) (hi : IntsIn w a2 len2) :
    Calls Try.prog 3 #[.slice a len cap, .slice a2 len2 cap2] w fun e w' => e = .returned (.bool true) ∧ Below w.heap.size w w' := by
  have hB : w.heap.size ≤ w.heap.size := Nat.le_refl _
  have Ha := hide ha
  have Hi := hide hi
  clear ha hi
  go_enter Try.func3, Try.ntmps3
  go_wp2_with (first
    | (go_at_call 6; refine (shown_any _).mono ?_; rintro e w1 ⟨rfl, hg⟩; (have Hg1 := hide hg; clear hg))
    | (go_at_call 7; refine (new_pipe _).mono ?_; rintro e w2 ⟨rfl, hp, hg, hz⟩; (have Hp := hide hp; have Hg2 := hide hg; have Hz := hide hz; clear hp hg hz)))
  have hrel0 : CarRel w.heap.size w w2 w1.heap.size 0 ⟨#[]⟩ ⟨#[]⟩ [] :=
    ⟨Hp.out, below_none (below_of_none Hg1.out) Hg1.out.size Hg2.out, Hg1.out.size, rfl, by decide⟩
  have R0 := hide hrel0
  clear hrel0 Hp Hg1 Hg2 Hz
  generalize w1.heap.size = bp at *
  go_loopw [7, 8, 9] (fun vi vo v wr => ∃ (k : Nat) (I O : ByteArray) (row : List UInt8), v = .int .i64 k ∧ vi = .string I ∧ vo = .string O ∧ k ≤ 60 ∧ CarRel w.heap.size w wr bp k I O row) (fun _ _ v _ => 60 - (intOf v).toNat)
  case atStart => exact ⟨0, _, _, [], rfl, rfl, rfl, by omega, R0.out⟩
  case round =>
    obtain ⟨k, I, O, row, rfl, rfl, rfl, hk60, hR⟩ := hrel
    clear R0
    by_cases hlt : k < len
    · by_cases hlt2 : k < 60
      · obtain ⟨b, off, s, rfl, hb, hs, c0⟩ := Ha.out k hlt
        have g0 : wr.cell? ⟨b, off + k, none⟩ = _ := (hR.below.cell (p := ⟨b, _, none⟩) hb).trans c0
        have HR := hide hR
        clear hR c0
        unfold maxLen at hs
        go_upto_if 44 with (fail)
        go_cut [10] (fun v wc => ∃ s' : ByteArray, v = .string s' ∧ s'.size ≤ 1000 ∧ wc = wr)
        case first =>
          go_wp2
          · go_meet
            case rel => exact ⟨_, rfl, by rw [ByteArray.size_extract]; have h3 := Nat.min_le_left 1000 s.size; omega, rfl⟩
          · go_meet
            case rel => exact ⟨_, rfl, by omega, rfl⟩
        case rest =>
          obtain ⟨s', rfl, hs', rfl⟩ := hcut
          have hl := HR.out.hp.len
          have hI := HR.out.size
          have hI1 : I.size ≤ O.size + row.length := by omega
          have hI2 : O.size + row.length ≤ I.size := by omega
          have hI3 := HR.out.sz
          clear hI hs
          obtain ⟨m, hm⟩ : ∃ m, m = min s'.size (128 - row.length) := ⟨_, rfl⟩
          have Hm := hide hm
          have hm1 : m + row.length ≤ 128 := by omega
          have hm2 : m ≤ s'.size := by omega
          have hm3 : m < s'.size → 128 ≤ m + row.length := by omega
          clear hm
          have hq : m < s'.size → ((I.size : Int) - (O.size : Int) + (m : Int) != 128) = false := by intro h; have := hm3 h; simp; omega
          by_cases hfull : m < s'.size
          all_goals
            (try have hq1 := hq hfull)
            clear hq hm3
            go_upto_region 17 with (go_at_call 8; (with_reducible refine (car_write _ _ hs' _ _ HR.out.hp m Hm.out).mono ?_); rintro e w3 ⟨rfl, hp, hg⟩; (have R1 := hide (HR.out.write hB s' m Hm.out hp hg); clear hp hg))
            generalize I ++ s'.extract 0 m = I1 at R1 ⊢
            generalize row ++ List.take (128 - row.length) s'.data.toList = row1 at R1 ⊢
            (try clear hq1)
            clear hI1 hI2 hI3 hm1 hm2 hl hfull Hm HR
            have hl := R1.out.hp.len
            have hI := R1.out.size
            have hI1 : I1.size ≤ O.size + row1.length := by omega
            have hI2 : O.size + row1.length ≤ I1.size := by omega
            have hI3 := R1.out.sz
            clear hI
            by_cases hr : k < len2
            · obtain ⟨b2, off2, z, rfl, hb2, c2⟩ := Hi.out k hr
              have g2 : w3.cell? ⟨b2, off2 + k, none⟩ = _ := (R1.out.below.cell (p := ⟨b2, _, none⟩) hb2).trans c2
              have C2 := hide c2
              clear c2
              go_upto_region 22 with (go_at_call 9; (with_reducible refine (car_read _ _ _ _ R1.out.hp).mono ?_); rintro e w4 ⟨t, ht, ⟨ht1, ht2⟩, rfl, hp, hg⟩; (have R2 := hide (R1.out.read hB _ hp hg); rw [← ht.out] at R2; have g3 : w4.cell? ⟨b2, off2 + k, none⟩ = _ := (R2.out.below.cell (p := ⟨b2, _, none⟩) hb2).trans C2.out; clear hp hg))
              generalize O ++ t = O1 at R2 ⊢
              generalize List.drop (rdN z row1.length) row1 = row2 at R2 ⊢
              clear hI1 hI2 hI3 hl ht1 ht2 R1
              have hl := R2.out.hp.len
              have hI := R2.out.size
              have hI1 : I1.size ≤ O1.size + row2.length := by omega
              have hI2 : O1.size + row2.length ≤ I1.size := by omega
              have hI3 := R2.out.sz
              clear hI
              go_wp2_with (go_at_call 10; (with_reducible refine (state_pipe _ _ _ _ _ R2.out.hp).mono ?_); rintro e w6 ⟨rfl, hp, hg⟩; (have R3 := hide (R2.out.same hB hp hg); clear hp hg))
              go_roundw
              case rel => exact ⟨k + 1, _, _, _, by go_num, rfl, rfl, by omega, R3.out⟩
              case measure => simp [intOf]; omega
            · go_upto_region 22 with fail
              go_wp2_with (go_at_call 10; (with_reducible refine (state_pipe _ _ _ _ _ R1.out.hp).mono ?_); rintro e w6 ⟨rfl, hp, hg⟩; (have R3 := hide (R1.out.same hB hp hg); clear hp hg))
              go_roundw
              case rel => exact ⟨k + 1, _, _, _, by go_num, rfl, rfl, by omega, R3.out⟩
              case measure => simp [intOf]; omega
      · have : k = 60 := by omega
        subst this
        have HR := hide hR
        have heq := hide hR.eq
        have hsz := hR.size
        have hs1 : O.size ≤ I.size := by omega
        have hs2 := hR.sz
        clear hR hsz
        go_wp2_with (first
          | (go_at_call 11; (with_reducible refine (car_leave _ _ _ HR.out.hp).mono ?_); rintro e w3 ⟨rfl, hp, hg⟩; (have Hp := hide hp; have Hb := hide (below_only HR.out.below (Nat.le_trans hB HR.out.below.size) HR.out.le hg); clear hp hg))
          | (go_at_call 9; (with_reducible refine (car_last _ _ _ _ heq.out _ Hp.out).mono ?_); rintro e w4 ⟨t, ht, ht2, rfl, hg⟩; (have Hb2 := hide (below_only Hb.out (Nat.le_trans hB Hb.out.size) HR.out.le hg); clear hg)))
        go_ret
        exact ⟨rfl, Hb2.out⟩
    · have HR := hide hR
      have heq := hide hR.eq
      have hsz := hR.size
      have hs1 : O.size ≤ I.size := by omega
      have hs2 := hR.sz
      clear hR hsz
      go_wp2_with (first
        | (go_at_call 11; (with_reducible refine (car_leave _ _ _ HR.out.hp).mono ?_); rintro e w3 ⟨rfl, hp, hg⟩; (have Hp := hide hp; have Hb := hide (below_only HR.out.below (Nat.le_trans hB HR.out.below.size) HR.out.le hg); clear hp hg))
        | (go_at_call 9; (with_reducible refine (car_last _ _ _ _ heq.out _ Hp.out).mono ?_); rintro e w4 ⟨t, ht, ht2, rfl, hg⟩; (have Hb2 := hide (below_only Hb.out (Nat.le_trans hB Hb.out.size) HR.out.le hg); clear hg)))
      go_ret
      exact ⟨rfl, Hb2.out⟩

end Go.Proofs.Ytlidkcbjahaahaa
