/- The walk of PipeEnds: for every three numbers it answers true. -/
import Derived.Test.YtlidkcbjahaahaaF
namespace Go.Proofs.Ytlidkcbjahaahaa
open Go.RowKit

theorem and_bound (x : Int) (m : Nat) (hm : m < 9223372036854775808) : ∃ a : Nat, a ≤ m ∧ bits .and .i64 x (m : Int) = (a : Int) := by
  refine ⟨(BitVec.ofInt 64 x &&& BitVec.ofInt 64 (m : Int)).toNat, ?_, ?_⟩
  · rw [BitVec.toNat_and]
    refine Nat.le_trans Nat.and_le_right ?_
    rw [BitVec.ofInt_natCast, BitVec.toNat_ofNat]
    exact Nat.mod_le _ _
  · show IntKind.i64.wrap ((BitVec.ofInt 64 x &&& BitVec.ofInt 64 (m : Int)).toNat : Int) = _
    have h : (BitVec.ofInt 64 x &&& BitVec.ofInt 64 (m : Int)).toNat ≤ m := by
      rw [BitVec.toNat_and]
      refine Nat.le_trans Nat.and_le_right ?_
      rw [BitVec.ofInt_natCast, BitVec.toNat_ofNat]
      exact Nat.mod_le _ _
    rw [IntKind.wrap_i64]
    omega

/-- So many bytes of one kind. -/
def xs (v : UInt8) (n : Nat) : List UInt8 := List.replicate n v

structure EndRel (B : Nat) (w wr : World) (bp : Nat) (row : List UInt8) (r x : Int) : Prop where
  hp : PipeIs wr bp row r x
  below : Below B w wr
  le : B ≤ bp

theorem EndRel.step {B : Nat} {w wr w' : World} {bp : Nat} {row row' : List UInt8} {r x r' x' : Int} (h : EndRel B w wr bp row r x) (hB : B ≤ w.heap.size) (hp : PipeIs w' bp row' r' x') (hg : wr.grownBy w' (some bp)) : EndRel B w w' bp row' r' x' :=
  ⟨hp, below_only h.below (Nat.le_trans hB h.below.size) h.le hg, h.le⟩

theorem en_write (b : Nat) (v : UInt8) (k : Nat) (hk : k < 128) (r x : Int) (w : World) (hp : PipeIs w b (xs v k) r x) (hr : (r == 0) = false) :
    Calls Try.prog 8 #[.pointer (some ⟨b, 0, none⟩), .string ⟨#[v]⟩] w fun e w' => e = .returned (.tuple #[.int .i64 1, .int .i64 0]) ∧ PipeIs w' b (xs v (k + 1)) r x ∧ w.grownBy w' (some b) := by
  have hl : (xs v k).length = k := by simp [xs]
  refine (write_pipe b ⟨#[v]⟩ (by show 1 ≤ maxLen; decide) (xs v k) r x w hp hr).mono ?_
  rintro e w' ⟨rfl, h, hg⟩
  refine ⟨?_, ?_, hg⟩
  · rw [hl, show min (ByteArray.mk #[v]).size (128 - k) = 1 from (by show min 1 (128 - k) = 1; omega)]; rfl
  · rw [hl] at h
    have e : xs v k ++ List.take (128 - k) (ByteArray.mk #[v]).data.toList = xs v (k + 1) := by
      show xs v k ++ List.take (128 - k) [v] = _
      rw [List.take_of_length_le (by simp; omega)]
      simp [xs, List.replicate_succ']
    rw [e] at h
    exact h
theorem en_read0 (b : Nat) (v : UInt8) (n : Nat) (r x : Int) (w : World) (hp : PipeIs w b (xs v (1 + n)) r x) :
    Calls Try.prog 9 #[.pointer (some ⟨b, 0, none⟩), .int .i64 0] w fun e w' => e = .returned (.tuple #[.string ⟨#[]⟩, .bool false]) ∧ PipeIs w' b (xs v (1 + n)) r x ∧ w.grownBy w' (some b) := by
  refine (read_pipe b 0 _ r x w hp).mono ?_
  have h0 : rdN 0 (xs v (1 + n)).length = 0 := by unfold rdN; omega
  rw [h0]
  rintro e w' ⟨rfl, h, hg⟩
  exact ⟨by rw [isEnd_r (by simp [xs])]; rfl, h, hg⟩
theorem en_read1 (b : Nat) (v : UInt8) (n : Nat) (q r : Int) (hq : q = n) (w : World) (hp : PipeIs w b (xs v (1 + n)) r 0) :
    Calls Try.prog 9 #[.pointer (some ⟨b, 0, none⟩), .int .i64 q] w fun e w' => ∃ s : ByteArray, s.size = n ∧ e = .returned (.tuple #[.string s, .bool false]) ∧ PipeIs w' b [v] r 0 ∧ w.grownBy w' (some b) := by
  subst hq
  refine (read_pipe b n _ r 0 w hp).mono ?_
  have h0 : rdN n (xs v (1 + n)).length = n := by unfold rdN xs; simp; omega
  have h1 : (xs v (1 + n)).drop n = [v] := by simp [xs]
  rw [h0, h1]
  rintro e w' ⟨rfl, h, hg⟩
  exact ⟨⟨((xs v (1 + n)).take n).toArray⟩, by simp [ByteArray.size_mk', xs]; try omega, by rw [isEnd_r (by simp)], h, hg⟩
theorem en_read9 (b : Nat) (v : UInt8) (r : Int) (w : World) (hp : PipeIs w b [v] r 0) :
    Calls Try.prog 9 #[.pointer (some ⟨b, 0, none⟩), .int .i64 9] w fun e w' => e = .returned (.tuple #[.string ⟨#[v]⟩, .bool true]) ∧ PipeIs w' b [] r 0 ∧ w.grownBy w' (some b) :=
  read_pipe b 9 [v] r 0 w hp

theorem en_leave (b : Nat) (c : Bool) (row : List UInt8) (r x : Int) (w : World) (hp : PipeIs w b row r x) (hr : 0 ≤ r ∧ r ≤ 100) (hx : 0 ≤ x ∧ x ≤ 100) (hn : 0 < (if c then x else r)) :
    Calls Try.prog 11 #[.pointer (some ⟨b, 0, none⟩), .bool c] w fun e w' => e = .returned (.bool true) ∧ PipeIs w' b row (addIf (!c) r (-1)) (addIf c x (-1)) ∧ w.grownBy w' (some b) :=
  leave_yes b c row r x w hp (by omega) (by omega) (by rw [beq_eq_false_iff_ne]; omega)

set_option maxRecDepth 100000 in
set_option maxHeartbeats 2000000 in
theorem ends_any (x y z : Int) (w : World) :
    Calls Try.prog 4 #[.int .i64 x, .int .i64 y, .int .i64 z] w fun e w' => e = .returned (.bool true) ∧ Below w.heap.size w w' := by
  obtain ⟨a, ha, ea⟩ := and_bound x 7 (by omega)
  obtain ⟨b, hb, eb⟩ := and_bound y 7 (by omega)
  obtain ⟨c, hc, ec⟩ := and_bound z 63 (by omega)
  simp only [Int.cast_ofNat_Int] at ea eb ec
  have hB : w.heap.size ≤ w.heap.size := Nat.le_refl _
  go_enter Try.func4, Try.ntmps4
  go_wp2_with (first
    | (go_at_call 6; refine (shown_any _).mono ?_; rintro e w1 ⟨rfl, hg⟩; (have Hg1 := hide hg; clear hg))
    | (go_at_call 7; refine (new_pipe _).mono ?_; rintro e w2 ⟨rfl, hp, hg, hz⟩; (have Hp := hide hp; have Hg2 := hide hg; have Hz := hide hz; clear hp hg hz)))
  have hrel0 : EndRel w.heap.size w w2 w1.heap.size [] 1 1 :=
    ⟨Hp.out, below_none (below_of_none Hg1.out) Hg1.out.size Hg2.out, Hg1.out.size⟩
  have R0 := hide hrel0
  clear hrel0 Hp Hg1 Hg2 Hz
  generalize w1.heap.size = bp at *
  go_loopw [9] (fun v wr => ∃ k : Nat, k ≤ a ∧ v = .int .i64 k ∧ EndRel w.heap.size w wr bp [] (1 + k) 1) (fun v _ => a - (intOf v).toNat)
  case atStart => exact ⟨0, by omega, rfl, R0.out⟩
  case round =>
    obtain ⟨k, hk, rfl, hR⟩ := hrel
    have HR := hide hR
    clear hR R0
    by_cases hlt : k < a
    · go_wp2_with (go_at_call 12; (with_reducible refine (join_pipe _ _ _ _ _ _ HR.out.hp (by omega) (by omega)).mono ?_); rintro e w3 ⟨rfl, hp, hg⟩; (have R1 := hide (HR.out.step hB hp hg); clear hp hg))
      go_roundw
      case rel => exact ⟨k + 1, by omega, by go_num, by have h := R1.out; simp [addIf, Int.add_assoc] at h; exact h⟩
      case measure => simp [intOf]; omega
    · obtain rfl : k = a := by omega
      clear hk hlt
      go_wp2
      go_loopw [10] (fun v wr => ∃ k2 : Nat, k2 ≤ b ∧ v = .int .i64 k2 ∧ EndRel w.heap.size w wr bp [] (1 + k) (1 + k2)) (fun v _ => b - (intOf v).toNat)
      case atStart => exact ⟨0, by omega, rfl, HR.out⟩
      case round =>
        obtain ⟨k2, hk, rfl, hR⟩ := hrel
        clear HR
        have HR := hide hR
        clear hR
        by_cases hlt : k2 < b
        · go_wp2_with (go_at_call 12; (with_reducible refine (join_pipe _ _ _ _ _ _ HR.out.hp (by omega) (by omega)).mono ?_); rintro e w3 ⟨rfl, hp, hg⟩; (have R1 := hide (HR.out.step hB hp hg); clear hp hg))
          go_roundw
          case rel => exact ⟨k2 + 1, by omega, by go_num, by have h := R1.out; simp [addIf, Int.add_assoc] at h; exact h⟩
          case measure => simp [intOf]; omega
        · obtain rfl : k2 = b := by omega
          clear hk hlt
          go_wp2
          go_loopw [12] (fun v wr => ∃ k3 : Nat, k3 ≤ 1 + c ∧ v = .int .i64 k3 ∧ EndRel w.heap.size w wr bp (xs 120 k3) (1 + k) (1 + k2)) (fun v _ => 1 + c - (intOf v).toNat)
          case atStart => exact ⟨0, by omega, rfl, HR.out⟩
          case round =>
            obtain ⟨k3, hk, rfl, hR⟩ := hrel
            clear HR
            have HR := hide hR
            clear hR
            by_cases hlt : k3 < 1 + c
            · go_wp2_with (go_at_call 8; (with_reducible refine (en_write _ _ _ (by omega) _ _ _ HR.out.hp (by rw [beq_eq_false_iff_ne]; omega)).mono ?_); rintro e w3 ⟨rfl, hp, hg⟩; (have R1 := hide (HR.out.step hB hp hg); clear hp hg))
              go_roundw
              case rel => exact ⟨k3 + 1, by omega, by go_num, R1.out⟩
              case measure => simp [intOf]; omega
            · obtain rfl : k3 = 1 + c := by omega
              clear hk hlt
              rw [show ((1 + c : Nat) : Int) = 1 + (c : Int) from by omega]
              go_wp2
              go_loopw [13] (fun v wr => ∃ k4 : Nat, k4 ≤ 1 + k2 ∧ v = .int .i64 k4 ∧ EndRel w.heap.size w wr bp (xs 120 (1 + c)) (1 + k) (1 + k2 - k4)) (fun v _ => 1 + k2 - (intOf v).toNat)
              case atStart => exact ⟨0, by omega, rfl, by simpa using HR.out⟩
              case round =>
                obtain ⟨k4, hk, rfl, hR⟩ := hrel
                clear HR
                have HR := hide hR
                clear hR
                by_cases hlt : k4 ≤ k2
                · go_wp2_with (first
                    | (go_at_call 9; (with_reducible refine (en_read0 _ _ _ _ _ _ HR.out.hp).mono ?_); rintro e w3 ⟨rfl, hp, hg⟩; (have R1 := hide (HR.out.step hB hp hg); clear hp hg))
                    | (go_at_call 11; (with_reducible refine (en_leave _ _ _ _ _ _ R1.out.hp (by omega) (by omega) (by simp; omega)).mono ?_); rintro e w4 ⟨rfl, hp, hg⟩; (have R2 := hide (R1.out.step hB hp hg); clear hp hg)))
                  go_roundw
                  case rel => exact ⟨k4 + 1, by omega, by go_num, by have h := R2.out; simp only [addIf, if_true, Bool.not_true, Bool.false_eq_true, if_false] at h; rw [show (1 : Int) + k2 - ((k4 + 1 : Nat) : Int) = 1 + k2 - k4 + -1 by omega]; exact h⟩
                  case measure => simp [intOf]; omega
                · obtain rfl : k4 = 1 + k2 := by omega
                  clear hk hlt
                  rw [show ((1 + k2 : Nat) : Int) = 1 + (k2 : Int) from by omega]
                  have he0 := hide (show EndRel w.heap.size w wr bp (xs 120 (1 + c)) (1 + k) 0 by have h := HR.out; rw [show (1 : Int) + k2 - ((1 + k2 : Nat) : Int) = 0 by omega] at h; exact h)
                  clear ea eb ec HR
                  go_wp2_with fail
                  (with_reducible refine (en_read1 _ 120 c _ _ ?hq _ he0.out.hp).mono ?_)
                  case hq => omega
                  rintro e w3 ⟨st, hst, rfl, hp, hg⟩
                  have R1 := hide (he0.out.step hB hp hg)
                  have Hst := hide hst
                  clear hp hg he0 hst
                  go_wp2_with fail
                  (with_reducible refine (en_read9 _ _ _ _ R1.out.hp).mono ?_)
                  rintro e w4 ⟨rfl, hp, hg⟩
                  have R2 := hide (R1.out.step hB hp hg)
                  clear hp hg R1
                  go_wp2_with fail
                  any_goals (exfalso; have h := Hst.out; omega)
                  (with_reducible refine (leave_no _ true _ _ _ _ R2.out.hp ?hz).mono ?_)
                  case hz => rfl
                  rintro e w5 ⟨rfl, hp, hg⟩
                  have R3 := hide (R2.out.step hB hp hg)
                  clear hp hg R2
                  go_wp2_with fail
                  (with_reducible refine (join_pipe _ true _ _ _ _ R3.out.hp (by omega) (by omega)).mono ?_)
                  rintro e w6 ⟨rfl, hp, hg⟩
                  have R4 := hide (show EndRel w.heap.size w w6 bp (xs 121 0) (1 + k) 1 from R3.out.step hB hp hg)
                  clear hp hg R3
                  go_wp2_with fail
                  go_loopw [20] (fun v wr => ∃ k5 : Nat, k5 ≤ 1 + k ∧ v = .int .i64 k5 ∧ EndRel w.heap.size w wr bp (xs 121 k5) (1 + k - k5) 1) (fun v _ => 1 + k - (intOf v).toNat)
                  case atStart => exact ⟨0, by omega, rfl, by simpa using R4.out⟩
                  case round =>
                    obtain ⟨k5, hk, rfl, hR⟩ := hrel
                    clear R4
                    have HR := hide hR
                    clear hR
                    by_cases hlt : k5 ≤ k
                    · go_wp2_with fail
                      (with_reducible refine (en_write _ _ _ (by omega) _ _ _ HR.out.hp (by rw [beq_eq_false_iff_ne]; omega)).mono ?_)
                      rintro e w7 ⟨rfl, hp, hg⟩
                      have R1 := hide (HR.out.step hB hp hg)
                      clear hp hg
                      go_wp2_with fail
                      (with_reducible refine (en_leave _ _ _ _ _ _ R1.out.hp (by omega) (by omega) ?hn).mono ?_)
                      case hn => simp; omega
                      rintro e w8 ⟨rfl, hp, hg⟩
                      have R2 := hide (R1.out.step hB hp hg)
                      clear hp hg
                      go_wp2_with fail
                      go_roundw
                      case rel => exact ⟨k5 + 1, by omega, by go_num, by have h := R2.out; simp only [addIf, if_true, Bool.not_false, Bool.false_eq_true, if_false] at h; rw [show (1 : Int) + k - ((k5 + 1 : Nat) : Int) = 1 + k - k5 + -1 by omega]; exact h⟩
                      case measure => simp [intOf]; omega
                    · obtain rfl : k5 = 1 + k := by omega
                      clear hk hlt
                      rw [show ((1 + k : Nat) : Int) = 1 + (k : Int) from by omega]
                      have he0 := hide (show EndRel w.heap.size w wr bp (xs 121 (1 + k)) 0 1 by have h := HR.out; rw [show (1 : Int) + k - ((1 + k : Nat) : Int) = 0 by omega] at h; exact h)
                      clear HR
                      go_wp2_with fail
                      (with_reducible refine (write_broken _ _ _ _ _ he0.out.hp).mono ?_)
                      rintro e w7 ⟨rfl, rfl⟩
                      go_wp2_with fail
                      (with_reducible refine (leave_no _ false _ _ _ _ he0.out.hp ?hz).mono ?_)
                      case hz => rfl
                      rintro e w8 ⟨rfl, hp, hg⟩
                      have R3 := hide (he0.out.step hB hp hg)
                      clear hp hg he0
                      go_wp2_with fail
                      go_ret
                      exact ⟨rfl, R3.out.below⟩

end Go.Proofs.Ytlidkcbjahaahaa
