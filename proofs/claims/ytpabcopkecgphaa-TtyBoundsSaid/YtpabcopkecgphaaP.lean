/- The walk of TtyBounds: whatever the texts, it answers true. -/
import Derived.Test.YtpabcopkecgphaaN
namespace Go.Proofs.Ytpabcopkecgphaa
open Go.RowKit

section
variable {w0 w : World} {b : Nat}
def BoundF (w0 w : World) (b : Nat) (m : Nat) : Prop := ∃ st, Fresh w0 w b st ∧ st.Inv ∧ st.screen.length ≤ m
theorem BoundF.grown {m : Nat} (h : BoundF w0 w b m) : w0.grownBy w none := by
  obtain ⟨st, h1, h2⟩ := h
  exact h1.grown
theorem bound_type {m : Nat} (h : BoundF w0 w b m) (hm : m ≤ 100000000) (s : ByteArray) (hs : s.size ≤ 3000) :
    Calls Try.prog 11 #[.pointer (some ⟨b, 0, none⟩), .string s] w fun e w' => e = .returned (.tuple #[]) ∧ BoundF w0 w' b (m + 2400000) := by
  obtain ⟨st, h1, h2, h3⟩ := h
  refine (typeF h1 h2 s (by omega) (by omega)).mono ?_
  rintro e' w' ⟨rfl, h'⟩
  refine ⟨rfl, _, h', type_inv h2 _, ?_⟩
  have := type_screen h2 s.data.toList
  have hl : s.data.toList.length = s.size := rfl
  omega
def Unr (w0 : World) (b : Nat) (m : Nat) (e : Ending) (w' : World) : Prop := ∃ x y : Nat, e = .returned (.tuple #[.int .i64 x, .int .i64 y]) ∧ x + y ≤ 1024 ∧ y ≤ 256 ∧ ∃ st, Fresh w0 w' b st ∧ st.Inv ∧ st.screen.length ≤ m ∧ waitOf st.lines = x ∧ st.typed.length = y
theorem bound_unread {m : Nat} (h : BoundF w0 w b m) : Calls Try.prog 17 #[.pointer (some ⟨b, 0, none⟩)] w (Unr w0 b m) := by
  obtain ⟨st, h1, h2, h3⟩ := h
  refine (unreadF h1).mono ?_
  rintro e' w' ⟨rfl, h'⟩
  exact ⟨_, _, rfl, h2.a, h2.b, st, h', h2, h3, rfl, rfl⟩
/-- What waits: x in lines, y that are typed. -/
def Wait (w0 w : World) (b x y : Nat) : Prop := ∃ st, Fresh w0 w b st ∧ st.Inv ∧ waitOf st.lines = x ∧ st.typed.length = y
theorem Wait.grown {x y : Nat} (h : Wait w0 w b x y) : w0.grownBy w none := by
  obtain ⟨st, h1, h2⟩ := h
  exact h1.grown
def Rd1 (w0 : World) (b x y : Nat) (e : Ending) (w' : World) : Prop := ∃ t : ByteArray, e = .returned (.tuple #[.string t, .bool true]) ∧ t.size ≤ 1 ∧ Wait w0 w' b x y
theorem bound_read {x y : Nat} (h : Wait w0 w b (x + 1) y) : Calls Try.prog 12 #[.pointer (some ⟨b, 0, none⟩), .int .i64 1] w (Rd1 w0 b x y) := by
  obtain ⟨st, h1, h2, h3, h4⟩ := h
  have hne : st.lines ≠ [] := by
    intro h0
    rw [h0] at h3
    simp [waitOf] at h3
  obtain ⟨r1, r2, r3⟩ := rd1 st hne
  refine (readF h1 h2 1).mono ?_
  rw [r3]
  rintro e' w' ⟨rfl, h'⟩
  exact ⟨_, rfl, by simpa [ByteArray.size] using r2, _, h', rd_inv h2 1, by omega, by rw [(rd_silent st 1).2.2, h4]⟩
def Rd0 (w0 : World) (b y : Nat) (e : Ending) (w' : World) : Prop := ∃ t : ByteArray, e = .returned (.tuple #[.string t, .bool false]) ∧ Wait w0 w' b 0 y
theorem bound_read0 {y : Nat} (h : Wait w0 w b 0 y) : Calls Try.prog 12 #[.pointer (some ⟨b, 0, none⟩), .int .i64 1] w (Rd0 w0 b y) := by
  obtain ⟨st, h1, h2, h3, h4⟩ := h
  have hne : st.lines = [] := by
    rcases lines_cases st with ⟨h, _⟩ | ⟨_, h⟩
    · exact h
    · omega
  refine (readF h1 h2 1).mono ?_
  rw [(rd1_none st hne).1]
  rintro e' w' ⟨rfl, h'⟩
  refine ⟨_, rfl, _, h', rd_inv h2 1, ?_, by rw [(rd_silent st 1).2.2, h4]⟩
  have : (st.rd 1).lines = st.lines := by simp [TS.rd, hne]
  rw [this, h3]
theorem wait_unread {x y : Nat} (h : Wait w0 w b x y) : Calls Try.prog 17 #[.pointer (some ⟨b, 0, none⟩)] w fun e w' => e = .returned (.tuple #[.int .i64 x, .int .i64 y]) ∧ Wait w0 w' b x y := by
  obtain ⟨st, h1, h2, h3, h4⟩ := h
  refine (unreadF h1).mono ?_
  rw [h3, h4]
  exact fun _ _ h => ⟨h.1, st, h.2, h2, h3, h4⟩
end

set_option maxRecDepth 100000 in
set_option maxHeartbeats 4000000 in
theorem bounds_any (a : Option Addr) (len cap : Nat) (hlen : len ≤ 9223372036854775807) (w : World) (ha : StrsIn w a len) :
    Calls Try.prog 7 #[.slice a len cap] w fun e w' => e = .returned (.bool true) ∧ Below w.heap.size w w' := by
  have Ha := hide ha
  clear ha
  go_enter Try.func7, Try.ntmps7
  go_wp2_with fail
  go_at_call 9
  refine (shown_true _).mono ?_
  rintro e w1 ⟨rfl, hg⟩
  have Hg1 := hide hg
  clear hg
  go_wp2_with fail
  go_at_call 10
  refine (newEF Hg1.out).mono ?_
  rintro e w2 ⟨rfl, h⟩
  have R0 := hide (show BoundF w w2 w1.heap.size 0 from ⟨_, h, invE _, by decide⟩)
  clear h
  generalize w1.heap.size = bp at *
  go_wp2_with fail
  go_loopw [5] (fun v wr => ∃ k : Nat, v = .int .i64 k ∧ k ≤ 40 ∧ BoundF w wr bp (2400000 * k)) (fun v _ => 40 - (intOf v).toNat)
  case atStart => exact ⟨0, rfl, by omega, R0.out⟩
  case round =>
    obtain ⟨k, rfl, hk, hF⟩ := hrel
    clear R0
    by_cases hlt : k < len ∧ k < 40
    · obtain ⟨hlt, hlt2⟩ := hlt
      obtain ⟨b, off, s, rfl, hb, hs, c0⟩ := Ha.out k hlt
      have g0 : wr.cell? ⟨b, off + k, none⟩ = some (.string s) := none_cell hF.grown hb c0
      have HF := hide hF
      have Hs := hide hs
      clear hF c0 hs
      have q1 : decide ((k : Int) < len) = true := by simp; omega
      have q3 : decide ((k : Int) < 40) = true := by simp; omega
      go_wp2_with fail
      go_at_call 15
      refine (short_any s Hs.out 3000 (by omega) _).mono ?_
      rintro e w8 ⟨s1, rfl, hs1, rfl⟩
      go_wp2_with fail
      go_at_call 11
      refine (bound_type HF.out (by omega) s1 hs1).mono ?_
      rintro e w9 ⟨rfl, h⟩
      have F2 := hide h
      clear h HF g0
      go_wp2_with fail
      go_at_call 17
      refine (bound_unread F2.out).mono ?_
      rintro e w10 ⟨x, y, rfl, hx, hy, st, h, hi, hsc, _, _⟩
      have F3 := hide (show BoundF w w10 bp (2400000 * k + 2400000) from ⟨st, h, hi, hsc⟩)
      clear h hi hsc F2
      go_wp2
      go_roundw
      case rel => exact ⟨k + 1, by go_num, by omega, F3.out⟩
      case measure => simp [intOf]; omega
    · have HF := hide hF
      clear hF
      by_cases hlt2 : k < len
      all_goals
        go_wp2_with fail
        go_at_call 17
        refine (bound_unread HF.out).mono ?_
        rintro e w8 ⟨x, y, rfl, hx, hy, st, h, hi, hsc, e1, e2⟩
        have F2 := hide (show Wait w w8 bp x y from ⟨st, h, hi, e1, e2⟩)
        clear h hi hsc e1 e2 HF hlt
        go_wp2_with fail
        go_loopw [8, 10] (fun va v wr => ∃ j x1 : Nat, v = .int .i64 j ∧ va = .int .i64 x1 ∧ j + x1 ≤ 1024 ∧ Wait w wr bp x1 y) (fun _ v _ => 1025 - (intOf v).toNat)
        case atStart => exact ⟨0, x, rfl, rfl, by omega, F2.out⟩
        case round =>
          obtain ⟨j, x1, rfl, rfl, hj, hW⟩ := hrel
          clear F2
          have HW := hide hW
          clear hW
          cases x1 with
          | zero =>
            go_wp2_with fail
            go_at_call 12
            refine (bound_read0 HW.out).mono ?_
            rintro e w9 ⟨t, rfl, h⟩
            have F3 := hide h
            clear h
            go_wp2
            go_ret
            exact ⟨rfl, below_of_none F3.out.grown⟩
          | succ x1 =>
            go_wp2_with fail
            go_at_call 12
            refine (bound_read HW.out).mono ?_
            rintro e w9 ⟨t, rfl, ht, h⟩
            have F3 := hide h
            clear h
            go_wp2_with fail
            go_at_call 17
            refine (wait_unread F3.out).mono ?_
            rintro e w10 ⟨rfl, h⟩
            have F4 := hide h
            clear h F3
            have q : ((x1 : Int) + 1 - 1) = x1 := by omega
            have q2 : ((x1 : Int) != (x1 : Int) + 1 - 1) = false := by rw [q]; simp
            clear q
            go_wp2
            go_roundw
            case rel => exact ⟨j + 1, x1, by go_num, rfl, by omega, F4.out⟩
            case measure => simp [intOf]; omega

end Go.Proofs.Ytpabcopkecgphaa
