/- The terminal that a law has made for itself, the contracts over it; shown. -/
import Derived.Test.YtpabcopkecgphaaG
namespace Go.Proofs.Ytpabcopkecgphaa
open Go.RowKit

/-- A terminal that was made behind the world w0. -/
def Fresh (w0 w : World) (b : Nat) (st : TS) : Prop := ∃ S, TtyIs w b S st ∧ (∀ k, S k → w0.heap.size ≤ k) ∧ w0.grownBy w none

section
variable {w0 w w' : World} {b : Nat} {st st2 : TS} {S : Nat → Prop}
theorem Fresh.to (h2 : ∀ k, S k → w0.heap.size ≤ k) (h3 : w0.grownBy w none) (k : TtyTo w w' b S st2) : Fresh w0 w' b st2 := by
  obtain ⟨S', k1, k2, k3⟩ := k
  refine ⟨S', k1, fun i hi => (k2 i hi).elim (h2 i) (fun e => Nat.le_trans h3.size e), ?_⟩
  exact ⟨k3.os.trans h3.os, k3.tape.trans h3.tape, k3.output.trans h3.output, Nat.le_trans h3.size k3.size, fun i hi _ => (k3.block i (Nat.lt_of_lt_of_le hi h3.size) (fun e => by have := h2 i e; omega)).trans (h3.block i hi (by simp))⟩
theorem Fresh.grown (h : Fresh w0 w b st) : w0.grownBy w none := by obtain ⟨_, _, _, h⟩ := h; exact h
/-- Something else is made. -/
theorem Fresh.other (h : Fresh w0 w b st) (hg : w.grownBy w' none) : Fresh w0 w' b st := by
  obtain ⟨S, h1, h2, h3⟩ := h
  exact ⟨S, h1.chg (Chg.of_grown (S := nobody) hg (fun _ e => by cases e)) (fun _ _ e => e), h2, only_trans h3 hg⟩

theorem newF (hg : w0.grownBy w none) : Calls Try.prog 10 #[] w fun e w' => e = .returned (.pointer (some ⟨w.heap.size, 0, none⟩)) ∧ Fresh w0 w' w.heap.size ts0 := by
  refine (new_any w).mono ?_
  rintro e w' ⟨rfl, rfl⟩
  exact ⟨rfl, _, new_is w, fun k hk => by rw [show k = w.heap.size from hk]; exact hg.size, only_alloc hg _⟩
theorem typeF (h : Fresh w0 w b st) (hi : st.Inv) (s : ByteArray) (hs : s.size ≤ 4096) (hsc : st.screen.length + 800 * s.size ≤ 1099511620000) :
    Calls Try.prog 11 #[.pointer (some ⟨b, 0, none⟩), .string s] w fun e w' => e = .returned (.tuple #[]) ∧ Fresh w0 w' b (st.type s.data.toList) := by
  obtain ⟨S, h1, h2, h3⟩ := h
  refine (type_any h1 hi s hs hsc).mono ?_
  rintro e w' ⟨rfl, h'⟩
  exact ⟨rfl, Fresh.to h2 h3 h'⟩
theorem readF (h : Fresh w0 w b st) (hi : st.Inv) (n : Int) :
    Calls Try.prog 12 #[.pointer (some ⟨b, 0, none⟩), .int .i64 n] w fun e w' => e = .returned (.tuple #[.string ⟨(st.rdS n).toArray⟩, .bool (st.rdOk n)]) ∧ Fresh w0 w' b (st.rd n) := by
  obtain ⟨S, h1, h2, h3⟩ := h
  refine (read_any h1 n (by have := hi.a; omega)).mono ?_
  rintro e w' ⟨rfl, h'⟩
  exact ⟨rfl, Fresh.to h2 h3 h'⟩
theorem screenF (h : Fresh w0 w b st) : Calls Try.prog 13 #[.pointer (some ⟨b, 0, none⟩)] w fun e w' => e = .returned (.string ⟨st.screen.toArray⟩) ∧ Fresh w0 w' b st := by
  obtain ⟨S, h1, h2, h3⟩ := h
  refine (screen_any h1).mono ?_
  rintro e w' ⟨rfl, h'⟩
  exact ⟨rfl, Fresh.to h2 h3 h'⟩
theorem echoF (h : Fresh w0 w b st) (on : Bool) : Calls Try.prog 16 #[.pointer (some ⟨b, 0, none⟩), .bool on] w fun e w' => e = .returned (.tuple #[]) ∧ Fresh w0 w' b (st.echo on) := by
  obtain ⟨S, h1, h2, h3⟩ := h
  refine (echo_any h1 on).mono ?_
  rintro e w' ⟨rfl, h'⟩
  exact ⟨rfl, Fresh.to h2 h3 h'⟩
theorem echoesF (h : Fresh w0 w b st) : Calls Try.prog 20 #[.pointer (some ⟨b, 0, none⟩)] w fun e w' => e = .returned (.bool (!st.silent)) ∧ Fresh w0 w' b st := by
  obtain ⟨S, h1, h2, h3⟩ := h
  refine (echoes_any h1).mono ?_
  rintro e w' ⟨rfl, rfl⟩
  exact ⟨rfl, S, h1, h2, h3⟩
theorem unreadF (h : Fresh w0 w b st) :
    Calls Try.prog 17 #[.pointer (some ⟨b, 0, none⟩)] w fun e w' => e = .returned (.tuple #[.int .i64 (waitOf st.lines : Nat), .int .i64 (st.typed.length : Nat)]) ∧ Fresh w0 w' b st := by
  obtain ⟨S, h1, h2, h3⟩ := h
  refine (unread_any h1).mono ?_
  rintro e w' ⟨rfl, h'⟩
  exact ⟨rfl, Fresh.to h2 h3 h'⟩
end

theorem inv0 : ts0.Inv := ⟨by decide, by decide⟩
theorem rd_inv {s : TS} (h : s.Inv) (n : Int) : (s.rd n).Inv := by
  obtain ⟨ha, hb⟩ := h
  unfold TS.rd
  split
  · exact ⟨ha, hb⟩
  · cases hl : s.lines with
    | nil => exact ⟨ha, hb⟩
    | cons x r =>
      refine ⟨?_, hb⟩
      rw [hl] at ha
      simp only [waitOf] at ha
      simp only
      split
      · simp only [waitOf, List.length_drop]; omega
      · omega
theorem echo_inv {s : TS} (h : s.Inv) (on : Bool) : (s.echo on).Inv := by
  obtain ⟨ha, hb⟩ := h
  unfold TS.echo
  split
  · exact ⟨by simp [TS.drop, waitOf], by simp [TS.drop]⟩
  · exact ⟨ha, hb⟩

def shA : List UInt8 := [97, 98, 8, 99, 10]
def shB : List UInt8 := [112, 119, 10]
def sh1 : TS := ts0.type shA
def sh2 : TS := sh1.rd 99
def sh3 : TS := sh2.echo false
def sh4 : TS := sh3.type shB
def sh5 : TS := sh4.rd 99

set_option maxHeartbeats 1000000 in
theorem shown_true (w : World) : Calls Try.prog 9 #[] w fun e w' => e = .returned (.bool true) ∧ w.grownBy w' none := by
  have i1 : sh1.Inv := type_inv inv0 _
  have i2 : sh2.Inv := rd_inv i1 _
  have i3 : sh3.Inv := echo_inv i2 _
  have i4 : sh4.Inv := type_inv i3 _
  go_enter Try.func9, Try.ntmps9
  go_wp2_with fail
  go_at_call 10
  refine (newF (only_refl w none)).mono ?_
  rintro e w1 ⟨rfl, h1⟩
  have H1 := hide h1
  clear h1
  go_wp2_with fail
  go_at_call 11
  refine (typeF (st := ts0) H1.out inv0 ⟨#[97, 98, 8, 99, 10]⟩ (by decide) (by decide)).mono ?_
  rintro e w2 ⟨rfl, h2⟩
  have H2 : Hid (Fresh w w2 w.heap.size sh1) := hide h2
  clear h2
  go_wp2_with fail
  go_at_call 12
  refine (readF H2.out i1 99).mono ?_
  rintro e w3 ⟨he, h3⟩
  rw [show sh1.rdS 99 = [97, 99, 10] from by kernel_rfl, show sh1.rdOk 99 = true from by kernel_rfl] at he
  subst he
  have H3 : Hid (Fresh w w3 w.heap.size sh2) := hide h3
  clear h3
  go_wp2_with fail
  go_at_call 13
  refine (screenF H3.out).mono ?_
  rintro e w4 ⟨he, h4⟩
  rw [show sh2.screen = [97, 98, 8, 32, 8, 99, 10] from by kernel_rfl] at he
  subst he
  have H4 : Hid (Fresh w w4 w.heap.size sh2) := hide h4
  clear h4
  go_wp2_with fail
  go_at_call 16
  refine (echoF H4.out false).mono ?_
  rintro e w5 ⟨rfl, h5⟩
  have H5 : Hid (Fresh w w5 w.heap.size sh3) := hide h5
  clear h5
  go_wp2_with fail
  go_at_call 11
  refine (typeF (st := sh3) H5.out i3 ⟨#[112, 119, 10]⟩ (by decide) (by rw [show sh3.screen = [97, 98, 8, 32, 8, 99, 10] from by kernel_rfl]; decide)).mono ?_
  rintro e w6 ⟨rfl, h6⟩
  have H6 : Hid (Fresh w w6 w.heap.size sh4) := hide h6
  clear h6
  go_wp2_with fail
  go_at_call 12
  refine (readF H6.out i4 99).mono ?_
  rintro e w7 ⟨he, h7⟩
  rw [show sh4.rdS 99 = [112, 119, 10] from by kernel_rfl, show sh4.rdOk 99 = true from by kernel_rfl] at he
  subst he
  have H7 : Hid (Fresh w w7 w.heap.size sh5) := hide h7
  clear h7
  go_wp2_with fail
  go_at_call 13
  refine (screenF H7.out).mono ?_
  rintro e w8 ⟨he, h8⟩
  rw [show sh5.screen = [97, 98, 8, 32, 8, 99, 10, 10] from by kernel_rfl] at he
  subst he
  have H8 : Hid (Fresh w w8 w.heap.size sh5) := hide h8
  clear h8
  go_wp2_with fail
  go_at_call 20
  refine (echoesF H8.out).mono ?_
  rintro e w9 ⟨he, h9⟩
  rw [show sh5.silent = true from by kernel_rfl] at he
  subst he
  have H9 := hide h9
  clear h9
  go_wp2
  go_ret
  exact ⟨rfl, H9.out.grown⟩

end Go.Proofs.Ytpabcopkecgphaa
