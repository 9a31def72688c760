/- Strings as lists; HasPrefix; quoted. -/
import Derived.Test.YtphjafidencdeaaKit
import Derived.Test.YtphjafidencdeaaOwn
namespace Go.Proofs.Ytphjafidencdeaa
open Go.RowKit

/-- A string's bytes as a list. -/
def sv (l : List UInt8) : Value := .string ⟨l.toArray⟩
theorem sz (l : List UInt8) : (ByteArray.mk l.toArray).size = l.length := by simp [ByteArray.size]
theorem ext_drop (l : List UInt8) (n m : Nat) (hm : m = l.length) : (ByteArray.mk l.toArray).extract n m = ⟨(l.drop n).toArray⟩ := by
  subst hm
  apply ByteArray.ext
  simp [ByteArray.data_extract]
  rw [List.take_of_length_le (by simp)]
theorem ext_take (l : List UInt8) (n : Nat) : (ByteArray.mk l.toArray).extract 0 n = ⟨(l.take n).toArray⟩ := by
  apply ByteArray.ext
  simp [ByteArray.data_extract]
theorem sv_eq {l m : List UInt8} : (ByteArray.mk l.toArray = ⟨m.toArray⟩) ↔ l = m := by
  constructor
  · intro h
    have := congrArg ByteArray.data h
    simpa using this
  · rintro rfl; rfl
theorem sv_beq (l m : List UInt8) : ((ByteArray.mk l.toArray) == ⟨m.toArray⟩) = (l == m) := by
  show (l.toArray == m.toArray) = _
  simp

set_option maxHeartbeats 400000 in
theorem pre27 (l m : List UInt8) (w : World) (hm : m.length ≤ 1000) (hl : l.length ≤ 1000000) :
    Calls Try.prog 27 #[sv l, sv m] w fun e w' => e = .returned (.bool (decide (l.take m.length = m))) ∧ w' = w := by
  unfold sv
  have h1 := sz l
  have h2 := sz m
  by_cases hlen : m.length ≤ l.length
  · have q1 : decide (((ByteArray.mk m.toArray).size : Int) ≤ ((ByteArray.mk l.toArray).size : Int)) = true := by rw [h1, h2]; simp; omega
    have hx := ext_take l m.length
    have hb := sv_beq (l.take m.length) m
    have i1 : (0 : Int) ≤ ((ByteArray.mk m.toArray).size : Int) ∧ ((ByteArray.mk m.toArray).size : Int) ≤ ((ByteArray.mk l.toArray).size : Int) := by rw [h1, h2]; omega
    have hd : decide (l.take m.length = m) = (l.take m.length == m) := by rw [Bool.eq_iff_iff]; simp
    rw [hd]
    go_enter Try.func27, Try.ntmps27
    go_wp2_with fail
    go_ret
    exact ⟨rfl, rfl⟩
  · have q1 : decide (((ByteArray.mk m.toArray).size : Int) ≤ ((ByteArray.mk l.toArray).size : Int)) = false := by rw [h1, h2]; simp; omega
    have hd : decide (l.take m.length = m) = false := by
      rw [decide_eq_false_iff_not]
      intro e
      have := congrArg List.length e
      rw [List.length_take] at this
      omega
    rw [hd]
    go_enter Try.func27, Try.ntmps27
    go_wp2_with fail
    go_ret
    exact ⟨rfl, rfl⟩

theorem pre18 (l m : List UInt8) (w : World) (hm : m.length ≤ 1000) (hl : l.length ≤ 1000000) :
    Calls Try.prog 18 #[sv l, sv m] w fun e w' => e = .returned (.bool (decide (l.take m.length = m))) ∧ w' = w := by
  have Hc := hide (pre27 l m w hm hl)
  unfold sv at Hc ⊢
  go_enter Try.func18, Try.ntmps18
  go_wp2_with fail
  refine Hc.out.mono ?_
  rintro e w1 ⟨rfl, rfl⟩
  go_wp2
  go_ret
  exact ⟨rfl, rfl⟩

theorem byte_ne {c d : UInt8} (h : c ≠ d) : ((c.toNat : Int) == (d.toNat : Int)) = false := by
  rw [beq_eq_false_iff_ne]
  intro e
  exact h (UInt8.toNat_inj.1 (by omega))
/-- The byte with which a text begins, and how many bytes tell it. -/
def quo (l : List UInt8) : UInt8 × Nat := match l with
  | [] => (0, 0)
  | [c] => (c, 1)
  | c :: d :: _ => if c = 92 then (d, 2) else (c, 1)
def quoV (l : List UInt8) : Value := .tuple #[.int .u8 (quo l).1.toNat, .int .i64 (quo l).2]
set_option maxHeartbeats 400000 in
theorem quoted_any (l : List UInt8) (w : World) (h0 : l ≠ []) (hl : l.length ≤ 1000000) :
    Calls Try.prog 26 #[sv l] w fun e w' => e = .returned (quoV l) ∧ w' = w := by
  unfold sv quoV
  have h1 := sz l
  match l, h0 with
  | [c], _ =>
    have hx : (ByteArray.mk #[c])[0]'(by simp [ByteArray.size]) = c := rfl
    by_cases hc : c = 92
    · have q : ((c.toNat : Int) == 92) = true := by rw [hc]; rfl
      clear hc
      go_enter Try.func26, Try.ntmps26
      go_wp2_with fail
      go_ret2
      exact ⟨rfl, rfl⟩
    · have q : ((c.toNat : Int) == 92) = false := byte_ne hc
      clear hc
      go_enter Try.func26, Try.ntmps26
      go_wp2_with fail
      go_ret2
      exact ⟨rfl, rfl⟩
  | c :: d :: r, _ =>
    have hx : (ByteArray.mk (c :: d :: r).toArray)[0]'(by simp [ByteArray.size]) = c := rfl
    have hy : (ByteArray.mk (c :: d :: r).toArray)[1]'(by simp [ByteArray.size]) = d := rfl
    have q1 : decide ((1 : Int) < ((ByteArray.mk (c :: d :: r).toArray).size : Int)) = true := by rw [h1]; simp; omega
    have i1 : (1 : Int) < ((ByteArray.mk (c :: d :: r).toArray).size : Int) := by rw [h1]; simp; omega
    by_cases hc : c = 92
    · have q : ((c.toNat : Int) == 92) = true := by rw [hc]; rfl
      have e : quo (c :: d :: r) = (d, 2) := by simp [quo, hc]
      rw [e]
      clear hc e
      go_enter Try.func26, Try.ntmps26
      go_wp2_with fail
      go_ret2
      exact ⟨rfl, rfl⟩
    · have q : ((c.toNat : Int) == 92) = false := byte_ne hc
      have e : quo (c :: d :: r) = (c, 1) := by simp [quo, hc]
      rw [e]
      clear hc e
      go_enter Try.func26, Try.ntmps26
      go_wp2_with fail
      go_ret2
      exact ⟨rfl, rfl⟩

end Go.Proofs.Ytphjafidencdeaa
