/- Strings as lists of bytes; HasPrefix, IndexByte. -/
import Derived.Test.YtgpfjcogaheopaaKit
import Derived.Test.YtgpfjcogaheopaaOwn
import Derived.Test.YtgpfjcogaheopaaStep
import Derived.Test.YtgpfjcogaheopaaPerm
import Derived.Lib.Bytealg
import Derived.Lib.Walk
set_option linter.all false
namespace Go.Proofs.Ytgpfjcogaheopaa.Lx
open Go.RowKit
set_option maxRecDepth 100000

/-- A string's bytes as a list. -/
def sv (l : List UInt8) : Value := .string ⟨l.toArray⟩
theorem sz (l : List UInt8) : (ByteArray.mk l.toArray).size = l.length := by simp [ByteArray.size]
theorem ext_drop (l : List UInt8) (n m : Nat) (hm : m = l.length) : (ByteArray.mk l.toArray).extract n m = ⟨(l.drop n).toArray⟩ := by
  subst hm
  apply ByteArray.ext
  simp [ByteArray.data_extract]
  rw [List.take_of_length_le (by simp)]
theorem ext_take (l : List UInt8) (n : Nat) : (ByteArray.mk l.toArray).extract 0 n = ⟨(l.take n).toArray⟩ := by
  apply ByteArray.ext
  simp [ByteArray.data_extract]
theorem sv_eq {l m : List UInt8} : (ByteArray.mk l.toArray = ⟨m.toArray⟩) ↔ l = m := by
  constructor
  · intro h
    have := congrArg ByteArray.data h
    simpa using this
  · rintro rfl; rfl
theorem sv_beq (l m : List UInt8) : ((ByteArray.mk l.toArray) == ⟨m.toArray⟩) = (l == m) := by
  show (l.toArray == m.toArray) = _
  simp

set_option maxHeartbeats 400000 in
theorem pre36 (l m : List UInt8) (w : World) (hm : m.length ≤ 1000) (hl : l.length ≤ 9223372036854775807) :
    Calls Try.prog 72 #[sv l, sv m] w fun e w' => e = .returned (.bool (decide (l.take m.length = m))) ∧ w' = w := by
  unfold sv
  have h1 := sz l
  have h2 := sz m
  by_cases hlen : m.length ≤ l.length
  · have q1 : decide (((ByteArray.mk m.toArray).size : Int) ≤ ((ByteArray.mk l.toArray).size : Int)) = true := by rw [h1, h2]; simp; omega
    have hx := ext_take l m.length
    have hb := sv_beq (l.take m.length) m
    have i1 : (0 : Int) ≤ ((ByteArray.mk m.toArray).size : Int) ∧ ((ByteArray.mk m.toArray).size : Int) ≤ ((ByteArray.mk l.toArray).size : Int) := by rw [h1, h2]; omega
    have hd : decide (l.take m.length = m) = (l.take m.length == m) := by rw [Bool.eq_iff_iff]; simp
    rw [hd]
    go_enter Try.func72, Try.ntmps72
    go_wp2_with fail
    go_ret
    exact ⟨rfl, rfl⟩
  · have q1 : decide (((ByteArray.mk m.toArray).size : Int) ≤ ((ByteArray.mk l.toArray).size : Int)) = false := by rw [h1, h2]; simp; omega
    have hd : decide (l.take m.length = m) = false := by
      rw [decide_eq_false_iff_not]
      intro e
      have := congrArg List.length e
      rw [List.length_take] at this
      omega
    rw [hd]
    go_enter Try.func72, Try.ntmps72
    go_wp2_with fail
    go_ret
    exact ⟨rfl, rfl⟩

theorem pre34 (l m : List UInt8) (w : World) (hm : m.length ≤ 1000) (hl : l.length ≤ 9223372036854775807) :
    Calls Try.prog 62 #[sv l, sv m] w fun e w' => e = .returned (.bool (decide (l.take m.length = m))) ∧ w' = w := by
  have Hc := hide (pre36 l m w hm hl)
  unfold sv at Hc ⊢
  go_enter Try.func62, Try.ntmps62
  go_wp2_with fail
  refine Hc.out.mono ?_
  rintro e w1 ⟨rfl, rfl⟩
  go_wp2
  go_ret
  exact ⟨rfl, rfl⟩

theorem byte_ne {c d : UInt8} (h : c ≠ d) : ((c.toNat : Int) == (d.toNat : Int)) = false := by
  rw [beq_eq_false_iff_ne]
  intro e
  exact h (UInt8.toNat_inj.1 (by omega))
theorem str_at' (l : List UInt8) (i : Nat) (h : i < l.length) : (ByteArray.mk l.toArray)[i]'(by rw [sz]; exact h) = l[i] := by
  show l.toArray[i] = l[i]
  simp
theorem idx35 (s : ByteArray) (c : Int) (w : World) :
    Calls Try.prog 63 #[.string s, .int .u8 c] w fun e w' => e = .returned (.int .i64 (Lib.indexByte s.data.toList c.toNat.toUInt8)) ∧ w' = w := by
  go_enter Try.func63, Try.ntmps63
  go_wp2
  rw [run_callFunc_extern Try.func73 (by kernel_rfl) (by kernel_rfl) (by kernel_rfl) (e := Extern.BytealgIndexByte.indexByte) (by kernel_rfl), Lib.run_indexByteString]
  simp only [Result.andThen]
  rw [Oper.upon_value]
  go_wp2
  go_ret
  exact ⟨rfl, rfl⟩
theorem idx26 (s : ByteArray) (c : Int) (w : World) :
    Calls Try.prog 51 #[.string s, .int .u8 c] w fun e w' => e = .returned (.int .i64 (Lib.indexByte s.data.toList c.toNat.toUInt8)) ∧ w' = w := by
  have H := hide (idx35 s c)
  go_enter Try.func51, Try.ntmps51
  go_wp2_with fail
  refine (H.out _).mono ?_
  rintro e w1 ⟨rfl, rfl⟩
  go_wp2
  go_ret
  exact ⟨rfl, rfl⟩

theorem cat_ba (l m : List UInt8) : (ByteArray.mk l.toArray) ++ ByteArray.mk m.toArray = ⟨(l ++ m).toArray⟩ := by
  apply ByteArray.ext
  simp [ByteArray.data_append]

theorem ext_at (p : List UInt8) (i : Nat) (h : i < p.length) : (ByteArray.mk p.toArray).extract i (i + 1) = ⟨#[p[i]]⟩ := by
  apply ByteArray.ext
  rw [ByteArray.data_extract]
  apply Array.ext'
  rw [Array.toList_extract, List.extract_eq_take_drop]
  simp only [List.toList_toArray]
  rw [List.drop_eq_getElem_cons h, show i + 1 - i = 1 by omega]
  rfl
theorem getD_at {l : List UInt8} {i : Nat} (h : i < l.length) : l.getD i 0 = l[i] := by
  rw [List.getD_eq_getElem?_getD, List.getElem?_eq_getElem h]; rfl

theorem drop_ne {l : List UInt8} {i : Nat} (h : i < l.length) : l.drop i ≠ [] := by
  intro e
  have := congrArg List.length e
  rw [List.length_drop] at this
  simp at this
  omega
theorem drop_at {l : List UInt8} {i : Nat} (h : i < l.length) : l.drop i = l[i] :: l.drop (i + 1) := List.drop_eq_getElem_cons h

end Go.Proofs.Ytgpfjcogaheopaa.Lx
