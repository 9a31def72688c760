/- Several texts in one. -/
import Derived.Test.YtgpfjcogaheopaaKit
import Derived.Test.YtgpfjcogaheopaaOwn
import Derived.Test.YtgpfjcogaheopaaStep
import Derived.Test.YtgpfjcogaheopaaPerm
import Derived.Lib.Bytealg
import Derived.Lib.Walk
import Derived.Recover
import Derived.Defers
import Derived.Laws.Pointers
set_option linter.all false
section
/- Strings as lists of bytes; HasPrefix, IndexByte. -/
namespace Go.Proofs.Ytgpfjcogaheopaa.Lx
open Go.RowKit
set_option maxRecDepth 100000
/-- A string's bytes as a list. -/
def sv (l : List UInt8) : Value := .string ⟨l.toArray⟩
theorem sz (l : List UInt8) : (ByteArray.mk l.toArray).size = l.length := by simp [ByteArray.size]
theorem ext_drop (l : List UInt8) (n m : Nat) (hm : m = l.length) : (ByteArray.mk l.toArray).extract n m = ⟨(l.drop n).toArray⟩ := by
 subst hm
 apply ByteArray.ext
 simp [ByteArray.data_extract]
 rw [List.take_of_length_le (by simp)]
theorem ext_take (l : List UInt8) (n : Nat) : (ByteArray.mk l.toArray).extract 0 n = ⟨(l.take n).toArray⟩ := by
 apply ByteArray.ext
 simp [ByteArray.data_extract]
theorem sv_beq (l m : List UInt8) : ((ByteArray.mk l.toArray) == ⟨m.toArray⟩) = (l == m) := by
 show (l.toArray == m.toArray) = _
 simp
set_option maxHeartbeats 400000 in
theorem pre36 (l m : List UInt8) (w : World) (hm : m.length ≤ 1000) (hl : l.length ≤ 9223372036854775807) :
  Calls Try.prog 72 #[sv l, sv m] w fun e w' => e = .returned (.bool (decide (l.take m.length = m))) ∧ w' = w := by
 unfold sv
 have h1 := sz l
 have h2 := sz m
 by_cases hlen : m.length ≤ l.length
 ·have q1 : decide (((ByteArray.mk m.toArray).size : Int) ≤ ((ByteArray.mk l.toArray).size : Int)) = true := by rw [h1, h2]; simp; omega
  have hx := ext_take l m.length
  have hb := sv_beq (l.take m.length) m
  have i1 : (0 : Int) ≤ ((ByteArray.mk m.toArray).size : Int) ∧ ((ByteArray.mk m.toArray).size : Int) ≤ ((ByteArray.mk l.toArray).size : Int) := by rw [h1, h2]; omega
  have hd : decide (l.take m.length = m) = (l.take m.length == m) := by rw [Bool.eq_iff_iff]; simp
  rw [hd]
  go_enter Try.func72, Try.ntmps72
  go_wp2_with fail
  go_ret
  exact ⟨rfl, rfl⟩
 ·have q1 : decide (((ByteArray.mk m.toArray).size : Int) ≤ ((ByteArray.mk l.toArray).size : Int)) = false := by rw [h1, h2]; simp; omega
  have hd : decide (l.take m.length = m) = false := by
   rw [decide_eq_false_iff_not]
   intro e
   have := congrArg List.length e
   rw [List.length_take] at this
   omega
  rw [hd]
  go_enter Try.func72, Try.ntmps72
  go_wp2_with fail
  go_ret
  exact ⟨rfl, rfl⟩
theorem pre34 (l m : List UInt8) (w : World) (hm : m.length ≤ 1000) (hl : l.length ≤ 9223372036854775807) :
  Calls Try.prog 62 #[sv l, sv m] w fun e w' => e = .returned (.bool (decide (l.take m.length = m))) ∧ w' = w := by
 have Hc := hide (pre36 l m w hm hl)
 unfold sv at Hc ⊢
 go_enter Try.func62, Try.ntmps62
 go_wp2_with fail
 refine Hc.out.mono ?_
 rintro e w1 ⟨rfl, rfl⟩
 go_wp2
 go_ret
 exact ⟨rfl, rfl⟩
theorem byte_ne {c d : UInt8} (h : c ≠ d) : ((c.toNat : Int) == (d.toNat : Int)) = false := by
 rw [beq_eq_false_iff_ne]
 intro e
 exact h (UInt8.toNat_inj.1 (by omega))
theorem str_at' (l : List UInt8) (i : Nat) (h : i < l.length) : (ByteArray.mk l.toArray)[i]'(by rw [sz]; exact h) = l[i] := by
 show l.toArray[i] = l[i]
 simp
theorem idx35 (s : ByteArray) (c : Int) (w : World) :
  Calls Try.prog 63 #[.string s, .int .u8 c] w fun e w' => e = .returned (.int .i64 (Lib.indexByte s.data.toList c.toNat.toUInt8)) ∧ w' = w := by
 go_enter Try.func63, Try.ntmps63
 go_wp2
 rw [run_callFunc_extern Try.func73 (by kernel_rfl) (by kernel_rfl) (by kernel_rfl) (e := Extern.BytealgIndexByte.indexByte) (by kernel_rfl), Lib.run_indexByteString]
 simp only [Result.andThen]
 rw [Oper.upon_value]
 go_wp2
 go_ret
 exact ⟨rfl, rfl⟩
theorem idx26 (s : ByteArray) (c : Int) (w : World) :
  Calls Try.prog 51 #[.string s, .int .u8 c] w fun e w' => e = .returned (.int .i64 (Lib.indexByte s.data.toList c.toNat.toUInt8)) ∧ w' = w := by
 have H := hide (idx35 s c)
 go_enter Try.func51, Try.ntmps51
 go_wp2_with fail
 refine (H.out _).mono ?_
 rintro e w1 ⟨rfl, rfl⟩
 go_wp2
 go_ret
 exact ⟨rfl, rfl⟩
theorem getD_at {l : List UInt8} {i : Nat} (h : i < l.length) : l.getD i 0 = l[i] := by
 rw [List.getD_eq_getElem?_getD, List.getElem?_eq_getElem h]; rfl
theorem drop_ne {l : List UInt8} {i : Nat} (h : i < l.length) : l.drop i ≠ [] := by
 intro e
 have := congrArg List.length e
 rw [List.length_drop] at this
 simp at this
 omega
theorem drop_at {l : List UInt8} {i : Nat} (h : i < l.length) : l.drop i = l[i] :: l.drop (i + 1) := List.drop_eq_getElem_cons h
end Go.Proofs.Ytgpfjcogaheopaa.Lx

end
section
/- The reader: more, at, until, sums. What they read, as plain functions. -/
namespace Go.Proofs.Ytgpfjcogaheopaa.Lx
open Go.RowKit
set_option maxRecDepth 100000
/-- How reading a part ends: behind so many bytes; not at all; too deep, so many bytes on. -/
inductive Rs
 | ok (n : Nat)
 | more
 | deep (a : Nat)
def Rs.add (k : Nat) : Rs → Rs
 | .ok n => .ok (k + n)
 | .more => .more
 | .deep a => .deep (k + a)
theorem Rs.add_add (r : Rs) (j k : Nat) : (r.add k).add j = r.add (j + k) := by cases r <;> simp [Rs.add, Nat.add_assoc]
theorem Rs.add_zero (r : Rs) : r.add 0 = r := by cases r <;> simp [Rs.add]
def faultV (a : Int) (e : Int) : PanicEntry := { v := .iface 67 (.agg #[.int .i64 a, .int .i64 e]), recovered := false }
/-- What the reader answers, at place i of a text of L bytes. -/
def Rs.out (i L : Nat) : Rs → Ending
 | .ok n => .returned (.int .i64 ((i : Int) + n))
 | .more => .panicked [faultV L 23]
 | .deep a => .panicked [faultV ((i : Int) + a) 17]
def RAt (w : World) (rb : Nat) (l : List UInt8) (d : Nat) : Prop := Blk w rb 72 #[sv l, .int .i64 d]
theorem RAt.c0 {w : World} {rb : Nat} {l : List UInt8} {d : Nat} (h : RAt w rb l d) : w.cell? ⟨rb, 0, none⟩ = some (.string ⟨l.toArray⟩) := Blk.cell h 0
theorem RAt.c1 {w : World} {rb : Nat} {l : List UInt8} {d : Nat} (h : RAt w rb l d) : w.cell? ⟨rb, 1, none⟩ = some (.int .i64 d) := Blk.cell h 1
theorem post_panic {P : Program} {fn : Func} {R : Ending → World → Prop} {a : Act} {w : World} {chain : List PanicEntry} (hd : a.defers = []) (h : R (.panicked chain) w) : bodyPost P fn R (.panic chain) a w := by
 first
  | exact ⟨hd, h⟩
  | exact h
  | exact ⟨h, hd⟩
set_option maxHeartbeats 1000000 in
theorem more_any (rb d : Nat) (l : List UInt8) (w : World) (h : RAt w rb l d) : Calls Try.prog 74 #[.pointer (some ⟨rb, 0, none⟩)] w fun e w' => e = .panicked [faultV l.length 23] ∧ w' = w := by
 have c0 := h.c0
 have hl := Blk.lt h
 have h1 := sz l
 go_enter Try.func74, Try.ntmps74
 go_wp2_with fail
 exact post_panic rfl ⟨rfl, rfl⟩
set_option maxHeartbeats 1000000 in
theorem at_any (rb d i : Nat) (l t : List UInt8) (w : World) (h : RAt w rb l d) (hi : i ≤ l.length) (hl : l.length ≤ 1000000) (ht : t.length ≤ 1000) :
  Calls Try.prog 50 #[.pointer (some ⟨rb, 0, none⟩), .int .i64 i, sv t] w fun e w' => e = .returned (.bool (decide ((l.drop i).take t.length = t))) ∧ w' = w := by
 have Hp := hide (pre34 (l.drop i) t w ht (by rw [List.length_drop]; omega))
 have c0 := h.c0
 have hlt := Blk.lt h
 have h1 := sz l
 have hx := ext_drop l i l.length rfl
 have hib : (0 : Int) ≤ i ∧ (i : Int) ≤ (l.length : Int) := by omega
 unfold sv at Hp ⊢
 go_enter Try.func50, Try.ntmps50
 go_wp2_with fail
 refine Hp.out.mono ?_
 rintro e w1 ⟨rfl, rfl⟩
 go_wp2
 go_ret
 exact ⟨rfl, rfl⟩
/-- Behind the next byte of a kind. -/
def untilR (c : UInt8) (esc : Bool) : List UInt8 → Rs
 | [] => .more
 | [b] => if esc = true ∧ b = 92 then .more else if b = c then .ok 1 else .more
 | b :: d :: r => if esc = true ∧ b = 92 then (untilR c esc r).add 2 else if b = c then .ok 1 else (untilR c esc (d :: r)).add 1
theorem until_esc {c : UInt8} {esc : Bool} {b : UInt8} {r : List UInt8} (h : esc = true ∧ b = 92) : untilR c esc (b :: r) = (untilR c esc (r.drop 1)).add 2 := by
 cases r with
 | nil => show (if esc = true ∧ b = 92 then Rs.more else _) = _; rw [if_pos h]; rfl
 | cons d r => show (if esc = true ∧ b = 92 then (untilR c esc r).add 2 else _) = _; rw [if_pos h]; rfl
theorem until_hit {c : UInt8} {esc : Bool} {b : UInt8} {r : List UInt8} (h : ¬ (esc = true ∧ b = 92)) (hb : b = c) : untilR c esc (b :: r) = .ok 1 := by
 cases r with
 | nil => show (if esc = true ∧ b = 92 then Rs.more else if b = c then .ok 1 else _) = _; rw [if_neg h, if_pos hb]
 | cons d r => show (if esc = true ∧ b = 92 then (untilR c esc r).add 2 else if b = c then .ok 1 else _) = _; rw [if_neg h, if_pos hb]
theorem until_no {c : UInt8} {esc : Bool} {b : UInt8} {r : List UInt8} (h : ¬ (esc = true ∧ b = 92)) (hb : ¬ b = c) : untilR c esc (b :: r) = (untilR c esc r).add 1 := by
 cases r with
 | nil => show (if esc = true ∧ b = 92 then Rs.more else if b = c then .ok 1 else .more) = _; rw [if_neg h, if_neg hb]; rfl
 | cons d r => show (if esc = true ∧ b = 92 then (untilR c esc r).add 2 else if b = c then .ok 1 else _) = _; rw [if_neg h, if_neg hb]
set_option maxHeartbeats 2000000 in
theorem until_any (rb d i : Nat) (c : UInt8) (esc : Bool) (l : List UInt8) (w : World) (h : RAt w rb l d) (hi : i ≤ l.length) (hl : l.length ≤ 1000000) :
  Calls Try.prog 75 #[.pointer (some ⟨rb, 0, none⟩), .int .i64 i, .int .u8 c.toNat, .bool esc] w fun e w' => e = (untilR c esc (l.drop i)).out i l.length ∧ w' = w := by
 have Hm := hide (more_any rb d l w h)
 have c0 := h.c0
 have hlt := Blk.lt h
 have h1 := sz l
 obtain ⟨R, hR⟩ : ∃ R, (untilR c esc (l.drop i)).add i = R := ⟨_, rfl⟩
 have hout : (untilR c esc (l.drop i)).out i l.length = R.out 0 l.length := by
  rw [← hR]; cases untilR c esc (l.drop i) <;> simp [Rs.add, Rs.out]
 rw [hout]
 have HR0 := hide hR
 clear hR hout h
 go_enter Try.func75, Try.ntmps75
 go_wp2_with fail
 go_loopw [1] (fun v wr => ∃ k : Nat, v = .int .i64 k ∧ k ≤ l.length + 1 ∧ (untilR c esc (l.drop k)).add k = R ∧ wr = w) (fun v _ => l.length + 1 - (intOf v).toNat)
 case atStart => exact ⟨i, rfl, by omega, HR0.out, rfl⟩
 case round =>
  obtain ⟨k, rfl, hk, hres, rfl⟩ := hrel
  have HR := hide hres
  clear hres
  by_cases hlt2 : k < l.length
  ·have q0 : decide ((k : Int) < (l.length : Int)) = true := by simp; omega
   have hat := str_at' l k hlt2
   have hib : (0 : Int) ≤ k ∧ (k : Int) < (l.length : Int) := by omega
   have hdr := drop_at hlt2
   obtain ⟨b, hb⟩ : ∃ b, l[k] = b := ⟨_, rfl⟩
   rw [hb] at hat hdr
   have Hdr := hide hdr
   clear hdr hb
   by_cases he : esc = true ∧ b = 92
   ·obtain ⟨rfl, rfl⟩ := he
    have hst := until_esc (c := c) (esc := true) (b := 92) (r := l.drop (k + 1)) ⟨rfl, rfl⟩
    rw [List.drop_drop] at hst
    have Hst := hide hst
    clear hst
    go_wp2_with fail
    go_roundw
    case rel => exact ⟨k + 2, by go_num, by omega, by rw [← HR.out, Hdr.out, Hst.out, Rs.add_add], trivial⟩
    case measure => simp [intOf]; omega
   ·have hw : esc = false ∨ (esc = true ∧ ((b.toNat : Int) == 92) = false) := by
     cases esc with
     | false => exact .inl rfl
     | true => exact .inr ⟨rfl, byte_ne (fun e => he ⟨rfl, e⟩)⟩
    by_cases hbc : b = c
    ·have hst := until_hit (r := l.drop (k + 1)) he hbc
     have Hst := hide hst
     have qc : ((b.toNat : Int) == (c.toNat : Int)) = true := by rw [hbc]; simp
     clear hst he hbc
     rcases hw with rfl | ⟨rfl, q2⟩
     all_goals
      go_wp2_with fail
      go_ret
      refine ⟨?_, rfl⟩
      rw [← HR.out, Hdr.out, Hst.out]
      simp [Rs.add, Rs.out]
    ·have hst := until_no (r := l.drop (k + 1)) he hbc
     have Hst := hide hst
     have qc : ((b.toNat : Int) == (c.toNat : Int)) = false := byte_ne hbc
     clear hst he hbc
     rcases hw with rfl | ⟨rfl, q2⟩
     all_goals
      go_wp2_with fail
      go_roundw
      case rel => exact ⟨k + 1, by go_num, by omega, by rw [← HR.out, Hdr.out, Hst.out, Rs.add_add], trivial⟩
      case measure => simp [intOf]; omega
  ·have q0 : decide ((k : Int) < (l.length : Int)) = false := by simp; omega
   have hR : R = .more := by
    have := HR.out
    rw [List.drop_eq_nil_of_le (by omega)] at this
    exact this.symm
   subst hR
   go_wp2_with fail
   refine Hm.out.mono ?_
   rintro e w1 ⟨rfl, rfl⟩
   exact post_panic rfl ⟨rfl, rfl⟩
end Go.Proofs.Ytgpfjcogaheopaa.Lx

end
section
/- The reader: sums; what a part is, as plain functions. -/
namespace Go.Proofs.Ytgpfjcogaheopaa.Lx
open Go.RowKit
set_option maxRecDepth 100000
/-- Behind the end of a reckoning. -/
def sumsR : Nat → List UInt8 → Rs
 | _, [] => .more
 | o, b :: r => if b = 40 then (sumsR (o + 1) r).add 1 else if b ≠ 41 then (sumsR o r).add 1 else if 0 < o then (sumsR (o - 1) r).add 1 else if r.take 1 = [41] then .ok 2 else (sumsR o r).add 1
set_option maxHeartbeats 2000000 in
theorem sums_any (rb d i : Nat) (l : List UInt8) (w : World) (h : RAt w rb l d) (hi : i ≤ l.length) (hl : l.length ≤ 1000000) :
  Calls Try.prog 77 #[.pointer (some ⟨rb, 0, none⟩), .int .i64 i] w fun e w' => e = (sumsR 0 (l.drop i)).out i l.length ∧ w' = w := by
 have Hm := hide (more_any rb d l w h)
 have Hat := hide (fun k hk => at_any rb d k l [41, 41] w h hk hl (by decide))
 unfold sv at Hat
 have c0 := h.c0
 have hlt := Blk.lt h
 have h1 := sz l
 obtain ⟨R, hR⟩ : ∃ R, (sumsR 0 (l.drop i)).add i = R := ⟨_, rfl⟩
 have hout : (sumsR 0 (l.drop i)).out i l.length = R.out 0 l.length := by
  rw [← hR]; cases sumsR 0 (l.drop i) <;> simp [Rs.add, Rs.out]
 rw [hout]
 have HR0 := hide hR
 clear hR hout h
 go_enter Try.func77, Try.ntmps77
 go_wp2_with fail
 go_loopw [1, 5] (fun v u wr => ∃ k o : Nat, v = .int .i64 k ∧ u = .int .i64 o ∧ k ≤ l.length ∧ o ≤ k ∧ (sumsR o (l.drop k)).add k = R ∧ wr = w) (fun v _ _ => l.length + 1 - (intOf v).toNat)
 case atStart => exact ⟨i, 0, rfl, rfl, hi, Nat.zero_le _, HR0.out, rfl⟩
 case round =>
  obtain ⟨k, o, rfl, rfl, hk, hok, hres, rfl⟩ := hrel
  have HR := hide hres
  clear hres
  by_cases hlt2 : k < l.length
  ·have q0 : decide ((k : Int) < (l.length : Int)) = true := by simp; omega
   have hat := str_at' l k hlt2
   have hib : (0 : Int) ≤ k ∧ (k : Int) < (l.length : Int) := by omega
   have hdr := drop_at hlt2
   obtain ⟨b, hb⟩ : ∃ b, l[k] = b := ⟨_, rfl⟩
   rw [hb] at hat hdr
   by_cases h40 : b = 40
   ·subst h40
    have Hst := hide (show sumsR o (l.drop k) = (sumsR (o + 1) (l.drop (k + 1))).add 1 by rw [hdr]; rfl)
    clear hdr hb
    go_wp2_with fail
    go_roundw
    case rel => exact ⟨k + 1, o + 1, by go_num, by go_num, by omega, by omega, by rw [← HR.out, Hst.out, Rs.add_add], trivial⟩
    case measure => simp [intOf]; omega
   have q40 : ((b.toNat : Int) == 40) = false := byte_ne h40
   by_cases h41 : b = 41
   ·subst h41
    by_cases ho : 0 < o
    ·have Hst := hide (show sumsR o (l.drop k) = (sumsR (o - 1) (l.drop (k + 1))).add 1 by rw [hdr]; show (if (41 : UInt8) = 40 then _ else if (41 : UInt8) ≠ 41 then _ else if 0 < o then _ else _) = _; rw [if_neg (by decide), if_neg (by decide), if_pos ho])
     have qo : decide ((0 : Int) < (o : Int)) = true := by simp; omega
     obtain ⟨o2, rfl⟩ : ∃ o2, o = o2 + 1 := ⟨o - 1, by omega⟩
     clear hdr hb
     go_wp2_with fail
     go_roundw
     case rel => exact ⟨k + 1, o2, by go_num, by go_num, by omega, by omega, by rw [← HR.out, Hst.out, Rs.add_add]; rfl, trivial⟩
     case measure => simp [intOf]; omega
    ·obtain rfl : o = 0 := by omega
     have hat2 := Hat.out k (by omega)
     have htk : (l.drop k).take 2 = 41 :: (l.drop (k + 1)).take 1 := by rw [hdr]; rfl
     have hdec : decide ((l.drop k).take [(41 : UInt8), 41].length = [41, 41]) = decide ((l.drop (k + 1)).take 1 = [41]) := by
      show decide ((l.drop k).take 2 = [41, 41]) = _
      rw [htk]; simp
     rw [hdec] at hat2
     by_cases h2 : (l.drop (k + 1)).take 1 = [41]
     ·have Hst := hide (show sumsR 0 (l.drop k) = .ok 2 by rw [hdr]; show (if (41 : UInt8) = 40 then _ else if (41 : UInt8) ≠ 41 then _ else if 0 < 0 then _ else if (l.drop (k + 1)).take 1 = [41] then _ else _) = _; rw [if_neg (by decide), if_neg (by decide), if_neg (by decide), if_pos h2])
      rw [decide_eq_true h2] at hat2
      have Hat2 := hide hat2
      clear hdr hb hat2 htk hdec h2
      go_wp2_with fail
      refine Hat2.out.mono ?_
      rintro e w2 ⟨rfl, rfl⟩
      go_wp2_with fail
      go_ret
      refine ⟨?_, rfl⟩
      rw [← HR.out, Hst.out]
      simp [Rs.add, Rs.out]
     ·have Hst := hide (show sumsR 0 (l.drop k) = (sumsR 0 (l.drop (k + 1))).add 1 by rw [hdr]; show (if (41 : UInt8) = 40 then _ else if (41 : UInt8) ≠ 41 then _ else if 0 < 0 then _ else if (l.drop (k + 1)).take 1 = [41] then _ else _) = _; rw [if_neg (by decide), if_neg (by decide), if_neg (by decide), if_neg h2])
      rw [decide_eq_false h2] at hat2
      have Hat2 := hide hat2
      clear hdr hb hat2 htk hdec h2
      go_wp2_with fail
      refine Hat2.out.mono ?_
      rintro e w2 ⟨rfl, rfl⟩
      go_wp2_with fail
      go_roundw
      case rel => exact ⟨k + 1, 0, by go_num, rfl, by omega, by omega, by rw [← HR.out, Hst.out, Rs.add_add], trivial⟩
      case measure => simp [intOf]; omega
   ·have q41 : ((b.toNat : Int) == 41) = false := byte_ne h41
    have q41' : ((b.toNat : Int) != 41) = true := by simp only [bne, q41]; rfl
    have Hst := hide (show sumsR o (l.drop k) = (sumsR o (l.drop (k + 1))).add 1 by rw [hdr]; show (if b = 40 then _ else if b ≠ 41 then _ else _) = _; rw [if_neg h40, if_pos h41])
    clear hdr hb h40 h41
    go_wp2_with fail
    go_roundw
    case rel => exact ⟨k + 1, o, by go_num, rfl, by omega, by omega, by rw [← HR.out, Hst.out, Rs.add_add], trivial⟩
    case measure => simp [intOf]; omega
  ·have q0 : decide ((k : Int) < (l.length : Int)) = false := by simp; omega
   have hR : R = .more := by
    have := HR.out
    rw [List.drop_eq_nil_of_le (by omega)] at this
    cases o <;> exact this.symm
   subst hR
   go_wp2_with fail
   refine Hm.out.mono ?_
   rintro e w1 ⟨rfl, rfl⟩
   exact post_panic rfl ⟨rfl, rfl⟩
/-! ### parts -/
/-- Does a byte begin no part there? -/
def isIn (plain : List UInt8) (c : UInt8) : Bool := decide (0 ≤ Lib.indexByte plain c)
/-- Through parts up to what ends them. -/
def withinR (pf : List UInt8 → Rs) (e : UInt8) (plain : List UInt8) (o : Nat) (t : List UInt8) : Rs :=
 match t with
 | [] => .more
 | c :: r =>
  if c = e then (if o = 0 then .ok 1 else (withinR pf e plain (o - 1) r).add 1)
  else if e = 41 ∧ c = 40 then (withinR pf e plain (o + 1) r).add 1
  else if isIn plain c = true then (withinR pf e plain o r).add 1
  else match pf (c :: r) with
   | .more => .more
   | .deep a => .deep a
   | .ok n => (withinR pf e plain o (r.drop (n - 1))).add (max n 1)
termination_by t.length
decreasing_by
 all_goals simp
 all_goals omega
theorem within_nil (pf : List UInt8 → Rs) (e : UInt8) (plain : List UInt8) (o : Nat) : withinR pf e plain o [] = .more := by rw [withinR]
theorem within_cons (pf : List UInt8 → Rs) (e : UInt8) (plain : List UInt8) (o : Nat) (c : UInt8) (r : List UInt8) : withinR pf e plain o (c :: r) = if c = e then (if o = 0 then .ok 1 else (withinR pf e plain (o - 1) r).add 1)
  else if e = 41 ∧ c = 40 then (withinR pf e plain (o + 1) r).add 1
  else if isIn plain c = true then (withinR pf e plain o r).add 1
  else match pf (c :: r) with
   | .more => .more
   | .deep a => .deep a
   | .ok n => (withinR pf e plain o (r.drop (n - 1))).add (max n 1) := by rw [withinR]
/-- Does a part begin here? -/
def begs (q : Bool) (t : List UInt8) : Bool := decide (t.take 1 = [92]) || decide (t.take 1 = [96]) || decide (t.take 2 = [36, 40]) || decide (t.take 2 = [36, 123]) || (!q && (decide (t.take 1 = [39]) || decide (t.take 1 = [34])))
def partR : Nat → Bool → List UInt8 → Rs
 | 0, q, t => if begs q t = true then .deep 0 else .ok 0
 | lv + 1, q, t =>
  if begs q t = true then
   if t.take 1 = [92] then (if t.length < 2 then .more else .ok 2)
   else if t.take 1 = [96] then (untilR 96 true (t.drop 1)).add 1
   else if t.take 1 = [39] then (untilR 39 false (t.drop 1)).add 1
   else if t.take 1 = [34] then (withinR (partR lv true) 34 [39] 0 (t.drop 1)).add 1
   else if t.take 3 = [36, 40, 40] then (sumsR 0 (t.drop 3)).add 3
   else if t.take 2 = [36, 40] then (withinR (partR lv false) 41 [] 0 (t.drop 2)).add 2
   else if q = true then (withinR (partR lv true) 125 [39] 0 (t.drop 2)).add 2
   else (withinR (partR lv false) 125 [] 0 (t.drop 2)).add 2
  else .ok 0
end Go.Proofs.Ytgpfjcogaheopaa.Lx

end
section
/- The reader: within, where part is known for one level less. -/
namespace Go.Proofs.Ytgpfjcogaheopaa.Lx
open Go.RowKit
set_option maxRecDepth 100000
theorem Rs.add_ok {r : Rs} {k n : Nat} (h : r.add k = .ok n) : ∃ m, r = .ok m ∧ n = k + m := by
 cases r with
 | ok m => injection h with h; exact ⟨m, rfl, h.symm⟩
 | more => cases h
 | deep a => cases h
theorem until_le (c : UInt8) (esc : Bool) : ∀ (t : List UInt8) (n : Nat), untilR c esc t = .ok n → n ≤ t.length
 | [], n, h => by cases h
 | [b], n, h => by
  unfold untilR at h
  split at h
  ·cases h
  ·split at h
   ·injection h with h; subst h; exact Nat.le_refl _
   ·cases h
 | b :: d :: r, n, h => by
  unfold untilR at h
  split at h
  ·obtain ⟨m, hm, rfl⟩ := Rs.add_ok h
   have := until_le c esc r m hm
   simp; omega
  ·split at h
   ·injection h with h; subst h; simp
   ·obtain ⟨m, hm, rfl⟩ := Rs.add_ok h
    have := until_le c esc (d :: r) m hm
    simp at this ⊢; omega
theorem sums_le : ∀ (t : List UInt8) (o n : Nat), sumsR o t = .ok n → n ≤ t.length := by
 intro t
 induction t with
 | nil => intro o n h; cases o <;> cases h
 | cons b r ih =>
  intro o n h
  have hu : sumsR o (b :: r) = if b = 40 then (sumsR (o + 1) r).add 1 else if b ≠ 41 then (sumsR o r).add 1 else if 0 < o then (sumsR (o - 1) r).add 1 else if r.take 1 = [41] then .ok 2 else (sumsR o r).add 1 := by cases o <;> rfl
  rw [hu] at h
  rw [List.length_cons]
  split at h
  ·obtain ⟨m, hm, rfl⟩ := Rs.add_ok h
   have := ih _ _ hm; omega
  ·split at h
   ·obtain ⟨m, hm, rfl⟩ := Rs.add_ok h
    have := ih _ _ hm; omega
   ·split at h
    ·obtain ⟨m, hm, rfl⟩ := Rs.add_ok h
     have := ih _ _ hm; omega
    ·split at h
     ·rename_i h2
      injection h with h
      have := congrArg List.length h2
      rw [List.length_take] at this
      simp at this
      omega
     ·obtain ⟨m, hm, rfl⟩ := Rs.add_ok h
      have := ih _ _ hm; omega
theorem within_le {pf : List UInt8 → Rs} (hpf : ∀ t n, pf t = .ok n → n ≤ t.length) (e : UInt8) (plain : List UInt8) : ∀ (L : Nat) (t : List UInt8) (o n : Nat), t.length = L → withinR pf e plain o t = .ok n → n ≤ t.length := by
 intro L
 induction L using Nat.strongRecOn with
 | ind L ih =>
  intro t o n hL h
  match t, hL, h with
  | [], _, h => rw [within_nil] at h; cases h
  | c :: r, hL, h =>
   rw [List.length_cons] at hL ⊢
   rw [within_cons] at h
   split at h
   ·split at h
    ·injection h with h; omega
    ·obtain ⟨m, hm, rfl⟩ := Rs.add_ok h
     have := ih _ (by omega) r _ _ rfl hm; omega
   ·split at h
    ·obtain ⟨m, hm, rfl⟩ := Rs.add_ok h
     have := ih _ (by omega) r _ _ rfl hm; omega
    ·split at h
     ·obtain ⟨m, hm, rfl⟩ := Rs.add_ok h
      have := ih _ (by omega) r _ _ rfl hm; omega
     ·cases hp : pf (c :: r) with
      | more => rw [hp] at h; cases h
      | deep a => rw [hp] at h; cases h
      | ok q =>
       rw [hp] at h
       have h1 := hpf _ _ hp
       rw [List.length_cons] at h1
       obtain ⟨m, hm, rfl⟩ := Rs.add_ok h
       have := ih _ (by rw [List.length_drop]; omega) (r.drop (q - 1)) _ _ rfl hm
       rw [List.length_drop] at this
       omega
theorem take_len {t m : List UInt8} {k : Nat} (h : t.take k = m) : m.length ≤ t.length := by
 rw [← h, List.length_take]; omega
theorem part_le : ∀ (lv : Nat) (q : Bool) (t : List UInt8) (n : Nat), partR lv q t = .ok n → n ≤ t.length := by
 intro lv
 induction lv with
 | zero =>
  intro q t n h
  unfold partR at h
  split at h
  ·cases h
  ·injection h with h; omega
 | succ lv ih =>
  intro q t n h
  unfold partR at h
  have hw := fun q e p => within_le (ih q) e p
  split at h
  ·split at h
   ·split at h
    ·cases h
    ·injection h with h; omega
   ·split at h
    ·rename_i h9
     have h8 := take_len h9
     obtain ⟨m, hm, rfl⟩ := Rs.add_ok h
     have := until_le _ _ _ _ hm
     rw [List.length_drop] at this
     simp at h8; omega
    ·split at h
     ·rename_i h9
      have h8 := take_len h9
      obtain ⟨m, hm, rfl⟩ := Rs.add_ok h
      have := until_le _ _ _ _ hm
      rw [List.length_drop] at this
      simp at h8; omega
     ·split at h
      ·rename_i h9
       have h8 := take_len h9
       obtain ⟨m, hm, rfl⟩ := Rs.add_ok h
       have := hw _ _ _ _ _ _ _ rfl hm
       rw [List.length_drop] at this
       simp at h8; omega
      ·split at h
       ·rename_i h9
        have h8 := take_len h9
        obtain ⟨m, hm, rfl⟩ := Rs.add_ok h
        have := sums_le _ _ _ hm
        rw [List.length_drop] at this
        simp at h8; omega
       ·split at h
        ·rename_i h9
         have h8 := take_len h9
         obtain ⟨m, hm, rfl⟩ := Rs.add_ok h
         have := hw _ _ _ _ _ _ _ rfl hm
         rw [List.length_drop] at this
         simp at h8; omega
        ·rename_i b1 b2 b3 b4 b5 b6 b7
         have h8 : 2 ≤ t.length := by
          unfold begs at b1
          simp only [Bool.or_eq_true, decide_eq_true_eq, Bool.and_eq_true] at b1
          rcases b1 with (((b1 | b1) | b1) | b1) | ⟨_, b1 | b1⟩
          ·exact (b2 b1).elim
          ·exact (b3 b1).elim
          ·exact (b7 b1).elim
          ·have := take_len b1; simpa using this
          ·exact (b4 b1).elim
          ·exact (b5 b1).elim
         split at h
         ·obtain ⟨m, hm, rfl⟩ := Rs.add_ok h
          have := hw _ _ _ _ _ _ _ rfl hm
          rw [List.length_drop] at this
          omega
         ·obtain ⟨m, hm, rfl⟩ := Rs.add_ok h
          have := hw _ _ _ _ _ _ _ rfl hm
          rw [List.length_drop] at this
          omega
  ·injection h with h; omega
/-- What part does, at a level. -/
def PartOk (lv : Nat) : Prop := ∀ (rb d i : Nat) (q : Bool) (l : List UInt8) (w : World), RAt w rb l d → lv + d = 25 → i < l.length → l.length ≤ 1000000 →
 Calls Try.prog 64 #[.pointer (some ⟨rb, 0, none⟩), .int .i64 i, .bool q] w fun e w' => e = (partR lv q (l.drop i)).out i l.length ∧ w.grownBy w' (some rb) ∧ ∀ n, partR lv q (l.drop i) = .ok n → RAt w' rb l d
theorem RAt.setd {w : World} {rb : Nat} {l : List UInt8} {d : Nat} (h : RAt w rb l d) (d' : Nat) {x : Int} (hx : x = d') : RAt (w.setCell ⟨rb, 1, none⟩ (.int .i64 x)) rb l d' := by
 subst hx
 exact Blk.set_ h 1 _
set_option maxHeartbeats 4000000 in
theorem within_any (lv : Nat) (hp : PartOk lv) (rb d i : Nat) (e : UInt8) (plain : List UInt8) (q : Bool) (l : List UInt8) (w : World) (h : RAt w rb l d) (hd : lv + d + 1 = 25) (hi : i ≤ l.length) (hl : l.length ≤ 1000000) :
  Calls Try.prog 76 #[.pointer (some ⟨rb, 0, none⟩), .int .i64 i, .int .u8 e.toNat, sv plain, .bool q] w fun en w' => en = (withinR (partR lv q) e plain 0 (l.drop i)).out i l.length ∧ w.grownBy w' (some rb) ∧ ∀ n, withinR (partR lv q) e plain 0 (l.drop i) = .ok n → RAt w' rb l d := by
 have h1 := sz l
 obtain ⟨R, hR⟩ : ∃ R, (withinR (partR lv q) e plain 0 (l.drop i)).add i = R := ⟨_, rfl⟩
 have hout : (withinR (partR lv q) e plain 0 (l.drop i)).out i l.length = R.out 0 l.length := by
  rw [← hR]; cases withinR (partR lv q) e plain 0 (l.drop i) <;> simp [Rs.add, Rs.out]
 have hok : ∀ w', ((∃ n, R = .ok n) → RAt w' rb l d) → ∀ n, withinR (partR lv q) e plain 0 (l.drop i) = .ok n → RAt w' rb l d := fun w' hw n hn => hw ⟨i + n, by rw [← hR, hn]; rfl⟩
 suffices H : Calls Try.prog 76 #[.pointer (some ⟨rb, 0, none⟩), .int .i64 i, .int .u8 e.toNat, sv plain, .bool q] w fun en w' => en = R.out 0 l.length ∧ w.grownBy w' (some rb) ∧ ((∃ n, R = .ok n) → RAt w' rb l d) by
  refine H.mono ?_
  rintro en w' ⟨rfl, hg, hw⟩
  exact ⟨hout.symm, hg, hok w' hw⟩
 have HR0 := hide hR
 have Hp := hide hp
 have H0 := hide h
 have c0 := h.c0
 have c1 := h.c1
 have hz := Blk.frozen h 1
 have hlt := Blk.lt h
 have Hidx := hide (fun (c : UInt8) w' => idx26 ⟨plain.toArray⟩ c.toNat w')
 clear hR hout hok hp h
 unfold sv
 go_enter Try.func76, Try.ntmps76
 go_wp2_with fail
 have HS := hide (H0.out.setd (d + 1) (x := (d : Int) + 1) (by omega))
 have HGS := hide (only_setCell (only_refl w (some rb)) (p := ⟨rb, 1, none⟩) (.inl rfl) (.int .i64 ((d : Int) + 1)))
 clear c0 c1 hz hlt
 go_loopw [1, 11] (fun v u wr => ∃ k o : Nat, v = .int .i64 k ∧ u = .int .i64 o ∧ k ≤ l.length ∧ o ≤ k ∧ RAt wr rb l (d + 1) ∧ w.grownBy wr (some rb) ∧ (withinR (partR lv q) e plain o (l.drop k)).add k = R) (fun v _ _ => l.length + 1 - (intOf v).toNat)
 case atStart => exact ⟨i, 0, rfl, rfl, hi, Nat.zero_le _, HS.out, HGS.out, HR0.out⟩
 case round =>
  obtain ⟨k, o, rfl, rfl, hk, hok, hA, hG, hres⟩ := hrel
  have HA := hide hA
  have HG := hide hG
  have HR := hide hres
  have c0 := hA.c0
  have c1 := hA.c1
  have hz := Blk.frozen hA 1
  have hlt := Blk.lt hA
  clear hA hG hres HS HGS
  by_cases hlt2 : k < l.length
  ·have q0 : decide ((k : Int) < (l.length : Int)) = true := by simp; omega
   have hat := str_at' l k hlt2
   have hib : (0 : Int) ≤ k ∧ (k : Int) < (l.length : Int) := by omega
   have hdr := drop_at hlt2
   obtain ⟨c, hc⟩ : ∃ c, l[k] = c := ⟨_, rfl⟩
   rw [hc] at hat hdr
   have hst := within_cons (partR lv q) e plain o c (l.drop (k + 1))
   rw [← hdr] at hst
   by_cases hce : c = e
   ·have qce : ((c.toNat : Int) == (e.toNat : Int)) = true := by rw [hce]; simp
    rw [if_pos hce] at hst
    by_cases ho : o = 0
    ·subst ho
     rw [if_pos rfl] at hst
     have Hst := hide hst
     clear hst hdr hc hce
     go_wp2_with fail
     refine bodyPost_ret (results_tmp rfl _ _ _) rfl ⟨?_, only_setCell HG.out (.inl rfl) _, fun _ => HA.out.setd d (by omega)⟩
     rw [← HR.out, Hst.out]
     simp [Rs.add, Rs.out]
    ·obtain ⟨o2, rfl⟩ : ∃ o2, o = o2 + 1 := ⟨o - 1, by omega⟩
     rw [if_neg (by omega)] at hst
     have Hst := hide hst
     have qo : (((o2 : Int) + 1) == 0) = false := by rw [beq_eq_false_iff_ne]; omega
     have qo2 : ((o2 : Int) + 1 = 0) = False := by simp; omega
     clear hst hdr hc hce
     go_wp2_with fail
     go_roundw
     case rel => exact ⟨k + 1, o2, by go_num, by go_num, by omega, by omega, HA.out, HG.out, by rw [← HR.out, Hst.out, Rs.add_add]; rfl⟩
     case measure => simp [intOf]; omega
   rw [if_neg hce] at hst
   have qce : ((c.toNat : Int) == (e.toNat : Int)) = false := byte_ne hce
   by_cases h41 : e = 41 ∧ c = 40
   ·rw [if_pos h41] at hst
    have Hst := hide hst
    obtain ⟨rfl, rfl⟩ := h41
    clear hst hdr hc hce
    go_wp2_with fail
    go_roundw
    case rel => exact ⟨k + 1, o + 1, by go_num, by go_num, by omega, by omega, HA.out, HG.out, by rw [← HR.out, Hst.out, Rs.add_add]⟩
    case measure => simp [intOf]; omega
   rw [if_neg h41] at hst
   have hw : ((e.toNat : Int) == 41) = false ∨ (((e.toNat : Int) == 41) = true ∧ ((c.toNat : Int) == 40) = false) := by
    by_cases he : e = 41
    ·exact .inr ⟨by rw [he]; rfl, byte_ne (d := 40) (fun hh => h41 ⟨he, hh⟩)⟩
    ·exact .inl (byte_ne (d := 41) he)
   have hx := fun w' => Hidx.out c w'
   have e1 : ((c.toNat : Int).toNat.toUInt8) = c := by simp
   rw [e1] at hx
   obtain ⟨x, hx0⟩ : ∃ x, Lib.indexByte (ByteArray.mk plain.toArray).data.toList c = x := ⟨_, rfl⟩
   rw [hx0] at hx
   have hsp : isIn plain c = decide (0 ≤ x) := by rw [← hx0]; unfold isIn; simp
   rw [hsp] at hst
   have Hx := hide hx
   by_cases h0 : 0 ≤ x
   ·have qx : decide ((0 : Int) ≤ x) = true := by simpa using h0
    rw [if_pos qx] at hst
    have Hst := hide hst
    clear hst hdr hc hce h41 hx hx0 hsp e1
    rcases hw with q3 | ⟨q3, q4⟩
    all_goals
     go_wp2_with fail
     refine (Hx.out _).mono ?_
     rintro en w2 ⟨rfl, rfl⟩
     go_wp2_with fail
     go_roundw
     case rel => exact ⟨k + 1, o, by go_num, by go_num, by omega, by omega, HA.out, HG.out, by rw [← HR.out, Hst.out, Rs.add_add]⟩
     case measure => simp [intOf]; omega
   ·have qx : decide ((0 : Int) ≤ x) = false := by simpa using h0
    rw [if_neg (by rw [qx]; decide)] at hst
    have hpt := fun w' hw' => Hp.out rb (d + 1) k q l w' hw' (by omega) hlt2 hl
    obtain ⟨P, hP⟩ : ∃ P, partR lv q (l.drop k) = P := ⟨_, rfl⟩
    rw [hP] at hst hpt
    have hpl : ∀ n, P = .ok n → k + n ≤ l.length := fun n hn => by
     have := part_le lv q (l.drop k) n (by rw [hP, hn])
     rw [List.length_drop] at this
     omega
    have Hst := hide hst
    have Hpt := hide (hpt wr HA.out)
    clear hst hdr hc hce h41 hx hx0 hsp e1 hpt hP
    cases P with
    | more =>
     unfold Rs.out at Hpt
     rcases hw with q3 | ⟨q3, q4⟩
     all_goals
      go_wp2_with fail
      refine (Hx.out _).mono ?_
      rintro en w2 ⟨rfl, rfl⟩
      go_wp2_with fail
      refine Hpt.out.mono ?_
      rintro en w3 ⟨rfl, hg3, _⟩
      refine And.intro rfl (And.intro ?_ (And.intro (only_trans HG.out hg3) ?_))
      ·rw [← HR.out, Hst.out]; rfl
      ·rintro ⟨n, hn⟩; rw [← HR.out, Hst.out] at hn; cases hn
    | deep a =>
     unfold Rs.out at Hpt
     rcases hw with q3 | ⟨q3, q4⟩
     all_goals
      go_wp2_with fail
      refine (Hx.out _).mono ?_
      rintro en w2 ⟨rfl, rfl⟩
      go_wp2_with fail
      refine Hpt.out.mono ?_
      rintro en w3 ⟨rfl, hg3, _⟩
      refine And.intro rfl (And.intro ?_ (And.intro (only_trans HG.out hg3) ?_))
      ·rw [← HR.out, Hst.out]; simp [Rs.add, Rs.out]
      ·rintro ⟨n, hn⟩; rw [← HR.out, Hst.out] at hn; cases hn
    | ok n =>
     have hn := hpl n rfl
     have hdd : (l.drop (k + 1)).drop (n - 1) = l.drop (k + max n 1) := by rw [List.drop_drop]; congr 1; omega
     have hst2 := Hst.out
     simp only [hdd] at hst2
     have Hst2 := hide hst2
     clear hst2 hdd hpl
     unfold Rs.out at Hpt
     rcases hw with q3 | ⟨q3, q4⟩
     all_goals
      go_wp2_with fail
      refine (Hx.out _).mono ?_
      rintro en w2 ⟨rfl, rfl⟩
      go_wp2_with fail
      refine Hpt.out.mono ?_
      rintro en w3 ⟨rfl, hg3, hok3⟩
      have HA3 := hide (hok3 n rfl)
      have HG3 := hide (only_trans HG.out hg3)
      clear hg3 hok3
      go_wp2_with (first | (refine wpList_max ((k + max n 1 : Nat) : Int) ((k : Int) + n) ((k : Int) + 1) rfl rfl (by omega) ?_))
      go_roundw
      case rel => exact ⟨k + max n 1, o, by go_num, by go_num, by omega, by omega, HA3.out, HG3.out, by rw [← HR.out, Hst2.out, Rs.add_add]⟩
      case measure => simp [intOf]; omega
  ·have q0 : decide ((k : Int) < (l.length : Int)) = false := by simp; omega
   have hR : R = .more := by
    have := HR.out
    rw [List.drop_eq_nil_of_le (by omega), within_nil] at this
    exact this.symm
   subst hR
   have Hm := hide (more_any rb (d + 1) l wr HA.out)
   go_wp2_with fail
   refine Hm.out.mono ?_
   rintro en w1 ⟨rfl, rfl⟩
   exact post_panic rfl ⟨rfl, HG.out, fun ⟨n, hn⟩ => by cases hn⟩
end Go.Proofs.Ytgpfjcogaheopaa.Lx

end
section
/- The reader: part. -/
namespace Go.Proofs.Ytgpfjcogaheopaa.Lx
open Go.RowKit
set_option maxRecDepth 100000
theorem out_add (r : Rs) (i k L : Nat) : (r.add k).out i L = r.out (i + k) L := by
 cases r with
 | ok n => simp [Rs.add, Rs.out]; omega
 | more => rfl
 | deep a => simp [Rs.add, Rs.out, faultV]; omega
theorem take1 {l : List UInt8} {i : Nat} {c : UInt8} (h : i < l.length) (hc : l[i] = c) (d : UInt8) : ((l.drop i).take 1 = [d]) ↔ c = d := by
 rw [drop_at h, hc]
 show [c] = [d] ↔ _
 simp
theorem take2c {l : List UInt8} {i : Nat} {c a b : UInt8} (h : i < l.length) (hc : l[i] = c) (h2 : (l.drop i).take 2 = [a, b]) : c = a := by
 rw [drop_at h, hc] at h2
 have : c :: (l.drop (i + 1)).take 1 = [a, b] := h2
 injection this
theorem take3_2 {t : List UInt8} {a b c : UInt8} (h : t.take 3 = [a, b, c]) : t.take 2 = [a, b] := by
 match t, h with
 | [], h => cases h
 | [x], h => cases h
 | [x, y], h => cases h
 | x :: y :: z :: r, h =>
  have : [x, y, z] = [a, b, c] := h
  injection this with e1 e2
  injection e2 with e2 e3
  subst e1 e2
  rfl
/-- How part's walk ends, where it calls another reader. -/
theorem part_end {lv rb d i k : Nat} {q : Bool} {l : List UInt8} {w w' : World} {r : Rs} {e : Ending} (hr : partR lv q (l.drop i) = r.add k) (he : e = r.out (i + k) l.length) (hg : w.grownBy w' (some rb)) (hok : ∀ n, r = .ok n → RAt w' rb l d) :
  e = (partR lv q (l.drop i)).out i l.length ∧ w.grownBy w' (some rb) ∧ ∀ n, partR lv q (l.drop i) = .ok n → RAt w' rb l d := by
 refine ⟨by rw [hr, out_add, he], hg, fun n hn => ?_⟩
 rw [hr] at hn
 obtain ⟨m, hm, _⟩ := Rs.add_ok hn
 exact hok m hm
theorem out_cases (r : Rs) (i L : Nat) : (∃ n, r = .ok n ∧ r.out i L = .returned (.int .i64 ((i : Int) + n))) ∨ (∃ f, r.out i L = .panicked [f] ∧ ∀ n, r ≠ .ok n) := by
 cases r with
 | ok n => exact .inl ⟨n, rfl, rfl⟩
 | more => exact .inr ⟨_, rfl, fun n h => by cases h⟩
 | deep a => exact .inr ⟨_, rfl, fun n h => by cases h⟩
theorem begs_iff (q : Bool) (t : List UInt8) : begs q t = true ↔ t.take 1 = [92] ∨ t.take 1 = [96] ∨ t.take 2 = [36, 40] ∨ t.take 2 = [36, 123] ∨ (q = false ∧ (t.take 1 = [39] ∨ t.take 1 = [34])) := by
 unfold begs
 simp only [Bool.or_eq_true, Bool.and_eq_true, decide_eq_true_eq, Bool.not_eq_true', or_assoc]
set_option maxHeartbeats 8000000 in
theorem part_zero : PartOk 0 := by
 intro rb d i q l w h hd hi hl
 have Hat1 := hide (at_any rb d i l [36, 40] w h (by omega) hl (by decide))
 have Hat2 := hide (at_any rb d i l [36, 123] w h (by omega) hl (by decide))
 have Hat3 := hide (at_any rb d i l [36, 40, 40] w h (by omega) hl (by decide))
 unfold sv at Hat1 Hat2 Hat3
 have H0 := hide h
 have c0 := h.c0
 have c1 := h.c1
 have hlt := Blk.lt h
 have h1 := sz l
 have hat := str_at' l i hi
 have hib : (0 : Int) ≤ i ∧ (i : Int) < (l.length : Int) := by omega
 obtain ⟨c, hc⟩ : ∃ c, l[i] = c := ⟨_, rfl⟩
 rw [hc] at hat
 have t1 := fun e => take1 hi hc e
 have t2 := fun a b (hh : (l.drop i).take 2 = [a, b]) => take2c hi hc hh
 have tl : 1 ≤ (l.drop i).length := by rw [List.length_drop]; omega
 have tl2 : (l.drop i).length < 2 ↔ l.length < i + 2 := by rw [List.length_drop]; omega
 have hB := begs_iff q (l.drop i)
 obtain ⟨t, ht⟩ : ∃ t, l.drop i = t := ⟨_, rfl⟩
 have hdrop : ∀ k, l.drop (i + k) = t.drop k := fun k => by rw [← ht, List.drop_drop]
 rw [ht] at Hat1 Hat2 Hat3 t1 t2 tl tl2 hB
 simp only [List.length_cons, List.length_nil, Nat.zero_add, Nat.reduceAdd] at Hat1 Hat2 Hat3
 suffices HH : Calls Try.prog 64 #[.pointer (some ⟨rb, 0, none⟩), .int .i64 i, .bool q] w fun e w' => e = (partR 0 q t).out i l.length ∧ w.grownBy w' (some rb) ∧ ∀ n, partR 0 q t = .ok n → RAt w' rb l d by
  rw [ht]; exact HH
 have qd : decide ((24 : Int) < (d : Int)) = true := by simp; omega
 have hyes : begs q t = true → partR 0 q t = .deep 0 := fun hh => by unfold partR; rw [if_pos hh]
 have hno : ¬ begs q t = true → partR 0 q t = .ok 0 := fun hh => by unfold partR; rw [if_neg hh]
 by_cases h92 : c = 92
 ·subst h92
  rw [hyes (hB.2 (.inl ((t1 92).2 rfl)))]
  clear hyes hno t1 t2 hB hdrop h
  go_enter Try.func64, Try.ntmps64
  go_wp2_with fail
  exact post_panic rfl ⟨by simp [Rs.out, faultV], only_refl _ _, fun n hn => by cases hn⟩
 have q92 : ((c.toNat : Int) == 92) = false := byte_ne h92
 by_cases h96 : c = 96
 ·subst h96
  rw [hyes (hB.2 (.inr (.inl ((t1 96).2 rfl))))]
  clear hyes hno t1 t2 hB hdrop h
  go_enter Try.func64, Try.ntmps64
  go_wp2_with fail
  exact post_panic rfl ⟨by simp [Rs.out, faultV], only_refl _ _, fun n hn => by cases hn⟩
 have q96 : ((c.toNat : Int) == 96) = false := byte_ne h96
 by_cases b1 : t.take 2 = [36, 40]
 ·obtain rfl := t2 _ _ b1
  have Hat1 := hide (show Calls Try.prog 50 #[.pointer (some ⟨rb, 0, none⟩), .int .i64 i, .string ⟨#[36, 40]⟩] w fun e w' => e = .returned (.bool true) ∧ w' = w from by have := Hat1.out; rw [decide_eq_true b1] at this; exact this)
  rw [hyes (hB.2 (.inr (.inr (.inl b1))))]
  clear hyes hno t1 t2 hB hdrop h b1
  go_enter Try.func64, Try.ntmps64
  go_wp2_with fail
  refine Hat1.out.mono ?_
  rintro e w2 ⟨rfl, rfl⟩
  go_wp2_with fail
  exact post_panic rfl ⟨by simp [Rs.out, faultV], only_refl _ _, fun n hn => by cases hn⟩
 have Hat1 := hide (show Calls Try.prog 50 #[.pointer (some ⟨rb, 0, none⟩), .int .i64 i, .string ⟨#[36, 40]⟩] w fun e w' => e = .returned (.bool false) ∧ w' = w from by have := Hat1.out; rw [decide_eq_false b1] at this; exact this)
 by_cases b2 : t.take 2 = [36, 123]
 ·obtain rfl := t2 _ _ b2
  have Hat2 := hide (show Calls Try.prog 50 #[.pointer (some ⟨rb, 0, none⟩), .int .i64 i, .string ⟨#[36, 123]⟩] w fun e w' => e = .returned (.bool true) ∧ w' = w from by have := Hat2.out; rw [decide_eq_true b2] at this; exact this)
  rw [hyes (hB.2 (.inr (.inr (.inr (.inl b2)))))]
  clear hyes hno t1 t2 hB hdrop h b1 b2
  go_enter Try.func64, Try.ntmps64
  go_wp2_with fail
  refine Hat1.out.mono ?_
  rintro e w2 ⟨rfl, rfl⟩
  go_wp2_with fail
  refine Hat2.out.mono ?_
  rintro e w2 ⟨rfl, rfl⟩
  go_wp2_with fail
  exact post_panic rfl ⟨by simp [Rs.out, faultV], only_refl _ _, fun n hn => by cases hn⟩
 have Hat2 := hide (show Calls Try.prog 50 #[.pointer (some ⟨rb, 0, none⟩), .int .i64 i, .string ⟨#[36, 123]⟩] w fun e w' => e = .returned (.bool false) ∧ w' = w from by have := Hat2.out; rw [decide_eq_false b2] at this; exact this)
 by_cases hq : q = false ∧ c = 39
 ·obtain ⟨rfl, rfl⟩ := hq
  rw [hyes (hB.2 (.inr (.inr (.inr (.inr ⟨rfl, .inl ((t1 39).2 rfl)⟩)))))]
  clear hyes hno t1 t2 hB hdrop h b1 b2
  go_enter Try.func64, Try.ntmps64
  go_wp2_with fail
  refine Hat1.out.mono ?_
  rintro e w2 ⟨rfl, rfl⟩
  go_wp2_with fail
  refine Hat2.out.mono ?_
  rintro e w2 ⟨rfl, rfl⟩
  go_wp2_with fail
  exact post_panic rfl ⟨by simp [Rs.out, faultV], only_refl _ _, fun n hn => by cases hn⟩
 by_cases hq2 : q = false ∧ c = 34
 ·obtain ⟨rfl, rfl⟩ := hq2
  rw [hyes (hB.2 (.inr (.inr (.inr (.inr ⟨rfl, .inr ((t1 34).2 rfl)⟩)))))]
  clear hyes hno t1 t2 hB hdrop h b1 b2
  go_enter Try.func64, Try.ntmps64
  go_wp2_with fail
  refine Hat1.out.mono ?_
  rintro e w2 ⟨rfl, rfl⟩
  go_wp2_with fail
  refine Hat2.out.mono ?_
  rintro e w2 ⟨rfl, rfl⟩
  go_wp2_with fail
  exact post_panic rfl ⟨by simp [Rs.out, faultV], only_refl _ _, fun n hn => by cases hn⟩
 have hbf : ¬ begs q t = true := by
  rw [hB]
  rintro (hh | hh | hh | hh | ⟨h1, hh | hh⟩)
  ·exact h92 ((t1 92).1 hh)
  ·exact h96 ((t1 96).1 hh)
  ·exact b1 hh
  ·exact b2 hh
  ·exact hq ⟨h1, (t1 39).1 hh⟩
  ·exact hq2 ⟨h1, (t1 34).1 hh⟩
 rw [hno hbf]
 have ways : q = true ∨ (q = false ∧ ((c.toNat : Int) == 39) = false ∧ ((c.toNat : Int) == 34) = false) := by
  cases q with
  | true => exact .inl rfl
  | false => exact .inr ⟨rfl, byte_ne (d := 39) (fun e => hq ⟨rfl, e⟩), byte_ne (d := 34) (fun e => hq2 ⟨rfl, e⟩)⟩
 clear hyes hno hbf t1 t2 hB hdrop h b1 b2 hq hq2 h92 h96
 rcases ways with rfl | ⟨rfl, q39, q34⟩
 all_goals
  go_enter Try.func64, Try.ntmps64
  go_wp2_with fail
  refine Hat1.out.mono ?_
  rintro e w2 ⟨rfl, rfl⟩
  go_wp2_with fail
  refine Hat2.out.mono ?_
  rintro e w2 ⟨rfl, rfl⟩
  go_wp2_with fail
  exact bodyPost_ret (results_tmp (t := 6) rfl _ _ _) rfl ⟨by simp [Rs.out], only_refl _ _, fun n hn => H0.out⟩
set_option maxHeartbeats 8000000 in
theorem part_succ (lv : Nat) (hp : PartOk lv) : PartOk (lv + 1) := by
 intro rb d i q l w h hd hi hl
 have Hat1 := hide (at_any rb d i l [36, 40] w h (by omega) hl (by decide))
 have Hat2 := hide (at_any rb d i l [36, 123] w h (by omega) hl (by decide))
 have Hat3 := hide (at_any rb d i l [36, 40, 40] w h (by omega) hl (by decide))
 unfold sv at Hat1 Hat2 Hat3
 have H0 := hide h
 have c0 := h.c0
 have c1 := h.c1
 have hlt := Blk.lt h
 have h1 := sz l
 have hat := str_at' l i hi
 have hib : (0 : Int) ≤ i ∧ (i : Int) < (l.length : Int) := by omega
 obtain ⟨c, hc⟩ : ∃ c, l[i] = c := ⟨_, rfl⟩
 rw [hc] at hat
 have t1 := fun e => take1 hi hc e
 have t2 := fun a b (hh : (l.drop i).take 2 = [a, b]) => take2c hi hc hh
 have tl : 1 ≤ (l.drop i).length := by rw [List.length_drop]; omega
 have tl2 : (l.drop i).length < 2 ↔ l.length < i + 2 := by rw [List.length_drop]; omega
 have hB := begs_iff q (l.drop i)
 obtain ⟨t, ht⟩ : ∃ t, l.drop i = t := ⟨_, rfl⟩
 have hdrop : ∀ k, l.drop (i + k) = t.drop k := fun k => by rw [← ht, List.drop_drop]
 rw [ht] at Hat1 Hat2 Hat3 t1 t2 tl tl2 hB
 simp only [List.length_cons, List.length_nil, Nat.zero_add, Nat.reduceAdd] at Hat1 Hat2 Hat3
 suffices HH : Calls Try.prog 64 #[.pointer (some ⟨rb, 0, none⟩), .int .i64 i, .bool q] w fun e w' => e = (partR (lv + 1) q t).out i l.length ∧ w.grownBy w' (some rb) ∧ ∀ n, partR (lv + 1) q t = .ok n → RAt w' rb l d by
  rw [ht]; exact HH
 have part_end' : ∀ (k : Nat) (w' : World) (r : Rs) (e : Ending), partR (lv + 1) q t = r.add k → e = r.out (i + k) l.length → w.grownBy w' (some rb) → (∀ n, r = .ok n → RAt w' rb l d) → e = (partR (lv + 1) q t).out i l.length ∧ w.grownBy w' (some rb) ∧ ∀ n, partR (lv + 1) q t = .ok n → RAt w' rb l d := by
  intro k w' r e h1 h2 h3 h4
  have := part_end (lv := lv + 1) (q := q) (l := l) (i := i) (by rw [ht]; exact h1) h2 h3 h4
  rwa [ht] at this
 have Hend := hide part_end'
 have qd : decide ((24 : Int) < (d : Int)) = false := by simp; omega
 have hwi := fun (k : Nat) (e : UInt8) (plain : List UInt8) (qq : Bool) (hk : i + k ≤ l.length) => within_any lv hp rb d (i + k) e plain qq l w H0.out (by omega) hk hl
 unfold sv at hwi
 by_cases h92 : c = 92
 ·subst h92
  have hbt : begs q t = true := hB.2 (.inl ((t1 92).2 rfl))
  have hpr : partR (lv + 1) q t = if t.length < 2 then .more else .ok 2 := by unfold partR; rw [if_pos hbt, if_pos ((t1 92).2 rfl)]
  by_cases h2 : l.length < i + 2
  ·have q2 : decide ((l.length : Int) < (i : Int) + 2) = true := by simp; omega
   rw [if_pos (tl2.2 h2)] at hpr
   have Hm := hide (more_any rb d l w h)
   rw [hpr]
   clear hpr t1 t2 hB hdrop hwi part_end' h
   go_enter Try.func64, Try.ntmps64
   go_wp2_with fail
   refine Hm.out.mono ?_
   rintro e w9 ⟨rfl, rfl⟩
   exact post_panic rfl ⟨rfl, only_refl _ _, fun n hn => by cases hn⟩
  ·have q2 : decide ((l.length : Int) < (i : Int) + 2) = false := by simp; omega
   rw [if_neg (fun hh => h2 (tl2.1 hh))] at hpr
   rw [hpr]
   clear hpr t1 t2 hB hdrop hwi part_end' h
   go_enter Try.func64, Try.ntmps64
   go_wp2_with fail
   refine bodyPost_ret (results_tmp (t := 6) rfl _ _ _) rfl ⟨rfl, only_refl _ _, fun n hn => H0.out⟩
 have q92 : ((c.toNat : Int) == 92) = false := byte_ne h92
 by_cases h96 : c = 96
 ·subst h96
  have hbt : begs q t = true := hB.2 (.inr (.inl ((t1 96).2 rfl)))
  obtain ⟨r, hr⟩ : ∃ r, untilR 96 true (t.drop 1) = r := ⟨_, rfl⟩
  have Hpr := hide (show partR (lv + 1) q t = r.add 1 by rw [← hr]; unfold partR; rw [if_pos hbt, if_neg (fun hh => absurd ((t1 92).1 hh) (by decide)), if_pos ((t1 96).2 rfl)])
  have hcall := until_any rb d (i + 1) 96 true l w h (by omega) hl
  rw [hdrop, hr, show (((i + 1 : Nat)) : Int) = (i : Int) + 1 by omega] at hcall
  have Hcall := hide (hcall.mono (R' := fun e w' => e = r.out (i + 1) l.length ∧ w.grownBy w' (some rb) ∧ ∀ n, r = .ok n → RAt w' rb l d) (by rintro e w' ⟨rfl, rfl⟩; exact ⟨rfl, only_refl _ _, fun _ _ => H0.out⟩))
  clear hcall hwi h t1 t2 hB hdrop
  rcases out_cases r (i + 1) l.length with ⟨n, hn, ho⟩ | ⟨f, ho, hno⟩
  ·rw [show (((i + 1 : Nat)) : Int) = (i : Int) + 1 by omega] at ho
   rw [ho] at Hcall
   go_enter Try.func64, Try.ntmps64
   go_wp2_with fail
   refine Hcall.out.mono ?_
   rintro e w9 ⟨rfl, hg9, hok9⟩
   go_wp2_with fail
   exact bodyPost_ret (results_tmp (t := 6) rfl _ _ _) rfl (by rw [ht] at *; exact Hend.out _ _ _ _ Hpr.out ho.symm hg9 hok9)
  ·rw [ho] at Hcall
   go_enter Try.func64, Try.ntmps64
   go_wp2_with fail
   refine Hcall.out.mono ?_
   rintro e w9 ⟨rfl, hg9, hok9⟩
   exact post_panic rfl (Hend.out _ _ _ _ Hpr.out ho.symm hg9 hok9)
 have q96 : ((c.toNat : Int) == 96) = false := byte_ne h96
 by_cases b1 : t.take 2 = [36, 40]
 ·obtain rfl := t2 _ _ b1
  have hbt : begs q t = true := hB.2 (.inr (.inr (.inl b1)))
  have tl3 : 2 ≤ t.length := by have := take_len b1; simpa using this
  have tll : t.length = l.length - i := by rw [← ht, List.length_drop]
  by_cases b3 : t.take 3 = [36, 40, 40]
  ·have tl4 : 3 ≤ t.length := by have := take_len b3; simpa using this
   have Hat1 := hide (show Calls Try.prog 50 #[.pointer (some ⟨rb, 0, none⟩), .int .i64 i, .string ⟨#[36, 40]⟩] w fun e w' => e = .returned (.bool true) ∧ w' = w from by have := Hat1.out; rw [decide_eq_true b1] at this; exact this)
   have Hat3 := hide (show Calls Try.prog 50 #[.pointer (some ⟨rb, 0, none⟩), .int .i64 i, .string ⟨#[36, 40, 40]⟩] w fun e w' => e = .returned (.bool true) ∧ w' = w from by have := Hat3.out; rw [decide_eq_true b3] at this; exact this)
   obtain ⟨r, hr⟩ : ∃ r, sumsR 0 (t.drop 3) = r := ⟨_, rfl⟩
   have Hpr := hide (show partR (lv + 1) q t = r.add 3 by rw [← hr]; unfold partR; rw [if_pos hbt, if_neg (fun hh => absurd ((t1 92).1 hh) (by decide)), if_neg (fun hh => absurd ((t1 96).1 hh) (by decide)), if_neg (fun hh => absurd ((t1 39).1 hh) (by decide)), if_neg (fun hh => absurd ((t1 34).1 hh) (by decide)), if_pos b3])
   have hcall := sums_any rb d (i + 3) l w h (by omega) hl
   rw [hdrop, hr, show (((i + 3 : Nat)) : Int) = (i : Int) + 3 by omega] at hcall
   have Hcall := hide (hcall.mono (R' := fun e w' => e = r.out (i + 3) l.length ∧ w.grownBy w' (some rb) ∧ ∀ n, r = .ok n → RAt w' rb l d) (by rintro e w' ⟨rfl, rfl⟩; exact ⟨rfl, only_refl _ _, fun _ _ => H0.out⟩))
   clear hcall hwi h b1 b3 t1 t2 hB hdrop
   rcases out_cases r (i + 3) l.length with ⟨n, hn, ho⟩ | ⟨f, ho, hno⟩
   ·rw [show (((i + 3 : Nat)) : Int) = (i : Int) + 3 by omega] at ho
    rw [ho] at Hcall
    go_enter Try.func64, Try.ntmps64
    go_wp2_with fail
    refine Hat1.out.mono ?_
    rintro e w2 ⟨rfl, rfl⟩
    go_wp2_with fail
    refine Hat3.out.mono ?_
    rintro e w2 ⟨rfl, rfl⟩
    go_wp2_with fail
    refine Hcall.out.mono ?_
    rintro e w9 ⟨rfl, hg9, hok9⟩
    go_wp2_with fail
    exact bodyPost_ret (results_tmp (t := 6) rfl _ _ _) rfl (Hend.out _ _ _ _ Hpr.out ho.symm hg9 hok9)
   ·rw [ho] at Hcall
    go_enter Try.func64, Try.ntmps64
    go_wp2_with fail
    refine Hat1.out.mono ?_
    rintro e w2 ⟨rfl, rfl⟩
    go_wp2_with fail
    refine Hat3.out.mono ?_
    rintro e w2 ⟨rfl, rfl⟩
    go_wp2_with fail
    refine Hcall.out.mono ?_
    rintro e w9 ⟨rfl, hg9, hok9⟩
    exact post_panic rfl (Hend.out _ _ _ _ Hpr.out ho.symm hg9 hok9)
  ·skip
   have Hat1 := hide (show Calls Try.prog 50 #[.pointer (some ⟨rb, 0, none⟩), .int .i64 i, .string ⟨#[36, 40]⟩] w fun e w' => e = .returned (.bool true) ∧ w' = w from by have := Hat1.out; rw [decide_eq_true b1] at this; exact this)
   have Hat3 := hide (show Calls Try.prog 50 #[.pointer (some ⟨rb, 0, none⟩), .int .i64 i, .string ⟨#[36, 40, 40]⟩] w fun e w' => e = .returned (.bool false) ∧ w' = w from by have := Hat3.out; rw [decide_eq_false b3] at this; exact this)
   obtain ⟨r, hr⟩ : ∃ r, withinR (partR lv false) 41 [] 0 (t.drop 2) = r := ⟨_, rfl⟩
   have Hpr := hide (show partR (lv + 1) q t = r.add 2 by rw [← hr]; unfold partR; rw [if_pos hbt, if_neg (fun hh => absurd ((t1 92).1 hh) (by decide)), if_neg (fun hh => absurd ((t1 96).1 hh) (by decide)), if_neg (fun hh => absurd ((t1 39).1 hh) (by decide)), if_neg (fun hh => absurd ((t1 34).1 hh) (by decide)), if_neg b3, if_pos b1])
   have hcall := hwi 2 41 [] false (by omega)
   rw [hdrop, hr, show (((i + 2 : Nat)) : Int) = (i : Int) + 2 by omega] at hcall
   have Hcall := hide hcall
   clear hcall hwi h b1 b3 t1 t2 hB hdrop
   rcases out_cases r (i + 2) l.length with ⟨n, hn, ho⟩ | ⟨f, ho, hno⟩
   ·rw [show (((i + 2 : Nat)) : Int) = (i : Int) + 2 by omega] at ho
    rw [ho] at Hcall
    go_enter Try.func64, Try.ntmps64
    go_wp2_with fail
    refine Hat1.out.mono ?_
    rintro e w2 ⟨rfl, rfl⟩
    go_wp2_with fail
    refine Hat3.out.mono ?_
    rintro e w2 ⟨rfl, rfl⟩
    go_wp2_with fail
    refine Hat1.out.mono ?_
    rintro e w2 ⟨rfl, rfl⟩
    go_wp2_with fail
    refine Hcall.out.mono ?_
    rintro e w9 ⟨rfl, hg9, hok9⟩
    go_wp2_with fail
    exact bodyPost_ret (results_tmp (t := 6) rfl _ _ _) rfl (Hend.out _ _ _ _ Hpr.out ho.symm hg9 hok9)
   ·rw [ho] at Hcall
    go_enter Try.func64, Try.ntmps64
    go_wp2_with fail
    refine Hat1.out.mono ?_
    rintro e w2 ⟨rfl, rfl⟩
    go_wp2_with fail
    refine Hat3.out.mono ?_
    rintro e w2 ⟨rfl, rfl⟩
    go_wp2_with fail
    refine Hat1.out.mono ?_
    rintro e w2 ⟨rfl, rfl⟩
    go_wp2_with fail
    refine Hcall.out.mono ?_
    rintro e w9 ⟨rfl, hg9, hok9⟩
    exact post_panic rfl (Hend.out _ _ _ _ Hpr.out ho.symm hg9 hok9)
 have b3 : ¬ t.take 3 = [36, 40, 40] := fun hh => b1 (take3_2 hh)
 by_cases b2 : t.take 2 = [36, 123]
 ·obtain rfl := t2 _ _ b2
  have hbt : begs q t = true := hB.2 (.inr (.inr (.inr (.inl b2))))
  have tl3 : 2 ≤ t.length := by have := take_len b2; simpa using this
  have tll : t.length = l.length - i := by rw [← ht, List.length_drop]
  cases q with
  | true =>
   have Hat1 := hide (show Calls Try.prog 50 #[.pointer (some ⟨rb, 0, none⟩), .int .i64 i, .string ⟨#[36, 40]⟩] w fun e w' => e = .returned (.bool false) ∧ w' = w from by have := Hat1.out; rw [decide_eq_false b1] at this; exact this)
   have Hat2 := hide (show Calls Try.prog 50 #[.pointer (some ⟨rb, 0, none⟩), .int .i64 i, .string ⟨#[36, 123]⟩] w fun e w' => e = .returned (.bool true) ∧ w' = w from by have := Hat2.out; rw [decide_eq_true b2] at this; exact this)
   have Hat3 := hide (show Calls Try.prog 50 #[.pointer (some ⟨rb, 0, none⟩), .int .i64 i, .string ⟨#[36, 40, 40]⟩] w fun e w' => e = .returned (.bool false) ∧ w' = w from by have := Hat3.out; rw [decide_eq_false b3] at this; exact this)
   obtain ⟨r, hr⟩ : ∃ r, withinR (partR lv true) 125 [39] 0 (t.drop 2) = r := ⟨_, rfl⟩
   have Hpr := hide (show partR (lv + 1) true t = r.add 2 by rw [← hr]; unfold partR; rw [if_pos hbt, if_neg (fun hh => absurd ((t1 92).1 hh) (by decide)), if_neg (fun hh => absurd ((t1 96).1 hh) (by decide)), if_neg (fun hh => absurd ((t1 39).1 hh) (by decide)), if_neg (fun hh => absurd ((t1 34).1 hh) (by decide)), if_neg b3, if_neg b1, if_pos rfl])
   have hcall := hwi 2 125 [39] true (by omega)
   rw [hdrop, hr, show (((i + 2 : Nat)) : Int) = (i : Int) + 2 by omega] at hcall
   have Hcall := hide hcall
   clear hcall hwi h b1 b2 b3 t1 t2 hB hdrop
   rcases out_cases r (i + 2) l.length with ⟨n, hn, ho⟩ | ⟨f, ho, hno⟩
   ·rw [show (((i + 2 : Nat)) : Int) = (i : Int) + 2 by omega] at ho
    rw [ho] at Hcall
    go_enter Try.func64, Try.ntmps64
    go_wp2_with fail
    refine Hat1.out.mono ?_
    rintro e w2 ⟨rfl, rfl⟩
    go_wp2_with fail
    refine Hat2.out.mono ?_
    rintro e w2 ⟨rfl, rfl⟩
    go_wp2_with fail
    refine Hat3.out.mono ?_
    rintro e w2 ⟨rfl, rfl⟩
    go_wp2_with fail
    refine Hat1.out.mono ?_
    rintro e w2 ⟨rfl, rfl⟩
    go_wp2_with fail
    refine Hcall.out.mono ?_
    rintro e w9 ⟨rfl, hg9, hok9⟩
    go_wp2_with fail
    exact bodyPost_ret (results_tmp (t := 6) rfl _ _ _) rfl (Hend.out _ _ _ _ Hpr.out ho.symm hg9 hok9)
   ·rw [ho] at Hcall
    go_enter Try.func64, Try.ntmps64
    go_wp2_with fail
    refine Hat1.out.mono ?_
    rintro e w2 ⟨rfl, rfl⟩
    go_wp2_with fail
    refine Hat2.out.mono ?_
    rintro e w2 ⟨rfl, rfl⟩
    go_wp2_with fail
    refine Hat3.out.mono ?_
    rintro e w2 ⟨rfl, rfl⟩
    go_wp2_with fail
    refine Hat1.out.mono ?_
    rintro e w2 ⟨rfl, rfl⟩
    go_wp2_with fail
    refine Hcall.out.mono ?_
    rintro e w9 ⟨rfl, hg9, hok9⟩
    exact post_panic rfl (Hend.out _ _ _ _ Hpr.out ho.symm hg9 hok9)
  | false =>
   have Hat1 := hide (show Calls Try.prog 50 #[.pointer (some ⟨rb, 0, none⟩), .int .i64 i, .string ⟨#[36, 40]⟩] w fun e w' => e = .returned (.bool false) ∧ w' = w from by have := Hat1.out; rw [decide_eq_false b1] at this; exact this)
   have Hat2 := hide (show Calls Try.prog 50 #[.pointer (some ⟨rb, 0, none⟩), .int .i64 i, .string ⟨#[36, 123]⟩] w fun e w' => e = .returned (.bool true) ∧ w' = w from by have := Hat2.out; rw [decide_eq_true b2] at this; exact this)
   have Hat3 := hide (show Calls Try.prog 50 #[.pointer (some ⟨rb, 0, none⟩), .int .i64 i, .string ⟨#[36, 40, 40]⟩] w fun e w' => e = .returned (.bool false) ∧ w' = w from by have := Hat3.out; rw [decide_eq_false b3] at this; exact this)
   obtain ⟨r, hr⟩ : ∃ r, withinR (partR lv false) 125 [] 0 (t.drop 2) = r := ⟨_, rfl⟩
   have Hpr := hide (show partR (lv + 1) false t = r.add 2 by rw [← hr]; unfold partR; rw [if_pos hbt, if_neg (fun hh => absurd ((t1 92).1 hh) (by decide)), if_neg (fun hh => absurd ((t1 96).1 hh) (by decide)), if_neg (fun hh => absurd ((t1 39).1 hh) (by decide)), if_neg (fun hh => absurd ((t1 34).1 hh) (by decide)), if_neg b3, if_neg b1, if_neg Bool.false_ne_true])
   have hcall := hwi 2 125 [] false (by omega)
   rw [hdrop, hr, show (((i + 2 : Nat)) : Int) = (i : Int) + 2 by omega] at hcall
   have Hcall := hide hcall
   clear hcall hwi h b1 b2 b3 t1 t2 hB hdrop
   rcases out_cases r (i + 2) l.length with ⟨n, hn, ho⟩ | ⟨f, ho, hno⟩
   ·rw [show (((i + 2 : Nat)) : Int) = (i : Int) + 2 by omega] at ho
    rw [ho] at Hcall
    go_enter Try.func64, Try.ntmps64
    go_wp2_with fail
    refine Hat1.out.mono ?_
    rintro e w2 ⟨rfl, rfl⟩
    go_wp2_with fail
    refine Hat2.out.mono ?_
    rintro e w2 ⟨rfl, rfl⟩
    go_wp2_with fail
    refine Hat3.out.mono ?_
    rintro e w2 ⟨rfl, rfl⟩
    go_wp2_with fail
    refine Hat1.out.mono ?_
    rintro e w2 ⟨rfl, rfl⟩
    go_wp2_with fail
    refine Hcall.out.mono ?_
    rintro e w9 ⟨rfl, hg9, hok9⟩
    go_wp2_with fail
    exact bodyPost_ret (results_tmp (t := 6) rfl _ _ _) rfl (Hend.out _ _ _ _ Hpr.out ho.symm hg9 hok9)
   ·rw [ho] at Hcall
    go_enter Try.func64, Try.ntmps64
    go_wp2_with fail
    refine Hat1.out.mono ?_
    rintro e w2 ⟨rfl, rfl⟩
    go_wp2_with fail
    refine Hat2.out.mono ?_
    rintro e w2 ⟨rfl, rfl⟩
    go_wp2_with fail
    refine Hat3.out.mono ?_
    rintro e w2 ⟨rfl, rfl⟩
    go_wp2_with fail
    refine Hat1.out.mono ?_
    rintro e w2 ⟨rfl, rfl⟩
    go_wp2_with fail
    refine Hcall.out.mono ?_
    rintro e w9 ⟨rfl, hg9, hok9⟩
    exact post_panic rfl (Hend.out _ _ _ _ Hpr.out ho.symm hg9 hok9)
 have Hat1 := hide (show Calls Try.prog 50 #[.pointer (some ⟨rb, 0, none⟩), .int .i64 i, .string ⟨#[36, 40]⟩] w fun e w' => e = .returned (.bool false) ∧ w' = w from by have := Hat1.out; rw [decide_eq_false b1] at this; exact this)
 have Hat2 := hide (show Calls Try.prog 50 #[.pointer (some ⟨rb, 0, none⟩), .int .i64 i, .string ⟨#[36, 123]⟩] w fun e w' => e = .returned (.bool false) ∧ w' = w from by have := Hat2.out; rw [decide_eq_false b2] at this; exact this)
 have Hat3 := hide (show Calls Try.prog 50 #[.pointer (some ⟨rb, 0, none⟩), .int .i64 i, .string ⟨#[36, 40, 40]⟩] w fun e w' => e = .returned (.bool false) ∧ w' = w from by have := Hat3.out; rw [decide_eq_false b3] at this; exact this)
 by_cases hq : q = false ∧ c = 39
 ·obtain ⟨rfl, rfl⟩ := hq
  have hbt : begs false t = true := hB.2 (.inr (.inr (.inr (.inr ⟨rfl, .inl ((t1 39).2 rfl)⟩))))
  obtain ⟨r, hr⟩ : ∃ r, untilR 39 false (t.drop 1) = r := ⟨_, rfl⟩
  have Hpr := hide (show partR (lv + 1) false t = r.add 1 by rw [← hr]; unfold partR; rw [if_pos hbt, if_neg (fun hh => absurd ((t1 92).1 hh) (by decide)), if_neg (fun hh => absurd ((t1 96).1 hh) (by decide)), if_pos ((t1 39).2 rfl)])
  have hcall := until_any rb d (i + 1) 39 false l w h (by omega) hl
  rw [hdrop, hr, show (((i + 1 : Nat)) : Int) = (i : Int) + 1 by omega] at hcall
  have Hcall := hide (hcall.mono (R' := fun e w' => e = r.out (i + 1) l.length ∧ w.grownBy w' (some rb) ∧ ∀ n, r = .ok n → RAt w' rb l d) (by rintro e w' ⟨rfl, rfl⟩; exact ⟨rfl, only_refl _ _, fun _ _ => H0.out⟩))
  clear hcall hwi h b1 b2 b3 t1 t2 hB hdrop
  rcases out_cases r (i + 1) l.length with ⟨n, hn, ho⟩ | ⟨f, ho, hno⟩
  ·rw [show (((i + 1 : Nat)) : Int) = (i : Int) + 1 by omega] at ho
   rw [ho] at Hcall
   go_enter Try.func64, Try.ntmps64
   go_wp2_with fail
   refine Hat1.out.mono ?_
   rintro e w2 ⟨rfl, rfl⟩
   go_wp2_with fail
   refine Hat2.out.mono ?_
   rintro e w2 ⟨rfl, rfl⟩
   go_wp2_with fail
   refine Hcall.out.mono ?_
   rintro e w9 ⟨rfl, hg9, hok9⟩
   go_wp2_with fail
   exact bodyPost_ret (results_tmp (t := 6) rfl _ _ _) rfl (Hend.out _ _ _ _ Hpr.out ho.symm hg9 hok9)
  ·rw [ho] at Hcall
   go_enter Try.func64, Try.ntmps64
   go_wp2_with fail
   refine Hat1.out.mono ?_
   rintro e w2 ⟨rfl, rfl⟩
   go_wp2_with fail
   refine Hat2.out.mono ?_
   rintro e w2 ⟨rfl, rfl⟩
   go_wp2_with fail
   refine Hcall.out.mono ?_
   rintro e w9 ⟨rfl, hg9, hok9⟩
   exact post_panic rfl (Hend.out _ _ _ _ Hpr.out ho.symm hg9 hok9)
 by_cases hq2 : q = false ∧ c = 34
 ·obtain ⟨rfl, rfl⟩ := hq2
  have hbt : begs false t = true := hB.2 (.inr (.inr (.inr (.inr ⟨rfl, .inr ((t1 34).2 rfl)⟩))))
  obtain ⟨r, hr⟩ : ∃ r, withinR (partR lv true) 34 [39] 0 (t.drop 1) = r := ⟨_, rfl⟩
  have Hpr := hide (show partR (lv + 1) false t = r.add 1 by rw [← hr]; unfold partR; rw [if_pos hbt, if_neg (fun hh => absurd ((t1 92).1 hh) (by decide)), if_neg (fun hh => absurd ((t1 96).1 hh) (by decide)), if_neg (fun hh => absurd ((t1 39).1 hh) (by decide)), if_pos ((t1 34).2 rfl)])
  have hcall := hwi 1 34 [39] true (by omega)
  rw [hdrop, hr, show (((i + 1 : Nat)) : Int) = (i : Int) + 1 by omega] at hcall
  have Hcall := hide hcall
  clear hcall hwi h b1 b2 b3 t1 t2 hB hdrop
  rcases out_cases r (i + 1) l.length with ⟨n, hn, ho⟩ | ⟨f, ho, hno⟩
  ·rw [show (((i + 1 : Nat)) : Int) = (i : Int) + 1 by omega] at ho
   rw [ho] at Hcall
   go_enter Try.func64, Try.ntmps64
   go_wp2_with fail
   refine Hat1.out.mono ?_
   rintro e w2 ⟨rfl, rfl⟩
   go_wp2_with fail
   refine Hat2.out.mono ?_
   rintro e w2 ⟨rfl, rfl⟩
   go_wp2_with fail
   refine Hcall.out.mono ?_
   rintro e w9 ⟨rfl, hg9, hok9⟩
   go_wp2_with fail
   exact bodyPost_ret (results_tmp (t := 6) rfl _ _ _) rfl (Hend.out _ _ _ _ Hpr.out ho.symm hg9 hok9)
  ·rw [ho] at Hcall
   go_enter Try.func64, Try.ntmps64
   go_wp2_with fail
   refine Hat1.out.mono ?_
   rintro e w2 ⟨rfl, rfl⟩
   go_wp2_with fail
   refine Hat2.out.mono ?_
   rintro e w2 ⟨rfl, rfl⟩
   go_wp2_with fail
   refine Hcall.out.mono ?_
   rintro e w9 ⟨rfl, hg9, hok9⟩
   exact post_panic rfl (Hend.out _ _ _ _ Hpr.out ho.symm hg9 hok9)
 have hbf : ¬ begs q t = true := by
  rw [hB]
  rintro (hh | hh | hh | hh | ⟨h1, hh | hh⟩)
  ·exact h92 ((t1 92).1 hh)
  ·exact h96 ((t1 96).1 hh)
  ·exact b1 hh
  ·exact b2 hh
  ·exact hq ⟨h1, (t1 39).1 hh⟩
  ·exact hq2 ⟨h1, (t1 34).1 hh⟩
 have hpr : partR (lv + 1) q t = .ok 0 := by unfold partR; rw [if_neg hbf]
 rw [hpr]
 have ways : q = true ∨ (q = false ∧ ((c.toNat : Int) == 39) = false ∧ ((c.toNat : Int) == 34) = false) := by
  cases q with
  | true => exact .inl rfl
  | false => exact .inr ⟨rfl, byte_ne (d := 39) (fun e => hq ⟨rfl, e⟩), byte_ne (d := 34) (fun e => hq2 ⟨rfl, e⟩)⟩
 clear hpr hbf t1 t2 hB hdrop hwi h b1 b2 b3 hq hq2 h92 h96 part_end'
 rcases ways with rfl | ⟨rfl, q39, q34⟩
 all_goals
  go_enter Try.func64, Try.ntmps64
  go_wp2_with fail
  refine Hat1.out.mono ?_
  rintro e w2 ⟨rfl, rfl⟩
  go_wp2_with fail
  refine Hat2.out.mono ?_
  rintro e w2 ⟨rfl, rfl⟩
  go_wp2_with fail
  exact bodyPost_ret (results_tmp (t := 6) rfl _ _ _) rfl ⟨by simp [Rs.out], only_refl _ _, fun n hn => H0.out⟩
theorem part_ok : ∀ lv, PartOk lv
 | 0 => part_zero
 | lv + 1 => part_succ lv (part_ok lv)
end Go.Proofs.Ytgpfjcogaheopaa.Lx

end
section
/- What is given up with is caught: caught, and Part's closure. -/
namespace Go.Proofs.Ytgpfjcogaheopaa.Lx
open Go.RowKit
set_option maxRecDepth 100000
theorem caught_idle (fb : Nat) (w : World) : CallsD Try.prog 35 #[.pointer (some ⟨fb, 0, none⟩)] .returning w fun e u' w' => e = .returned (.tuple #[]) ∧ u' = .returning ∧ w' = w := by
 refine callsD_of_wpS Try.func35 rfl fun c₀ cs hu => ?_
 apply wpS_seq
 apply wpS_region
 simp [wpOpsS, go_sem, recoverD, hu, Try.ntmps35, Exit.thenS]
 simp only [Array.replicate_succ, Array.replicate_zero, List.push_toArray, List.append_toArray, List.nil_append, List.cons_append, List.setIfInBounds_toArray, List.set_cons_zero, List.set_cons_succ]
 refine wpS_of_wp ?_
 go_wp2
 refine ⟨rfl, .returning, ?_, _, results_none rfl _ _ _, rfl, rfl, rfl⟩
 cases c₀
 simp_all
def caughtV (a e : Int) : PanicEntry := { v := .iface 67 (.agg #[.int .i64 a, .int .i64 e]), recovered := true }
theorem caught_panic (fb : Nat) (a e : Int) (x y : Int) (w : World) (h : Blk w fb 67 #[.int .i64 x, .int .i64 y]) : CallsD Try.prog 35 #[.pointer (some ⟨fb, 0, none⟩)] (.panicking [faultV a e]) w fun en u' w' => en = .returned (.tuple #[]) ∧ u' = .panicking [caughtV a e] ∧ Blk w' fb 67 #[.int .i64 a, .int .i64 e] ∧ w.grownBy w' (some fb) := by
 unfold faultV caughtV
 have hta : ∀ W : World, (Instr.typeAssert (.iface 67 (.agg #[.int .i64 a, .int .i64 e])) 20 67 true).run Try.prog W = .ok (.tuple #[.agg #[.int .i64 a, .int .i64 e], .bool true]) W := fun _ => by kernel_rfl
 have c0 := Blk.cell h 0
 have c1 := Blk.cell h 1
 have z0 := Blk.frozen h 0
 have z1 := Blk.frozen h 1
 have hl := Blk.lt h
 have HB := hide h
 clear h
 refine callsD_of_wpS Try.func35 rfl fun c₀ cs hu => ?_
 apply wpS_seq
 apply wpS_region
 simp [wpOpsS, go_sem, recoverD, hu, Try.ntmps35, Exit.thenS]
 simp only [Array.replicate_succ, Array.replicate_zero, List.push_toArray, List.append_toArray, List.nil_append, List.cons_append, List.setIfInBounds_toArray, List.set_cons_zero, List.set_cons_succ]
 refine wpS_of_wp ?_
 go_wp2
 refine ⟨rfl, _, rfl, _, results_none rfl _ _ _, rfl, rfl, ?_, ?_⟩
 ·exact Blk.alloc ((Blk.set_ HB.out 0 (.int .i64 a)).set_ 1 (.int .i64 e)) _
 ·exact only_alloc (only_setCell (only_setCell (only_refl w (some fb)) (p := ⟨fb, 0, none⟩) (.inl rfl) _) (p := ⟨fb, 1, none⟩) (.inl rfl) _) _
end Go.Proofs.Ytgpfjcogaheopaa.Lx

end
