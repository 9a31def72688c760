/- The reader: more, at, until, sums. What they read, as plain functions. -/
import Derived.Test.YtnamfafpdlieeaaA
set_option linter.all false
namespace Go.Proofs.Ytnamfafpdlieeaa
open Go.RowKit
set_option maxRecDepth 100000

/-- How reading a part ends: behind so many bytes; not at all; too deep, so many bytes on. -/
inductive Rs
  | ok (n : Nat)
  | more
  | deep (a : Nat)
def Rs.add (k : Nat) : Rs → Rs
  | .ok n => .ok (k + n)
  | .more => .more
  | .deep a => .deep (k + a)
theorem Rs.add_add (r : Rs) (j k : Nat) : (r.add k).add j = r.add (j + k) := by cases r <;> simp [Rs.add, Nat.add_assoc]
theorem Rs.add_zero (r : Rs) : r.add 0 = r := by cases r <;> simp [Rs.add]
def faultV (a : Int) (e : Int) : PanicEntry := { v := .iface 43 (.agg #[.int .i64 a, .int .i64 e]), recovered := false }
/-- What the reader answers, at place i of a text of L bytes. -/
def Rs.out (i L : Nat) : Rs → Ending
  | .ok n => .returned (.int .i64 ((i : Int) + n))
  | .more => .panicked [faultV L 23]
  | .deep a => .panicked [faultV ((i : Int) + a) 17]
def RAt (w : World) (rb : Nat) (l : List UInt8) (d : Nat) : Prop := Blk w rb 48 #[sv l, .int .i64 d]
theorem RAt.c0 {w : World} {rb : Nat} {l : List UInt8} {d : Nat} (h : RAt w rb l d) : w.cell? ⟨rb, 0, none⟩ = some (.string ⟨l.toArray⟩) := Blk.cell h 0
theorem RAt.c1 {w : World} {rb : Nat} {l : List UInt8} {d : Nat} (h : RAt w rb l d) : w.cell? ⟨rb, 1, none⟩ = some (.int .i64 d) := Blk.cell h 1

theorem post_panic {P : Program} {fn : Func} {R : Ending → World → Prop} {a : Act} {w : World} {chain : List PanicEntry} (hd : a.defers = []) (h : R (.panicked chain) w) : bodyPost P fn R (.panic chain) a w := by
  first
    | exact ⟨hd, h⟩
    | exact h
    | exact ⟨h, hd⟩
set_option maxHeartbeats 1000000 in
theorem more_any (rb d : Nat) (l : List UInt8) (w : World) (h : RAt w rb l d) : Calls Try.prog 29 #[.pointer (some ⟨rb, 0, none⟩)] w fun e w' => e = .panicked [faultV l.length 23] ∧ w' = w := by
  have c0 := h.c0
  have hl := Blk.lt h
  have h1 := sz l
  go_enter Try.func29, Try.ntmps29
  go_wp2_with fail
  exact post_panic rfl ⟨rfl, rfl⟩

set_option maxHeartbeats 1000000 in
theorem at_any (rb d i : Nat) (l t : List UInt8) (w : World) (h : RAt w rb l d) (hi : i ≤ l.length) (hl : l.length ≤ 1000000) (ht : t.length ≤ 1000) :
    Calls Try.prog 25 #[.pointer (some ⟨rb, 0, none⟩), .int .i64 i, sv t] w fun e w' => e = .returned (.bool (decide ((l.drop i).take t.length = t))) ∧ w' = w := by
  have Hp := hide (pre34 (l.drop i) t w ht (by rw [List.length_drop]; omega))
  have c0 := h.c0
  have hlt := Blk.lt h
  have h1 := sz l
  have hx := ext_drop l i l.length rfl
  have hib : (0 : Int) ≤ i ∧ (i : Int) ≤ (l.length : Int) := by omega
  unfold sv at Hp ⊢
  go_enter Try.func25, Try.ntmps25
  go_wp2_with fail
  refine Hp.out.mono ?_
  rintro e w1 ⟨rfl, rfl⟩
  go_wp2
  go_ret
  exact ⟨rfl, rfl⟩

/-- Behind the next byte of a kind. -/
def untilR (c : UInt8) (esc : Bool) : List UInt8 → Rs
  | [] => .more
  | [b] => if esc = true ∧ b = 92 then .more else if b = c then .ok 1 else .more
  | b :: d :: r => if esc = true ∧ b = 92 then (untilR c esc r).add 2 else if b = c then .ok 1 else (untilR c esc (d :: r)).add 1
theorem until_esc {c : UInt8} {esc : Bool} {b : UInt8} {r : List UInt8} (h : esc = true ∧ b = 92) : untilR c esc (b :: r) = (untilR c esc (r.drop 1)).add 2 := by
  cases r with
  | nil => show (if esc = true ∧ b = 92 then Rs.more else _) = _; rw [if_pos h]; rfl
  | cons d r => show (if esc = true ∧ b = 92 then (untilR c esc r).add 2 else _) = _; rw [if_pos h]; rfl
theorem until_hit {c : UInt8} {esc : Bool} {b : UInt8} {r : List UInt8} (h : ¬ (esc = true ∧ b = 92)) (hb : b = c) : untilR c esc (b :: r) = .ok 1 := by
  cases r with
  | nil => show (if esc = true ∧ b = 92 then Rs.more else if b = c then .ok 1 else _) = _; rw [if_neg h, if_pos hb]
  | cons d r => show (if esc = true ∧ b = 92 then (untilR c esc r).add 2 else if b = c then .ok 1 else _) = _; rw [if_neg h, if_pos hb]
theorem until_no {c : UInt8} {esc : Bool} {b : UInt8} {r : List UInt8} (h : ¬ (esc = true ∧ b = 92)) (hb : ¬ b = c) : untilR c esc (b :: r) = (untilR c esc r).add 1 := by
  cases r with
  | nil => show (if esc = true ∧ b = 92 then Rs.more else if b = c then .ok 1 else .more) = _; rw [if_neg h, if_neg hb]; rfl
  | cons d r => show (if esc = true ∧ b = 92 then (untilR c esc r).add 2 else if b = c then .ok 1 else _) = _; rw [if_neg h, if_neg hb]

set_option maxHeartbeats 2000000 in
theorem until_any (rb d i : Nat) (c : UInt8) (esc : Bool) (l : List UInt8) (w : World) (h : RAt w rb l d) (hi : i ≤ l.length) (hl : l.length ≤ 1000000) :
    Calls Try.prog 30 #[.pointer (some ⟨rb, 0, none⟩), .int .i64 i, .int .u8 c.toNat, .bool esc] w fun e w' => e = (untilR c esc (l.drop i)).out i l.length ∧ w' = w := by
  have Hm := hide (more_any rb d l w h)
  have c0 := h.c0
  have hlt := Blk.lt h
  have h1 := sz l
  obtain ⟨R, hR⟩ : ∃ R, (untilR c esc (l.drop i)).add i = R := ⟨_, rfl⟩
  have hout : (untilR c esc (l.drop i)).out i l.length = R.out 0 l.length := by
    rw [← hR]; cases untilR c esc (l.drop i) <;> simp [Rs.add, Rs.out]
  rw [hout]
  have HR0 := hide hR
  clear hR hout h
  go_enter Try.func30, Try.ntmps30
  go_wp2_with fail
  go_loopw [1] (fun v wr => ∃ k : Nat, v = .int .i64 k ∧ k ≤ l.length + 1 ∧ (untilR c esc (l.drop k)).add k = R ∧ wr = w) (fun v _ => l.length + 1 - (intOf v).toNat)
  case atStart => exact ⟨i, rfl, by omega, HR0.out, rfl⟩
  case round =>
    obtain ⟨k, rfl, hk, hres, rfl⟩ := hrel
    have HR := hide hres
    clear hres
    by_cases hlt2 : k < l.length
    · have q0 : decide ((k : Int) < (l.length : Int)) = true := by simp; omega
      have hat := str_at' l k hlt2
      have hib : (0 : Int) ≤ k ∧ (k : Int) < (l.length : Int) := by omega
      have hdr := drop_at hlt2
      obtain ⟨b, hb⟩ : ∃ b, l[k] = b := ⟨_, rfl⟩
      rw [hb] at hat hdr
      have Hdr := hide hdr
      clear hdr hb
      by_cases he : esc = true ∧ b = 92
      · obtain ⟨rfl, rfl⟩ := he
        have hst := until_esc (c := c) (esc := true) (b := 92) (r := l.drop (k + 1)) ⟨rfl, rfl⟩
        rw [List.drop_drop] at hst
        have Hst := hide hst
        clear hst
        go_wp2_with fail
        go_roundw
        case rel => exact ⟨k + 2, by go_num, by omega, by rw [← HR.out, Hdr.out, Hst.out, Rs.add_add], trivial⟩
        case measure => simp [intOf]; omega
      · have hw : esc = false ∨ (esc = true ∧ ((b.toNat : Int) == 92) = false) := by
          cases esc with
          | false => exact .inl rfl
          | true => exact .inr ⟨rfl, byte_ne (fun e => he ⟨rfl, e⟩)⟩
        by_cases hbc : b = c
        · have hst := until_hit (r := l.drop (k + 1)) he hbc
          have Hst := hide hst
          have qc : ((b.toNat : Int) == (c.toNat : Int)) = true := by rw [hbc]; simp
          clear hst he hbc
          rcases hw with rfl | ⟨rfl, q2⟩
          all_goals
            go_wp2_with fail
            go_ret
            refine ⟨?_, rfl⟩
            rw [← HR.out, Hdr.out, Hst.out]
            simp [Rs.add, Rs.out]
        · have hst := until_no (r := l.drop (k + 1)) he hbc
          have Hst := hide hst
          have qc : ((b.toNat : Int) == (c.toNat : Int)) = false := byte_ne hbc
          clear hst he hbc
          rcases hw with rfl | ⟨rfl, q2⟩
          all_goals
            go_wp2_with fail
            go_roundw
            case rel => exact ⟨k + 1, by go_num, by omega, by rw [← HR.out, Hdr.out, Hst.out, Rs.add_add], trivial⟩
            case measure => simp [intOf]; omega
    · have q0 : decide ((k : Int) < (l.length : Int)) = false := by simp; omega
      have hR : R = .more := by
        have := HR.out
        rw [List.drop_eq_nil_of_le (by omega)] at this
        exact this.symm
      subst hR
      go_wp2_with fail
      refine Hm.out.mono ?_
      rintro e w1 ⟨rfl, rfl⟩
      exact post_panic rfl ⟨rfl, rfl⟩

end Go.Proofs.Ytnamfafpdlieeaa
