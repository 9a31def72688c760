/- Several texts in one. -/
import Derived.Test.YtgpfjcogaheopaaPC
import Derived.BigQuiet
import Derived.Deep.LoopGhost
set_option linter.all false
section
/- The parser's small functions that change nothing: sign, word. -/
namespace Go.Proofs.Ytgpfjcogaheopaa
open Go.RowKit Lx
set_option maxRecDepth 100000
theorem ret_bool {a b : Bool} (h : a = b) : Ending.returned (.bool a) = .returned (.bool b) := by rw [h]
theorem ret_int {a b : Int} (h : a = b) : Ending.returned (.int .i64 a) = .returned (.int .i64 b) := by rw [h]
set_option maxHeartbeats 1000000 in
theorem sign_any (av : Nat → Prop) (base : Nat → Prop) (rb d : Nat) (vt vn : Value) (ts : List Tok) (ns : List Nd) (s : List UInt8) (w : World) (h : RAt av base w rb vt vn ts ns d) :
  Calls Try.prog 38 #[.pointer (some ⟨rb, 0, none⟩), sv s] w fun e w' => e = .returned (.bool (sgnB ts s)) ∧ w.grownBy w' none := by
 obtain ⟨t, r, g, off, cap, rfl, rfl, hc, hg, c0, c1, c2⟩ := h.head
 obtain ⟨d0, d1, d2⟩ := h.cells
 have lb := Blk.lt h.blk
 have hib : (0 : Int) < (((t :: r).length : Nat) : Int) := by simp only [List.length_cons]; omega
 have hsb : sgnB (t :: r) s = (t.k == 2 && t.t == s) := rfl
 obtain ⟨L, hL⟩ : ∃ L, (t :: r).length = L := ⟨_, rfl⟩
 rw [hL] at d0 hib hc
 have HSB := hide hsb
 clear h hsb hL
 obtain ⟨tk, tt, ta⟩ := t
 simp only [] at c0 c1 c2
 unfold sv
 by_cases hk : tk = 2
 ·subst hk
  go_enter Try.func38, Try.ntmps38
  go_wp2_with fail
  go_ret
  exact ⟨ret_bool (a := tt == s) (by rw [HSB.out]; simp), only_refl w none⟩
 ·have q : ((tk : Int) == 2) = false := by rw [beq_eq_false_iff_ne]; omega
  have q2 : (tk == 2) = false := by rw [beq_eq_false_iff_ne]; exact hk
  have HQ2 := hide q2
  clear q2
  go_enter Try.func38, Try.ntmps38
  go_wp2_with fail
  go_ret
  exact ⟨ret_bool (a := false) (by rw [HSB.out]; simp only [HQ2.out, Bool.false_and]), only_refl w none⟩
set_option maxHeartbeats 1000000 in
theorem word_any (av : Nat → Prop) (base : Nat → Prop) (rb d : Nat) (vt vn : Value) (ts : List Tok) (ns : List Nd) (s : List UInt8) (w : World) (h : RAt av base w rb vt vn ts ns d) :
  Calls Try.prog 55 #[.pointer (some ⟨rb, 0, none⟩), sv s] w fun e w' => e = .returned (.bool (wrdB ts s)) ∧ w.grownBy w' none := by
 obtain ⟨t, r, g, off, cap, rfl, rfl, hc, hg, c0, c1, c2⟩ := h.head
 obtain ⟨d0, d1, d2⟩ := h.cells
 have lb := Blk.lt h.blk
 have hib : (0 : Int) < (((t :: r).length : Nat) : Int) := by simp only [List.length_cons]; omega
 have hsb : wrdB (t :: r) s = (t.k == 1 && t.t == s) := rfl
 obtain ⟨L, hL⟩ : ∃ L, (t :: r).length = L := ⟨_, rfl⟩
 rw [hL] at d0 hib hc
 have HSB := hide hsb
 clear h hsb hL
 obtain ⟨tk, tt, ta⟩ := t
 simp only [] at c0 c1 c2
 unfold sv
 by_cases hk : tk = 1
 ·subst hk
  go_enter Try.func55, Try.ntmps55
  go_wp2_with fail
  go_ret
  exact ⟨ret_bool (a := tt == s) (by rw [HSB.out]; simp), only_refl w none⟩
 ·have q : ((tk : Int) == 1) = false := by rw [beq_eq_false_iff_ne]; omega
  have q2 : (tk == 1) = false := by rw [beq_eq_false_iff_ne]; exact hk
  have HQ2 := hide q2
  clear q2
  go_enter Try.func55, Try.ntmps55
  go_wp2_with fail
  go_ret
  exact ⟨ret_bool (a := false) (by rw [HSB.out]; simp only [HQ2.out, Bool.false_and]), only_refl w none⟩
theorem or32_all : ∀ n : Fin 256, bits .or .u8 (n.val : Int) 32 = ((n.val ||| 32 : Nat) : Int) ∧ (97 ≤ n.val ||| 32 ∧ n.val ||| 32 ≤ 122 ↔ (97 ≤ n.val ∧ n.val ≤ 122) ∨ (65 ≤ n.val ∧ n.val ≤ 90)) := by decide +kernel
theorem or32 (c : UInt8) : ∃ X : Nat, bits .or .u8 (c.toNat : Int) 32 = (X : Int) ∧ (97 ≤ X ∧ X ≤ 122 ↔ (97 ≤ c.toNat ∧ c.toNat ≤ 122) ∨ (65 ≤ c.toNat ∧ c.toNat ≤ 90)) := ⟨_, or32_all ⟨c.toNat, c.toNat_lt⟩⟩
theorem nm_yes {f : Bool} {c : UInt8} {r : List UInt8} (h : (letB c || (!f && digB c)) = true) : nmGo f (c :: r) = nmGo false r + 1 := by
 show (if _ then _ else _) = _
 rw [if_pos h]
theorem nm_no {f : Bool} {c : UInt8} {r : List UInt8} (h : ¬ (letB c || (!f && digB c)) = true) : nmGo f (c :: r) = 0 := by
 show (if _ then _ else _) = _
 rw [if_neg h]
set_option maxHeartbeats 4000000 in
theorem name_any (s : List UInt8) (w : World) (hs : s.length ≤ 9223372036854775807) : Calls Try.prog 91 #[sv s] w fun e w' => e = .returned (.int .i64 (nmGo true s)) ∧ w' = w := by
 have h1 := sz s
 unfold sv
 go_enter Try.func91, Try.ntmps91
 go_wp2_with fail
 go_loopw [7] (fun v7 wr => ∃ k : Nat, v7 = .int .i64 k ∧ k ≤ s.length ∧ nmGo true s = k + nmGo (decide (k = 0)) (s.drop k) ∧ wr = w) (fun v7 _ => s.length - (intOf v7).toNat)
 case atStart => exact ⟨0, rfl, Nat.zero_le _, by simp, rfl⟩
 case round =>
  obtain ⟨k, rfl, hk, hinv, rfl⟩ := hrel
  by_cases hlt : k < s.length
  ·have q0 : decide ((k : Int) < (s.length : Int)) = true := decide_eq_true (by omega)
   have hat := str_at' s k hlt
   have hib : (0 : Int) ≤ k ∧ (k : Int) < (s.length : Int) := by omega
   have hdr := drop_at hlt
   obtain ⟨c, hc⟩ : ∃ c, s[k] = c := ⟨_, rfl⟩
   rw [hc] at hat hdr
   rw [hdr] at hinv
   obtain ⟨X, hX, hXi⟩ := or32 c
   have yes : (letB c || (!decide (k = 0) && digB c)) = true → nmGo true s = (k + 1) + nmGo (decide (k + 1 = 0)) (s.drop (k + 1)) := fun h => by
    rw [hinv, nm_yes h, show decide (k + 1 = 0) = false from rfl]; omega
   have no : ¬ (letB c || (!decide (k = 0) && digB c)) = true → nmGo true s = k := fun h => by
    rw [nm_no h] at hinv
    omega
   have hlB : letB c = true ↔ (97 ≤ X ∧ X ≤ 122) ∨ c.toNat = 95 := by
    unfold letB
    simp only [Bool.or_eq_true, decide_eq_true_eq]
    rw [hXi]
   clear hc hdr hinv hXi
   by_cases a1 : 97 ≤ X
   ·have b1 : decide ((97 : Int) ≤ (X : Int)) = true := decide_eq_true (by omega)
    by_cases a2 : X ≤ 122
    ·have b2 : decide ((X : Int) ≤ 122) = true := decide_eq_true (by omega)
     have Hy := hide (yes (by rw [hlB.2 (.inl ⟨a1, a2⟩)]; rfl))
     clear yes no hlB
     go_wp2_with fail
     go_roundw
     case rel => exact ⟨k + 1, by go_num, by omega, Hy.out, trivial⟩
     case measure => simp [intOf]; omega
    ·have b2 : decide ((X : Int) ≤ 122) = false := decide_eq_false (by omega)
     by_cases a95 : c.toNat = 95
     ·have b95 : ((c.toNat : Int) == 95) = true := by rw [beq_iff_eq]; omega
      have Hy := hide (yes (by rw [hlB.2 (.inr a95)]; rfl))
      clear yes no hlB
      go_wp2_with fail
      go_roundw
      case rel => exact ⟨k + 1, by go_num, by omega, Hy.out, trivial⟩
      case measure => simp [intOf]; omega
     have b95 : ((c.toNat : Int) == 95) = false := by rw [beq_eq_false_iff_ne]; omega
     have hl0 : letB c = false := by
      cases hh : letB c with
      | false => rfl
      | true => exact absurd (hlB.1 hh) (by omega)
     by_cases ak : k = 0
     ·subst ak
      have bk : decide ((0 : Int) < ((0 : Nat) : Int)) = false := by decide
      have Hno := hide (no (by rw [hl0]; simp))
      clear yes no hlB
      go_wp2_with fail
      go_ret
      exact ⟨ret_int (by rw [Hno.out]), rfl⟩
     have bk : decide ((0 : Int) < (k : Int)) = true := decide_eq_true (by omega)
     have bk2 : decide (k = 0) = false := decide_eq_false ak
     by_cases a48 : 48 ≤ c.toNat
     ·have b48 : decide ((48 : Int) ≤ (c.toNat : Int)) = true := decide_eq_true (by omega)
      by_cases a57 : c.toNat ≤ 57
      ·have b57 : decide ((c.toNat : Int) ≤ 57) = true := decide_eq_true (by omega)
       have hd : digB c = true := decide_eq_true ⟨a48, a57⟩
       have Hy := hide (yes (by rw [hl0, bk2, hd]; rfl))
       clear yes no hlB
       go_wp2_with fail
       go_roundw
       case rel => exact ⟨k + 1, by go_num, by omega, Hy.out, trivial⟩
       case measure => simp [intOf]; omega
      ·have b57 : decide ((c.toNat : Int) ≤ 57) = false := decide_eq_false (by omega)
       have hd : digB c = false := decide_eq_false (fun h => a57 h.2)
       have Hno := hide (no (by rw [hl0, bk2, hd]; simp))
       clear yes no hlB
       go_wp2_with fail
       go_ret
       exact ⟨ret_int (by rw [Hno.out]), rfl⟩
     ·have b48 : decide ((48 : Int) ≤ (c.toNat : Int)) = false := decide_eq_false (by omega)
      have hd : digB c = false := decide_eq_false (fun h => a48 h.1)
      have Hno := hide (no (by rw [hl0, bk2, hd]; simp))
      clear yes no hlB
      go_wp2_with fail
      go_ret
      exact ⟨ret_int (by rw [Hno.out]), rfl⟩
   ·have b1 : decide ((97 : Int) ≤ (X : Int)) = false := decide_eq_false (by omega)
    by_cases a95 : c.toNat = 95
    ·have b95 : ((c.toNat : Int) == 95) = true := by rw [beq_iff_eq]; omega
     have Hy := hide (yes (by rw [hlB.2 (.inr a95)]; rfl))
     clear yes no hlB
     go_wp2_with fail
     go_roundw
     case rel => exact ⟨k + 1, by go_num, by omega, Hy.out, trivial⟩
     case measure => simp [intOf]; omega
    have b95 : ((c.toNat : Int) == 95) = false := by rw [beq_eq_false_iff_ne]; omega
    have hl0 : letB c = false := by
     cases hh : letB c with
     | false => rfl
     | true => exact absurd (hlB.1 hh) (by omega)
    by_cases ak : k = 0
    ·subst ak
     have bk : decide ((0 : Int) < ((0 : Nat) : Int)) = false := by decide
     have Hno := hide (no (by rw [hl0]; simp))
     clear yes no hlB
     go_wp2_with fail
     go_ret
     exact ⟨ret_int (by rw [Hno.out]), rfl⟩
    have bk : decide ((0 : Int) < (k : Int)) = true := decide_eq_true (by omega)
    have bk2 : decide (k = 0) = false := decide_eq_false ak
    by_cases a48 : 48 ≤ c.toNat
    ·have b48 : decide ((48 : Int) ≤ (c.toNat : Int)) = true := decide_eq_true (by omega)
     by_cases a57 : c.toNat ≤ 57
     ·have b57 : decide ((c.toNat : Int) ≤ 57) = true := decide_eq_true (by omega)
      have hd : digB c = true := decide_eq_true ⟨a48, a57⟩
      have Hy := hide (yes (by rw [hl0, bk2, hd]; rfl))
      clear yes no hlB
      go_wp2_with fail
      go_roundw
      case rel => exact ⟨k + 1, by go_num, by omega, Hy.out, trivial⟩
      case measure => simp [intOf]; omega
     ·have b57 : decide ((c.toNat : Int) ≤ 57) = false := decide_eq_false (by omega)
      have hd : digB c = false := decide_eq_false (fun h => a57 h.2)
      have Hno := hide (no (by rw [hl0, bk2, hd]; simp))
      clear yes no hlB
      go_wp2_with fail
      go_ret
      exact ⟨ret_int (by rw [Hno.out]), rfl⟩
    ·have b48 : decide ((48 : Int) ≤ (c.toNat : Int)) = false := decide_eq_false (by omega)
     have hd : digB c = false := decide_eq_false (fun h => a48 h.1)
     have Hno := hide (no (by rw [hl0, bk2, hd]; simp))
     clear yes no hlB
     go_wp2_with fail
     go_ret
     exact ⟨ret_int (by rw [Hno.out]), rfl⟩
  ·obtain rfl : k = s.length := by omega
   have q0 : decide ((s.length : Int) < (s.length : Int)) = false := decide_eq_false (by omega)
   have hn : nmGo true s = s.length := by rw [hinv, List.drop_eq_nil_of_le (Nat.le_refl _)]; show s.length + 0 = _; omega
   clear hinv
   have HN := hide hn
   clear hn
   go_wp2_with fail
   go_ret
   exact ⟨ret_int (by rw [HN.out]), rfl⟩
end Go.Proofs.Ytgpfjcogaheopaa

end
section
/- The parser's small functions, further: reserved, named, redirects, compounds, begins, wrong. -/
namespace Go.Proofs.Ytgpfjcogaheopaa
open Go.RowKit Lx
set_option maxRecDepth 100000
theorem post_panicP {P : Program} {fn : Func} {R : Ending → World → Prop} {a : Act} {w : World} {chain : List PanicEntry} (hd : a.defers = []) (h : R (.panicked chain) w) : bodyPost P fn R (.panic chain) a w := by
 first
  | exact ⟨hd, h⟩
  | exact h
  | exact ⟨h, hd⟩
set_option maxHeartbeats 4000000 in
theorem reserved_any (s : List UInt8) (w : World) : Calls Try.prog 58 #[sv s] w fun e w' => e = .returned (.bool (resB s)) ∧ w.grownBy w' none := by
 unfold sv
 by_cases h0 : s = [33]
 ·subst h0
  go_enter Try.func58, Try.ntmps58
  go_wp2_with fail
  go_ret
  exact ⟨ret_bool (a := true) (by decide), only_refl w none⟩
 have b0 : (s == [33]) = false := beq_eq_false_iff_ne.2 h0
 by_cases h1 : s = [123]
 ·subst h1
  go_enter Try.func58, Try.ntmps58
  go_wp2_with fail
  go_ret
  exact ⟨ret_bool (a := true) (by decide), only_refl w none⟩
 have b1 : (s == [123]) = false := beq_eq_false_iff_ne.2 h1
 by_cases h2 : s = [125]
 ·subst h2
  go_enter Try.func58, Try.ntmps58
  go_wp2_with fail
  go_ret
  exact ⟨ret_bool (a := true) (by decide), only_refl w none⟩
 have b2 : (s == [125]) = false := beq_eq_false_iff_ne.2 h2
 by_cases h3 : s = [99, 97, 115, 101]
 ·subst h3
  go_enter Try.func58, Try.ntmps58
  go_wp2_with fail
  go_ret
  exact ⟨ret_bool (a := true) (by decide), only_refl w none⟩
 have b3 : (s == [99, 97, 115, 101]) = false := beq_eq_false_iff_ne.2 h3
 by_cases h4 : s = [100, 111]
 ·subst h4
  go_enter Try.func58, Try.ntmps58
  go_wp2_with fail
  go_ret
  exact ⟨ret_bool (a := true) (by decide), only_refl w none⟩
 have b4 : (s == [100, 111]) = false := beq_eq_false_iff_ne.2 h4
 by_cases h5 : s = [100, 111, 110, 101]
 ·subst h5
  go_enter Try.func58, Try.ntmps58
  go_wp2_with fail
  go_ret
  exact ⟨ret_bool (a := true) (by decide), only_refl w none⟩
 have b5 : (s == [100, 111, 110, 101]) = false := beq_eq_false_iff_ne.2 h5
 by_cases h6 : s = [101, 108, 105, 102]
 ·subst h6
  go_enter Try.func58, Try.ntmps58
  go_wp2_with fail
  go_ret
  exact ⟨ret_bool (a := true) (by decide), only_refl w none⟩
 have b6 : (s == [101, 108, 105, 102]) = false := beq_eq_false_iff_ne.2 h6
 by_cases h7 : s = [101, 108, 115, 101]
 ·subst h7
  go_enter Try.func58, Try.ntmps58
  go_wp2_with fail
  go_ret
  exact ⟨ret_bool (a := true) (by decide), only_refl w none⟩
 have b7 : (s == [101, 108, 115, 101]) = false := beq_eq_false_iff_ne.2 h7
 by_cases h8 : s = [101, 115, 97, 99]
 ·subst h8
  go_enter Try.func58, Try.ntmps58
  go_wp2_with fail
  go_ret
  exact ⟨ret_bool (a := true) (by decide), only_refl w none⟩
 have b8 : (s == [101, 115, 97, 99]) = false := beq_eq_false_iff_ne.2 h8
 by_cases h9 : s = [102, 105]
 ·subst h9
  go_enter Try.func58, Try.ntmps58
  go_wp2_with fail
  go_ret
  exact ⟨ret_bool (a := true) (by decide), only_refl w none⟩
 have b9 : (s == [102, 105]) = false := beq_eq_false_iff_ne.2 h9
 by_cases h10 : s = [102, 111, 114]
 ·subst h10
  go_enter Try.func58, Try.ntmps58
  go_wp2_with fail
  go_ret
  exact ⟨ret_bool (a := true) (by decide), only_refl w none⟩
 have b10 : (s == [102, 111, 114]) = false := beq_eq_false_iff_ne.2 h10
 by_cases h11 : s = [105, 102]
 ·subst h11
  go_enter Try.func58, Try.ntmps58
  go_wp2_with fail
  go_ret
  exact ⟨ret_bool (a := true) (by decide), only_refl w none⟩
 have b11 : (s == [105, 102]) = false := beq_eq_false_iff_ne.2 h11
 by_cases h12 : s = [105, 110]
 ·subst h12
  go_enter Try.func58, Try.ntmps58
  go_wp2_with fail
  go_ret
  exact ⟨ret_bool (a := true) (by decide), only_refl w none⟩
 have b12 : (s == [105, 110]) = false := beq_eq_false_iff_ne.2 h12
 by_cases h13 : s = [116, 104, 101, 110]
 ·subst h13
  go_enter Try.func58, Try.ntmps58
  go_wp2_with fail
  go_ret
  exact ⟨ret_bool (a := true) (by decide), only_refl w none⟩
 have b13 : (s == [116, 104, 101, 110]) = false := beq_eq_false_iff_ne.2 h13
 by_cases h14 : s = [117, 110, 116, 105, 108]
 ·subst h14
  go_enter Try.func58, Try.ntmps58
  go_wp2_with fail
  go_ret
  exact ⟨ret_bool (a := true) (by decide), only_refl w none⟩
 have b14 : (s == [117, 110, 116, 105, 108]) = false := beq_eq_false_iff_ne.2 h14
 by_cases h15 : s = [119, 104, 105, 108, 101]
 ·subst h15
  go_enter Try.func58, Try.ntmps58
  go_wp2_with fail
  go_ret
  exact ⟨ret_bool (a := true) (by decide), only_refl w none⟩
 have b15 : (s == [119, 104, 105, 108, 101]) = false := beq_eq_false_iff_ne.2 h15
 have hno : resB s = false := by
  unfold resB resW
  simp only [List.contains_cons, List.contains_nil, Bool.or_false]
  simp only [wBang, wOpen, wClose, wCase, wDo, wDone, wElif, wElse, wEsac, wFi, wFor, wIf, wIn, wThen, wUntil, wWhile, b0, b1, b2, b3, b4, b5, b6, b7, b8, b9, b10, b11, b12, b13, b14, b15, Bool.or_false]
 have HN := hide hno
 clear hno
 go_enter Try.func58, Try.ntmps58
 go_wp2_with fail
 go_ret
 exact ⟨ret_bool (a := false) (by rw [HN.out]), only_refl w none⟩
/-- A slice of texts. -/
def StrL (w : World) (a : Option Addr) (ss : List (List UInt8)) : Prop := ∀ i (h : i < ss.length), ∃ b off, a = some ⟨b, off, none⟩ ∧ b < w.heap.size ∧ w.cell? ⟨b, off + i, none⟩ = some (sv ss[i])
def IxPost (ss : List (List UInt8)) (s : List UInt8) (w : World) (e : Ending) (w' : World) : Prop := ∃ n : Int, e = .returned (.int .i64 n) ∧ decide (0 ≤ n) = ss.contains s ∧ w' = w
set_option maxHeartbeats 2000000 in
theorem index_any (ss : List (List UInt8)) (s : List UInt8) (a : Option Addr) (cap : Nat) (w : World) (h1 : StrL w a ss) (hl : ss.length ≤ 1000000) :
  Calls Try.prog 83 #[.slice a ss.length cap, sv s] w (IxPost ss s w) := by
 have HA := hide h1
 clear h1
 unfold sv
 go_enter Try.func83, Try.ntmps83
 go_wp2_with fail
 go_loop [8] (fun v8 => ∃ k : Nat, v8 = .int .i64 k ∧ k ≤ ss.length ∧ ∀ i (hi : i < ss.length), i < k → ss[i] ≠ s) (fun v8 => ss.length - (intOf v8).toNat)
 case atStart => exact ⟨0, rfl, Nat.zero_le _, fun i _ h => absurd h (by omega)⟩
 case round =>
  obtain ⟨k, rfl, hk, hno⟩ := hrel
  have HNO := hide hno
  clear hno
  by_cases hlt : k < ss.length
  ·have q0 : decide ((k : Int) < (ss.length : Int)) = true := decide_eq_true (by omega)
   have hib : (0 : Int) ≤ k ∧ (k : Int) < (ss.length : Int) := by omega
   obtain ⟨b1, o1, rfl, hb1, p1⟩ := HA.out k hlt
   by_cases he : ss[k] = s
   ·have HIN := hide (show decide ((0 : Int) ≤ (k : Int)) = ss.contains s by rw [decide_eq_true (by omega)]; symm; rw [List.contains_iff_mem]; exact he ▸ List.getElem_mem hlt)
    rw [he] at p1
    unfold sv at p1
    have qs : (s == s) = true := by simp
    clear he
    go_wp2_with fail
    go_ret
    exact ⟨(k : Int), rfl, HIN.out, rfl⟩
   ·have HN1 := hide (fun i (hi : i < ss.length) (h : i < k + 1) => (if e : i = k then (by subst e; exact he) else HNO.out i hi (by omega) : ss[i] ≠ s))
    have qs : (s == ss[k]) = false := beq_eq_false_iff_ne.2 (fun e => he e.symm)
    obtain ⟨x, hx⟩ : ∃ x, ss[k] = x := ⟨_, rfl⟩
    rw [hx] at p1 qs
    unfold sv at p1
    clear hx he
    go_wp2_with fail
    go_round
    case rel => exact ⟨k + 1, by go_num, by omega, HN1.out⟩
    case measure => simp [intOf]; omega
  ·obtain rfl : k = ss.length := by omega
   have q0 : decide ((ss.length : Int) < (ss.length : Int)) = false := decide_eq_false (by omega)
   have HNI := hide (show decide ((0 : Int) ≤ -1) = ss.contains s by
    rw [show decide ((0 : Int) ≤ -1) = false from rfl]
    symm
    rw [← Bool.not_eq_true, List.contains_iff_mem]
    intro hm
    obtain ⟨i, hi, he⟩ := List.getElem_of_mem hm
    exact HNO.out i hi hi he)
   go_wp2_with fail
   go_ret
   exact ⟨-1, rfl, HNI.out, rfl⟩
set_option maxHeartbeats 1000000 in
theorem contains_any (ss : List (List UInt8)) (s : List UInt8) (a : Option Addr) (cap : Nat) (w : World) (h1 : StrL w a ss) (hl : ss.length ≤ 1000000) :
  Calls Try.prog 66 #[.slice a ss.length cap, sv s] w fun e w' => e = .returned (.bool (ss.contains s)) ∧ w' = w := by
 have Hi := hide (index_any ss s a cap w h1 hl)
 clear h1
 unfold sv at Hi ⊢
 obtain ⟨B, hB⟩ : ∃ B, ss.contains s = B := ⟨_, rfl⟩
 unfold IxPost at Hi
 rw [hB] at Hi ⊢
 clear hB
 go_enter Try.func66, Try.ntmps66
 go_wp2_with fail
 refine Hi.out.mono ?_
 rintro e w1 ⟨n, rfl, hn, rfl⟩
 have HN := hide hn
 clear hn
 go_wp2_with fail
 go_ret
 exact ⟨ret_bool HN.out, rfl⟩
def tokV (t : Tok) : Value := .agg #[.int .i64 t.k, sv t.t, .int .i64 t.a]
set_option maxHeartbeats 4000000 in
theorem compounds_any (t : Tok) (w : World) : Calls Try.prog 56 #[tokV t] w fun e w' => e = .returned (.bool (cmpB t)) ∧ w.grownBy w' none := by
 obtain ⟨tk, s, ta⟩ := t
 have HC := hide (show cmpB ⟨tk, s, ta⟩ = ((tk == 2 && s == sPar) || (tk == 1 && cmpW.contains s)) from rfl)
 unfold tokV sv
 by_cases h0 : s = [40]
 ·subst h0
  by_cases hk : tk = 2
  ·subst hk
   go_enter Try.func56, Try.ntmps56
   go_wp2_with fail
   go_ret
   exact ⟨ret_bool (a := true) (by rw [HC.out]; rfl), only_alloc (only_refl w none) _⟩
  ·have q : ((tk : Int) == 2) = false := by rw [beq_eq_false_iff_ne]; omega
   have HQ := hide (show (tk == 2) = false by rw [beq_eq_false_iff_ne]; exact hk)
   have HC2 := hide (show ((tk == 2 && [40] == sPar) || (tk == 1 && cmpW.contains [40])) = false by rw [show cmpW.contains [40] = false from rfl, HQ.out]; simp)
   go_enter Try.func56, Try.ntmps56
   go_wp2_with fail
   go_ret
   exact ⟨ret_bool (a := false) (by rw [HC.out, HC2.out]), only_alloc (only_refl w none) _⟩
 have b0 : (s == [40]) = false := beq_eq_false_iff_ne.2 h0
 by_cases h1 : s = [123]
 ·subst h1
  by_cases hk : tk = 1
  ·subst hk
   go_enter Try.func56, Try.ntmps56
   go_wp2_with fail
   go_ret
   exact ⟨ret_bool (a := true) (by rw [HC.out]; rfl), only_alloc (only_refl w none) _⟩
  ·have q : ((tk : Int) == 1) = false := by rw [beq_eq_false_iff_ne]; omega
   have HQ := hide (show (tk == 1) = false by rw [beq_eq_false_iff_ne]; exact hk)
   have HC2 := hide (show ((tk == 2 && [123] == sPar) || (tk == 1 && cmpW.contains [123])) = false by rw [show ([123] == sPar) = false from rfl, HQ.out]; simp)
   go_enter Try.func56, Try.ntmps56
   go_wp2_with fail
   go_ret
   exact ⟨ret_bool (a := false) (by rw [HC.out, HC2.out]), only_alloc (only_refl w none) _⟩
 have b1 : (s == [123]) = false := beq_eq_false_iff_ne.2 h1
 by_cases h2 : s = [105, 102]
 ·subst h2
  by_cases hk : tk = 1
  ·subst hk
   go_enter Try.func56, Try.ntmps56
   go_wp2_with fail
   go_ret
   exact ⟨ret_bool (a := true) (by rw [HC.out]; rfl), only_alloc (only_refl w none) _⟩
  ·have q : ((tk : Int) == 1) = false := by rw [beq_eq_false_iff_ne]; omega
   have HQ := hide (show (tk == 1) = false by rw [beq_eq_false_iff_ne]; exact hk)
   have HC2 := hide (show ((tk == 2 && [105, 102] == sPar) || (tk == 1 && cmpW.contains [105, 102])) = false by rw [show ([105, 102] == sPar) = false from rfl, HQ.out]; simp)
   go_enter Try.func56, Try.ntmps56
   go_wp2_with fail
   go_ret
   exact ⟨ret_bool (a := false) (by rw [HC.out, HC2.out]), only_alloc (only_refl w none) _⟩
 have b2 : (s == [105, 102]) = false := beq_eq_false_iff_ne.2 h2
 by_cases h3 : s = [119, 104, 105, 108, 101]
 ·subst h3
  by_cases hk : tk = 1
  ·subst hk
   go_enter Try.func56, Try.ntmps56
   go_wp2_with fail
   go_ret
   exact ⟨ret_bool (a := true) (by rw [HC.out]; rfl), only_alloc (only_refl w none) _⟩
  ·have q : ((tk : Int) == 1) = false := by rw [beq_eq_false_iff_ne]; omega
   have HQ := hide (show (tk == 1) = false by rw [beq_eq_false_iff_ne]; exact hk)
   have HC2 := hide (show ((tk == 2 && [119, 104, 105, 108, 101] == sPar) || (tk == 1 && cmpW.contains [119, 104, 105, 108, 101])) = false by rw [show ([119, 104, 105, 108, 101] == sPar) = false from rfl, HQ.out]; simp)
   go_enter Try.func56, Try.ntmps56
   go_wp2_with fail
   go_ret
   exact ⟨ret_bool (a := false) (by rw [HC.out, HC2.out]), only_alloc (only_refl w none) _⟩
 have b3 : (s == [119, 104, 105, 108, 101]) = false := beq_eq_false_iff_ne.2 h3
 by_cases h4 : s = [117, 110, 116, 105, 108]
 ·subst h4
  by_cases hk : tk = 1
  ·subst hk
   go_enter Try.func56, Try.ntmps56
   go_wp2_with fail
   go_ret
   exact ⟨ret_bool (a := true) (by rw [HC.out]; rfl), only_alloc (only_refl w none) _⟩
  ·have q : ((tk : Int) == 1) = false := by rw [beq_eq_false_iff_ne]; omega
   have HQ := hide (show (tk == 1) = false by rw [beq_eq_false_iff_ne]; exact hk)
   have HC2 := hide (show ((tk == 2 && [117, 110, 116, 105, 108] == sPar) || (tk == 1 && cmpW.contains [117, 110, 116, 105, 108])) = false by rw [show ([117, 110, 116, 105, 108] == sPar) = false from rfl, HQ.out]; simp)
   go_enter Try.func56, Try.ntmps56
   go_wp2_with fail
   go_ret
   exact ⟨ret_bool (a := false) (by rw [HC.out, HC2.out]), only_alloc (only_refl w none) _⟩
 have b4 : (s == [117, 110, 116, 105, 108]) = false := beq_eq_false_iff_ne.2 h4
 by_cases h5 : s = [102, 111, 114]
 ·subst h5
  by_cases hk : tk = 1
  ·subst hk
   go_enter Try.func56, Try.ntmps56
   go_wp2_with fail
   go_ret
   exact ⟨ret_bool (a := true) (by rw [HC.out]; rfl), only_alloc (only_refl w none) _⟩
  ·have q : ((tk : Int) == 1) = false := by rw [beq_eq_false_iff_ne]; omega
   have HQ := hide (show (tk == 1) = false by rw [beq_eq_false_iff_ne]; exact hk)
   have HC2 := hide (show ((tk == 2 && [102, 111, 114] == sPar) || (tk == 1 && cmpW.contains [102, 111, 114])) = false by rw [show ([102, 111, 114] == sPar) = false from rfl, HQ.out]; simp)
   go_enter Try.func56, Try.ntmps56
   go_wp2_with fail
   go_ret
   exact ⟨ret_bool (a := false) (by rw [HC.out, HC2.out]), only_alloc (only_refl w none) _⟩
 have b5 : (s == [102, 111, 114]) = false := beq_eq_false_iff_ne.2 h5
 by_cases h6 : s = [99, 97, 115, 101]
 ·subst h6
  by_cases hk : tk = 1
  ·subst hk
   go_enter Try.func56, Try.ntmps56
   go_wp2_with fail
   go_ret
   exact ⟨ret_bool (a := true) (by rw [HC.out]; rfl), only_alloc (only_refl w none) _⟩
  ·have q : ((tk : Int) == 1) = false := by rw [beq_eq_false_iff_ne]; omega
   have HQ := hide (show (tk == 1) = false by rw [beq_eq_false_iff_ne]; exact hk)
   have HC2 := hide (show ((tk == 2 && [99, 97, 115, 101] == sPar) || (tk == 1 && cmpW.contains [99, 97, 115, 101])) = false by rw [show ([99, 97, 115, 101] == sPar) = false from rfl, HQ.out]; simp)
   go_enter Try.func56, Try.ntmps56
   go_wp2_with fail
   go_ret
   exact ⟨ret_bool (a := false) (by rw [HC.out, HC2.out]), only_alloc (only_refl w none) _⟩
 have b6 : (s == [99, 97, 115, 101]) = false := beq_eq_false_iff_ne.2 h6
 have hno : ((tk == 2 && s == sPar) || (tk == 1 && cmpW.contains s)) = false := by
  unfold cmpW
  simp only [List.contains_cons, List.contains_nil, Bool.or_false]
  simp only [wOpen, wIf, wWhile, wUntil, wFor, wCase, sPar, b0, b1, b2, b3, b4, b5, b6, Bool.and_false, Bool.or_false]
 have HN := hide hno
 clear hno
 go_enter Try.func56, Try.ntmps56
 go_wp2_with fail
 go_ret
 exact ⟨ret_bool (a := false) (by rw [HC.out, HN.out]), only_alloc (only_refl w none) _⟩
set_option maxHeartbeats 1000000 in
theorem wrong_any (av : Nat → Prop) (base : Nat → Prop) (rb d : Nat) (vt vn : Value) (t : Tok) (r : List Tok) (ns : List Nd) (w : World) (h : RAt av base w rb vt vn (t :: r) ns d) :
  Calls Try.prog 24 #[.pointer (some ⟨rb, 0, none⟩)] w fun e w' => e = .panicked [pfault t.a (if t.k = 4 then 23 else 17)] ∧ w.grownBy w' none := by
 obtain ⟨t0, r0, g, off, cap, he, rfl, hc, hg, c0, c1, c2⟩ := h.head
 injection he with he1 he2
 subst he1 he2
 obtain ⟨d0, d1, d2⟩ := h.cells
 have lb := Blk.lt h.blk
 have hib : (0 : Int) < (((t :: r).length : Nat) : Int) := by simp only [List.length_cons]; omega
 obtain ⟨L, hL⟩ : ∃ L, (t :: r).length = L := ⟨_, rfl⟩
 rw [hL] at d0 hib hc
 clear h hL
 obtain ⟨tk, tt, ta⟩ := t
 simp only [] at c0 c1 c2
 unfold pfault
 by_cases hk : tk = 4
 ·subst hk
  go_enter Try.func24, Try.ntmps24
  go_wp2_with fail
  exact post_panicP rfl ⟨rfl, only_alloc (only_refl w none) _⟩
 ·have q : ((tk : Int) == 4) = false := by rw [beq_eq_false_iff_ne]; omega
  go_enter Try.func24, Try.ntmps24
  go_wp2_with fail
  exact post_panicP rfl ⟨by simp only [], only_alloc (only_refl w none) _⟩
end Go.Proofs.Ytgpfjcogaheopaa

end
section
/- redirects, named. -/
namespace Go.Proofs.Ytgpfjcogaheopaa
open Go.RowKit Lx
set_option maxRecDepth 100000
set_option maxHeartbeats 2000000 in
theorem redirects_any (t : Tok) (w : World) : Calls Try.prog 57 #[tokV t] w fun e w' => e = .returned (.bool (rdrB t)) ∧ w.grownBy w' none := by
 obtain ⟨tk, tt, ta⟩ := t
 have hR : rdrB ⟨tk, tt, ta⟩ = (tk == 2 && rdrW.contains tt) := rfl
 have HR := hide hR
 have Hc := hide (fun W a cap (h : StrL W a rdrW) => contains_any rdrW tt a cap W h (by decide))
 have HS := hide (fun (W : World) (b : Nat) (hb0 : W.heap.size = b) => (show StrL (W.alloc (.cells #[.string ⟨#[60]⟩, .string ⟨#[62]⟩, .string ⟨#[62, 62]⟩, .string ⟨#[60, 38]⟩, .string ⟨#[62, 38]⟩, .string ⟨#[60, 62]⟩, .string ⟨#[62, 124]⟩] 9)) (some ⟨b, 0, none⟩) rdrW by
  subst hb0
  intro i hi
  refine ⟨W.heap.size, 0, rfl, by rw [World.size_alloc]; omega, ?_⟩
  have hb := Blk.new W 9 #[.string ⟨#[60]⟩, .string ⟨#[62]⟩, .string ⟨#[62, 62]⟩, .string ⟨#[60, 38]⟩, .string ⟨#[62, 38]⟩, .string ⟨#[60, 62]⟩, .string ⟨#[62, 124]⟩]
  rw [Nat.zero_add, Blk.cell hb]
  have hi : i < 7 := hi
  match i, hi with
  | 0, _ => rfl
  | 1, _ => rfl
  | 2, _ => rfl
  | 3, _ => rfl
  | 4, _ => rfl
  | 5, _ => rfl
  | 6, _ => rfl))
 obtain ⟨B, hB⟩ : ∃ B, rdrW.contains tt = B := ⟨_, rfl⟩
 rw [hB] at Hc HR
 unfold sv at Hc
 rw [show (rdrW.length : Nat) = 7 from rfl] at Hc
 clear hR hB
 unfold tokV sv
 by_cases hk : tk = 2
 ·subst hk
  go_enter Try.func57, Try.ntmps57
  go_wp2_with fail
  refine (Hc.out _ _ _ (HS.out _ _ (World.size_alloc _ _))).mono ?_
  rintro e w1 ⟨rfl, rfl⟩
  go_wp2_with fail
  go_ret
  exact ⟨ret_bool (a := B) (by rw [HR.out]; simp), only_alloc (only_alloc (only_refl w none) _) _⟩
 ·have q : ((tk : Int) == 2) = false := by rw [beq_eq_false_iff_ne]; omega
  have HQ2 := hide (show (tk == 2) = false by rw [beq_eq_false_iff_ne]; exact hk)
  go_enter Try.func57, Try.ntmps57
  go_wp2_with fail
  go_ret
  exact ⟨ret_bool (a := false) (by rw [HR.out, HQ2.out]; rfl), only_alloc (only_refl w none) _⟩
set_option maxHeartbeats 2000000 in
theorem named_any (t : Tok) (w : World) (hs : t.t.length ≤ 9223372036854775807) : Calls Try.prog 79 #[tokV t] w fun e w' => e = .returned (.bool (namedB t)) ∧ w.grownBy w' none := by
 obtain ⟨tk, s, ta⟩ := t
 have HC := hide (show namedB ⟨tk, s, ta⟩ = (tk == 1 && nmGo true s == s.length) from rfl)
 have Hn := hide (fun W => name_any s W hs)
 have h1 := sz s
 unfold tokV
 unfold sv at Hn ⊢
 obtain ⟨n, hn⟩ : ∃ n, nmGo true s = n := ⟨_, rfl⟩
 rw [hn] at HC Hn
 clear hn
 have Hb := hide (Blk.new w 41 #[.int .i64 tk, .string ⟨s.toArray⟩, .int .i64 ta])
 have lb := Blk.lt Hb.out
 have c0 := Blk.cell Hb.out 0
 have c1 := Blk.cell Hb.out 1
 by_cases hk : tk = 1
 ·subst hk
  go_enter Try.func79, Try.ntmps79
  go_wp2_with fail
  go_quiet ((go_at_call 91; exact Calls.quiet_of_same (Hn.out _)))
  go_wp2_with fail
  go_ret
  exact ⟨ret_bool (a := ((n : Int) == (s.length : Int))) (by rw [HC.out, Bool.eq_iff_iff]; first | (simp; done) | (simp; omega)), only_drewN (only_alloc (only_refl w none) _) _⟩
 ·have q : ((tk : Int) == 1) = false := by rw [beq_eq_false_iff_ne]; omega
  have HQ2 := hide (show (tk == 1) = false by rw [beq_eq_false_iff_ne]; exact hk)
  go_enter Try.func79, Try.ntmps79
  go_wp2_with fail
  go_quiet (fail)
  go_wp2_with fail
  go_ret
  exact ⟨ret_bool (a := false) (by rw [HC.out, HQ2.out]; rfl), only_drewN (only_alloc (only_refl w none) _) _⟩
end Go.Proofs.Ytgpfjcogaheopaa

end
section
/- The parser's next, take, need, breaks. -/
namespace Go.Proofs.Ytgpfjcogaheopaa
open Go.RowKit Lx
set_option maxRecDepth 100000
section
variable {av : Nat → Prop} {base : Nat → Prop} {rb d : Nat} {w w' : World} {vt vn : Value} {ts : List Tok} {ns : List Nd}
theorem NdS.far {v u : Value} {p : Addr} (h : NdS av w v ns) (hb : base p.block) (ht : HasT w p.block 54) : NdS av (w.setCell p u) v ns := by
 obtain ⟨cs, h1, h2⟩ := h
 have hf : Fr base w (w.setCell p u) := (Fr.refl base w).set hb (.inl ht) u
 refine ⟨cs, h1.far (fun e => ?_) u, fun i hi => ?_⟩
 ·have := (h1.hasT e).uniq ht
  exact absurd this (by decide)
 ·obtain ⟨x, y, r, p', k, e, hn⟩ := h2 i hi
  exact ⟨x, y, r, p', k, e, hn.fr hf⟩
theorem RAt.step {t : Tok} {r : List Tok} {g off L cap : Nat} (h : RAt av base w rb (.slice (some ⟨g, off, none⟩) L cap) vn (t :: r) ns d) (hL : (t :: r).length = L) (hk : t.k ≠ 4) :
  RAt av base (w.setCell ⟨rb, 0, none⟩ (.slice (some ⟨g, off + 3, none⟩) (L - 1) (cap - 1))) rb (.slice (some ⟨g, off + 3, none⟩) (L - 1) (cap - 1)) vn r ns d := by
 subst hL
 have hf := Own.from_ h.tok 1 (by simp)
 have hd : (tcs (t :: r)).drop (1 * 3) = tcs r := rfl
 rw [hd] at hf
 have hlen : (t :: r).length - 1 = r.length := rfl
 rw [hlen] at hf ⊢
 have hne : (Value.slice (some ⟨g, off + 3, none⟩) r.length (cap - 1)).ownBlock ≠ some rb := fun e => by
  have := (Own.hasT (w := w) hf e).uniq h.blk.hasT
  exact absurd this (by decide)
 refine ⟨Blk.set_ h.blk 0 _, (hf.mono (Nat.zero_le _)).far (p := ⟨rb, 0, none⟩) hne _, h.nds.far (p := ⟨rb, 0, none⟩) h.lo.at_ h.blk.hasT, h.new, h.lo.size (by rw [World.size_setCell]; exact Nat.le_refl _), h.good.tail hk, ?_, h.dep, fun x hx => h.txt x (List.mem_cons_of_mem _ hx)⟩
 have := h.few
 simp only [List.length_cons] at this
 omega
theorem RAt.fr_set (h : RAt av base w rb vt vn ts ns d) (j : Nat) (u : Value) : Fr base w (w.setCell ⟨rb, j, none⟩ u) := (Fr.refl base w).set (p := ⟨rb, j, none⟩) h.lo.at_ (.inl h.blk.hasT) u
end
def vTok : World → Tok → Value → Prop := fun _ t v => v = tokV t
def nextR (ts : List Tok) (ns : List Nd) : PR Tok := match ts with
 | t :: r => .ok t r ns
 | [] => .bad 0 0
set_option maxHeartbeats 4000000 in
theorem next_any (av : Nat → Prop) (base : Nat → Prop) (rb d : Nat) (vt vn : Value) (t : Tok) (r : List Tok) (ns : List Nd) (w : World) (h : RAt av base w rb vt vn (t :: r) ns d) (hk : t.k ≠ 4) :
  Calls Try.prog 39 #[.pointer (some ⟨rb, 0, none⟩)] w (TPost vTok av base w rb vn d (.ok t r ns)) := by
 obtain ⟨t0, r0, g, off, cap, he, rfl, hc, hg, c0, c1, c2⟩ := h.head
 injection he with he1 he2
 subst he1 he2
 obtain ⟨d0, d1, d2⟩ := h.cells
 have lb := Blk.lt h.blk
 have z0 := Blk.frozen h.blk 0
 have hg2 := (h.good.tail hk).pos
 have hlen : (t :: r).length = r.length + 1 := rfl
 obtain ⟨L, hL⟩ : ∃ L, (t :: r).length = L := ⟨_, rfl⟩
 have HST := hide (RAt.step (by rw [← hL]; exact h) hL hk)
 rw [hL] at d0 hc hlen
 have hib : (0 : Int) < (L : Int) := by omega
 have hi1 : (1 : Int) ≤ (L : Int) := by omega
 have hi2 : ¬ (cap = 1) := by omega
 have hLL : 1 ≤ L := by omega
 have hcc : 1 < cap := by omega
 unfold TPost vTok tokV TIs
 clear h hL hk hlen hg2
 obtain ⟨tk, tt, ta⟩ := t
 simp only [] at c0 c1 c2
 go_enter Try.func39, Try.ntmps39
 go_wp2_with fail
 refine bodyPost_ret (v := .agg #[.int .i64 tk, .string ⟨tt.toArray⟩, .int .i64 ta]) (by simp [results, Try.results39, go_sem]) rfl ?_
 exact ⟨_, rfl, rfl, ⟨_, HST.out.grown (only_alloc (only_alloc (only_refl _ none) _) _)⟩, only_alloc (only_alloc (only_setCell (only_refl w (some rb)) (p := ⟨rb, 0, none⟩) (.inl rfl) _) _) _⟩
def vBool : World → Bool → Value → Prop := fun _ b v => v = .bool b
theorem TIs.grown {av : Nat → Prop} {base : Nat → Prop} {rb d : Nat} {w w' : World} {vn : Value} {ts : List Tok} {ns : List Nd} (h : TIs av base w rb vn ts ns d) (hg : w.grownBy w' none) : TIs av base w' rb vn ts ns d := by
 obtain ⟨vt, h⟩ := h
 exact ⟨vt, h.grown hg⟩
theorem TIs.good {av : Nat → Prop} {base : Nat → Prop} {rb d : Nat} {w : World} {vn : Value} {ts : List Tok} {ns : List Nd} (h : TIs av base w rb vn ts ns d) : Good ts := by
 obtain ⟨vt, h⟩ := h
 exact h.good
theorem RIs.grown {av : Nat → Prop} {base : Nat → Prop} {rb d : Nat} {w w' : World} {ts : List Tok} {ns : List Nd} (h : RIs av base w rb ts ns d) (hg : w.grownBy w' none) : RIs av base w' rb ts ns d := by
 obtain ⟨vt, vn, h⟩ := h
 exact ⟨vt, vn, h.grown hg⟩
theorem RIs.good {av : Nat → Prop} {base : Nat → Prop} {rb d : Nat} {w : World} {ts : List Tok} {ns : List Nd} (h : RIs av base w rb ts ns d) : Good ts := by
 obtain ⟨vt, vn, h⟩ := h
 exact h.good
theorem rb_none {a b : World} {rb : Nat} (h : a.grownBy b none) : a.grownBy b (some rb) := only_of_none h _
theorem rb_trans {a b c : World} {rb : Nat} (h : a.grownBy b (some rb)) (k : b.grownBy c (some rb)) : a.grownBy c (some rb) := only_trans h k
set_option maxHeartbeats 4000000 in
theorem take_any (av : Nat → Prop) (base : Nat → Prop) (rb d : Nat) (vn : Value) (ts : List Tok) (ns : List Nd) (s : List UInt8) (w : World) (h : TIs av base w rb vn ts ns d) :
  Calls Try.prog 41 #[.pointer (some ⟨rb, 0, none⟩), sv s] w (TPost vBool av base w rb vn d (.ok (isB ts s) (takeT ts s) ns)) := by
 have hgd := h.good
 obtain ⟨t, r, rfl⟩ := hgd.ne
 have HR := hide h
 have Hs := hide (fun W (hW : TIs av base W rb vn (t :: r) ns d) => (show Calls Try.prog 38 #[.pointer (some ⟨rb, 0, none⟩), sv s] W fun e w' => e = .returned (.bool (sgnB (t :: r) s)) ∧ W.grownBy w' none by obtain ⟨vt, hW⟩ := hW; exact sign_any av base rb d vt vn _ ns s W hW))
 have Hw := hide (fun W (hW : TIs av base W rb vn (t :: r) ns d) => (show Calls Try.prog 55 #[.pointer (some ⟨rb, 0, none⟩), sv s] W fun e w' => e = .returned (.bool (wrdB (t :: r) s)) ∧ W.grownBy w' none by obtain ⟨vt, hW⟩ := hW; exact word_any av base rb d vt vn _ ns s W hW))
 have Hn := hide (fun W (hW : TIs av base W rb vn (t :: r) ns d) (hk : t.k ≠ 4) => (show Calls Try.prog 39 #[.pointer (some ⟨rb, 0, none⟩)] W (TPost vTok av base W rb vn d (.ok t r ns)) by obtain ⟨vt, hW⟩ := hW; exact next_any av base rb d vt vn t r ns W hW hk))
 have HI := hide (show isB (t :: r) s = (sgnB (t :: r) s || wrdB (t :: r) s) from rfl)
 have HK := hide (fun (hb : isB (t :: r) s = true) => (is_k hb).1)
 have HT := hide (fun (hb : isB (t :: r) s = true) => (show takeT (t :: r) s = r by unfold takeT; rw [hb]; rfl))
 have HF := hide (fun (hb : isB (t :: r) s = false) => (show takeT (t :: r) s = t :: r by unfold takeT; rw [hb]; rfl))
 unfold TPost vTok at Hn
 unfold TPost vBool
 unfold sv at Hs Hw ⊢
 obtain ⟨a, ha⟩ : ∃ a, sgnB (t :: r) s = a := ⟨_, rfl⟩
 obtain ⟨b, hb⟩ : ∃ b, wrdB (t :: r) s = b := ⟨_, rfl⟩
 rw [ha] at Hs HI
 rw [hb] at Hw HI
 obtain ⟨c, hc⟩ : ∃ c, isB (t :: r) s = c := ⟨_, rfl⟩
 rw [hc] at HI HK HT HF ⊢
 obtain ⟨T, hT⟩ : ∃ T, takeT (t :: r) s = T := ⟨_, rfl⟩
 rw [hT] at HT HF ⊢
 clear h hgd ha hb hc hT
 cases a with
 | true =>
  obtain rfl : c = true := HI.out
  obtain rfl : T = r := HT.out rfl
  go_enter Try.func41, Try.ntmps41
  go_wp2_with fail
  refine (Hs.out _ HR.out).mono ?_
  rintro e w1 ⟨rfl, g1⟩
  have HR1 := hide (HR.out.grown g1)
  have HG1 := hide g1
  clear g1
  go_wp2_with fail
  refine (Hn.out _ HR1.out (HK.out trivial)).mono ?_
  rintro e w2 ⟨v, rfl, rfl, hr2, hf2⟩
  have HR2 := hide hr2
  have HF2 := hide (rb_trans (rb_none HG1.out) hf2)
  clear hr2 hf2
  go_wp2_with fail
  go_ret
  exact ⟨_, rfl, rfl, HR2.out, HF2.out⟩
 | false =>
  cases b with
  | true =>
   obtain rfl : c = true := HI.out
   obtain rfl : T = r := HT.out rfl
   go_enter Try.func41, Try.ntmps41
   go_wp2_with fail
   refine (Hs.out _ HR.out).mono ?_
   rintro e w1 ⟨rfl, g1⟩
   have HR1 := hide (HR.out.grown g1)
   have HG1 := hide g1
   clear g1
   go_wp2_with fail
   refine (Hw.out _ HR1.out).mono ?_
   rintro e w1b ⟨rfl, g1b⟩
   have HR1b := hide (HR1.out.grown g1b)
   have HG1b := hide (none_trans HG1.out g1b)
   clear g1b
   go_wp2_with fail
   refine (Hn.out _ HR1b.out (HK.out trivial)).mono ?_
   rintro e w2 ⟨v, rfl, rfl, hr2, hf2⟩
   have HR2 := hide hr2
   have HF2 := hide (rb_trans (rb_none HG1b.out) hf2)
   clear hr2 hf2
   go_wp2_with fail
   go_ret
   exact ⟨_, rfl, rfl, HR2.out, HF2.out⟩
  | false =>
   obtain rfl : c = false := HI.out
   obtain rfl : T = t :: r := HF.out rfl
   go_enter Try.func41, Try.ntmps41
   go_wp2_with fail
   refine (Hs.out _ HR.out).mono ?_
   rintro e w1 ⟨rfl, g1⟩
   have HR1 := hide (HR.out.grown g1)
   have HG1 := hide g1
   clear g1
   go_wp2_with fail
   refine (Hw.out _ HR1.out).mono ?_
   rintro e w1b ⟨rfl, g1b⟩
   have HR1b := hide (HR1.out.grown g1b)
   have HG1b := hide (none_trans HG1.out g1b)
   clear g1b
   go_wp2_with fail
   go_ret
   exact ⟨_, rfl, rfl, HR1b.out, rb_none HG1b.out⟩
set_option maxHeartbeats 4000000 in
theorem need_any (av : Nat → Prop) (base : Nat → Prop) (rb d : Nat) (vn : Value) (ts : List Tok) (ns : List Nd) (s : List UInt8) (w : World) (h : TIs av base w rb vn ts ns d) :
  Calls Try.prog 92 #[.pointer (some ⟨rb, 0, none⟩), sv s] w (TPost vUnit av base w rb vn d (needR s ts ns)) := by
 have hgd := h.good
 obtain ⟨t, r, rfl⟩ := hgd.ne
 have HR := hide h
 have Ht := hide (fun W (hW : TIs av base W rb vn (t :: r) ns d) => take_any av base rb d vn _ ns s W hW)
 have Hw := hide (fun W (hW : TIs av base W rb vn (t :: r) ns d) => (show Calls Try.prog 24 #[.pointer (some ⟨rb, 0, none⟩)] W fun e w' => e = .panicked [pfault t.a (if t.k = 4 then 23 else 17)] ∧ W.grownBy w' none by obtain ⟨vt, hW⟩ := hW; exact wrong_any av base rb d vt vn t r ns W hW))
 unfold TPost vBool at Ht
 unfold needR
 obtain ⟨c, hc⟩ : ∃ c, isB (t :: r) s = c := ⟨_, rfl⟩
 have HT := hide (fun (hb : c = true) => (show takeT (t :: r) s = r by unfold takeT; rw [hc, hb]; rfl))
 have HF := hide (fun (hb : c = false) => (show takeT (t :: r) s = t :: r by unfold takeT; rw [hc, hb]; rfl))
 rw [hc] at Ht ⊢
 obtain ⟨T, hT⟩ : ∃ T, takeT (t :: r) s = T := ⟨_, rfl⟩
 rw [hT] at HT HF Ht
 unfold sv at Ht ⊢
 clear h hgd hc hT
 cases c with
 | true =>
  obtain rfl : T = r := HT.out rfl
  rw [if_pos rfl]
  unfold TPost vUnit
  simp only [List.tail_cons]
  go_enter Try.func92, Try.ntmps92
  go_wp2_with fail
  refine (Ht.out _ HR.out).mono ?_
  rintro e w1 ⟨v, rfl, rfl, hr, hf⟩
  have HR1 := hide hr
  have HF1 := hide hf
  clear hr hf
  go_wp2_with fail
  refine bodyPost_end (results_none rfl _ _ _) rfl ⟨_, rfl, rfl, HR1.out, HF1.out⟩
 | false =>
  obtain rfl : T = t :: r := HF.out rfl
  rw [if_neg (by decide)]
  unfold wrongR TPost
  simp only []
  go_enter Try.func92, Try.ntmps92
  go_wp2_with fail
  refine (Ht.out _ HR.out).mono ?_
  rintro e w1 ⟨v, rfl, rfl, hr, hf⟩
  have HR1 := hide hr
  have HF1 := hide hf
  clear hr hf
  go_wp2_with fail
  refine (Hw.out _ HR1.out).mono ?_
  rintro e w2 ⟨rfl, g2⟩
  exact post_panicP rfl ⟨rfl, rb_trans HF1.out (rb_none g2)⟩
set_option maxHeartbeats 4000000 in
theorem breaks_any (av : Nat → Prop) (base : Nat → Prop) (rb d : Nat) (vn : Value) (ts : List Tok) (ns : List Nd) (w : World) (h : TIs av base w rb vn ts ns d) :
  Calls Try.prog 22 #[.pointer (some ⟨rb, 0, none⟩)] w (TPost vUnit av base w rb vn d (.ok () (breaksF ts) ns)) := by
 have HR := hide h
 have Hs := hide (fun W ts (hW : TIs av base W rb vn ts ns d) => (show Calls Try.prog 38 #[.pointer (some ⟨rb, 0, none⟩), sv sLf] W fun e w' => e = .returned (.bool (sgnB ts sLf)) ∧ W.grownBy w' none by obtain ⟨vt, hW⟩ := hW; exact sign_any av base rb d vt vn _ ns sLf W hW))
 have Hn := hide (fun W t r (hW : TIs av base W rb vn (t :: r) ns d) (hk : t.k ≠ 4) => (show Calls Try.prog 39 #[.pointer (some ⟨rb, 0, none⟩)] W (TPost vTok av base W rb vn d (.ok t r ns)) by obtain ⟨vt, hW⟩ := hW; exact next_any av base rb d vt vn t r ns W hW hk))
 unfold TPost vTok at Hn
 unfold TPost vUnit
 unfold sLf sv at Hs
 obtain ⟨B, hB⟩ : ∃ B, breaksF ts = B := ⟨_, rfl⟩
 rw [hB]
 have HB := hide hB
 clear h hB
 go_enter Try.func22, Try.ntmps22
 go_wp2_with fail
 go_loopg [] ts.length (fun g wr => ∃ T, breaksF T = B ∧ T.length ≤ g ∧ TIs av base wr rb vn T ns d ∧ w.grownBy wr (some rb))
 case atStart => exact ⟨ts, HB.out, Nat.le_refl _, HR.out, only_refl w _⟩
 case round =>
  obtain ⟨T, hT, hg, hr, hf⟩ := hrel
  obtain ⟨t, r, rfl⟩ := hr.good.ne
  have HT := hide hT
  have HRr := hide hr
  have HFr := hide hf
  have HG := hide hg
  clear hT hr hf hg
  obtain ⟨c, hc⟩ : ∃ c, sgnB (t :: r) [10] = c := ⟨_, rfl⟩
  have Hc := hide hc
  cases c with
  | true =>
   have HK := hide (sgn_k hc).1
   have HT2 := hide (show breaksF r = B by
    rw [← HT.out]
    show _ = (if _ then _ else _)
    rw [if_pos (show (t.k == 2 && t.t == sLf) = true from hc)])
   have Hsg := hide (fun W hW => by have := Hs.out W (t :: r) hW; rw [hc] at this; exact this)
   clear hc
   go_wp2_with fail
   refine (Hsg.out _ HRr.out).mono ?_
   rintro e w1 ⟨rfl, g1⟩
   have HR1 := hide (HRr.out.grown g1)
   have HF1 := hide (rb_trans HFr.out (rb_none g1))
   clear g1
   go_wp2_with fail
   refine (Hn.out _ t r HR1.out (by have := HK.out; omega)).mono ?_
   rintro e w2 ⟨v, rfl, rfl, hr2, hf2⟩
   have HR2 := hide hr2
   have HF2 := hide (rb_trans HF1.out hf2)
   clear hr2 hf2
   go_wp2_with fail
   go_roundg (gk - 1)
   case rel => exact ⟨r, HT2.out, by have := HG.out; simp only [List.length_cons] at this; omega, HR2.out, HF2.out⟩
   case measure => have := HG.out; simp only [List.length_cons] at this; omega
  | false =>
   have HT2 := hide (show t :: r = B by
    rw [← HT.out]
    show _ = (if _ then _ else _)
    rw [if_neg (show ¬ (t.k == 2 && t.t == sLf) = true from by rw [show (t.k == 2 && t.t == sLf) = false from hc]; decide)])
   have Hsg := hide (fun W hW => by have := Hs.out W (t :: r) hW; rw [hc] at this; exact this)
   clear hc
   go_wp2_with fail
   refine (Hsg.out _ HRr.out).mono ?_
   rintro e w1 ⟨rfl, g1⟩
   have HR1 := hide (HRr.out.grown g1)
   have HF1 := hide (rb_trans HFr.out (rb_none g1))
   clear g1
   go_wp2_with fail
   refine bodyPost_end (results_none rfl _ _ _) rfl ⟨_, rfl, rfl, by rw [← HT2.out]; exact HR1.out, HF1.out⟩
end Go.Proofs.Ytgpfjcogaheopaa

end
section
/- A node laid. -/
namespace Go.Proofs.Ytgpfjcogaheopaa
open Go.RowKit Lx
set_option maxRecDepth 100000
theorem infoNode : (Try.prog.info? 33).map (fun i => (i.zero, i.size, i.bytes)) = some (some (.agg #[.int .i64 0, .string ⟨#[]⟩, .bool false, .slice none 0 0, .slice none 0 0, .slice none 0 0, .slice none 0 0, .slice none 0 0]), 8, 152) := by kernel_rfl
theorem nd_drop {cs xs : List Value} {n i : Nat} (hl : cs.length = n * 8) (hi : i < n) : ((cs ++ xs).drop (i * 8)).take 8 = (cs.drop (i * 8)).take 8 := by
 rw [List.drop_append_of_le_length (by omega), List.take_append_of_le_length (by rw [List.length_drop]; omega)]
theorem NdS.add {av : Nat → Prop} {base : Nat → Prop} {w w' : World} {v' a b r p k : Value} {ns : List Nd} {n : Nd} {cs : List Value} (hl : cs.length = ns.length * 8) (h2 : ∀ i (h : i < ns.length), ∃ a b r p k, (cs.drop (i * 8)).take 8 = ndCells ns[i] a b r p k ∧ NdAt av w a b r p k ns[i])
  (ho : Own w' 33 8 v' (ns.length + 1) (cs ++ ndCells n a b r p k) 0) (hf : Fr base w w') (hn : NdAt av w a b r p k n) : NdS av w' v' (ns ++ [n]) := by
 refine ⟨cs ++ ndCells n a b r p k, by rw [List.length_append, List.length_singleton]; exact ho, fun i hi => ?_⟩
 rw [List.length_append, List.length_singleton] at hi
 by_cases hin : i < ns.length
 ·obtain ⟨a', b', r', p', k', e, hq⟩ := h2 i hin
  refine ⟨a', b', r', p', k', ?_, ?_⟩
  ·rw [nd_drop hl hin, e, List.getElem_append_left hin]
  ·rw [List.getElem_append_left hin]; exact hq.fr hf
 ·obtain rfl : i = ns.length := by omega
  refine ⟨a, b, r, p, k, ?_, ?_⟩
  ·rw [← hl, List.drop_left' rfl, List.getElem_append_right (Nat.le_refl _)]
   simp [ndCells]
  ·rw [List.getElem_append_right (Nat.le_refl _)]
   simp
   exact hn.fr hf
theorem NdAt.forms {av : Nat → Prop} {w : World} {a b r p k : Value} {n : Nd} (h : NdAt av w a b r p k n) : ∃ a1 a2 a3 b1 b2 b3 r1 r2 r3 p1 p2 p3 k1 k2 k3, a = .slice a1 a2 a3 ∧ b = .slice b1 b2 b3 ∧ r = .slice r1 r2 r3 ∧ p = .slice p1 p2 p3 ∧ k = .slice k1 k2 k3 := by
 obtain ⟨x1, y1, e1, _⟩ := h.sets.form
 obtain ⟨x2, y2, e2, _⟩ := h.words.form
 obtain ⟨x3, y3, e3, _⟩ := h.rds.form
 obtain ⟨cs, hp, _, _⟩ := h.pats
 obtain ⟨x4, y4, e4, _⟩ := hp.form
 obtain ⟨x5, y5, e5, _⟩ := h.kids.form
 exact ⟨_, _, _, _, _, _, _, _, _, _, _, _, _, _, _, e1, e2, e3, e4, e5⟩
theorem srcN (W : World) (B : Nat) (n : Nd) (a1 b1 r1 p1 k1 : Option Addr) (a2 a3 b2 b3 r2 r3 p2 p3 k2 k3 : Nat) (hb : W.heap.size = B) :
  Src Try.prog 8 23 (.slice (some ⟨B, 0, none⟩) 1 1) 1 (ndCells n (.slice a1 a2 a3) (.slice b1 b2 b3) (.slice r1 r2 r3) (.slice p1 p2 p3) (.slice k1 k2 k3)) (W.alloc (.cells #[.int .i64 n.kind, .string ⟨n.name.toArray⟩, .bool n.inn, .slice a1 a2 a3, .slice b1 b2 b3, .slice r1 r2 r3, .slice p1 p2 p3, .slice k1 k2 k3] 33)) := by
 subst hb
 refine Own.src (P := Try.prog) (tx := 23) (e' := 33) (n := 1) (k := 0) (e := 33) ⟨rfl, .inr ⟨W.heap.size, 0, 1, _, (0, 0), rfl, Blk.new W 33 _, Nat.le_refl _, Nat.le_refl _, by unfold maxLen; omega, by show 0 + 1 * 8 ≤ 8; omega, fun j hj => by rw [Nat.zero_add]; simp [ndCells, sv]⟩⟩ (by kernel_rfl) ?_
 intro u hu
 simp only [ndCells, List.mem_cons, List.mem_nil_iff, or_false] at hu
 rcases hu with rfl | rfl | rfl | rfl | rfl | rfl | rfl | rfl <;> rfl
set_option maxHeartbeats 8000000 in
theorem lay_any (av : Nat → Prop) (base : Nat → Prop) (rb d : Nat) (ts : List Tok) (ns : List Nd) (n : Nd) (a b r p k : Value) (w : World) (h : RIs av base w rb ts ns d) (hn : NdAt av w a b r p k n) (hfew : ns.length + 1 + 10 * ts.length ≤ 100000) :
  Calls Try.prog 42 #[.pointer (some ⟨rb, 0, none⟩), .agg (ndCells n a b r p k).toArray] w (GPost vInt av base w rb d (layR n ts ns)) := by
 obtain ⟨a1, a2, a3, b1, b2, b3, r1, r2, r3, p1, p2, p3, k1, k2, k3, rfl, rfl, rfl, rfl, rfl⟩ := hn.forms
 obtain ⟨vt, vn, h⟩ := h
 obtain ⟨cs, hcs, hat⟩ := h.nds
 obtain ⟨an, cv, rfl, hcv, _⟩ := hcs.form
 have hl := hcs.len
 obtain ⟨d0, d1, d2⟩ := h.cells
 have lb := Blk.lt h.blk
 have z1 := Blk.frozen h.blk 1
 have HH := hide h
 have HN := hide hn
 have HCS := hide hcs
 have HAT := hide hat
 have HSRC := hide (fun W B hb => srcN W B n a1 b1 r1 p1 k1 a2 a3 b2 b3 r2 r3 p2 p3 k2 k3 hb)
 have HB := hide (Blk.new w 33 (ndCells n (.slice a1 a2 a3) (.slice b1 b2 b3) (.slice r1 r2 r3) (.slice p1 p2 p3) (.slice k1 k2 k3)).toArray)
 have Hl := hide hl
 unfold layR GPost vInt RIs
 clear h hn hcs hat hl
 obtain ⟨NL, hNL⟩ : ∃ NL, ns.length = NL := ⟨_, rfl⟩
 rw [hNL] at d1 hcv
 have HNL := hide hNL
 rw [hNL]
 have hNb : NL ≤ 100000 := by omega
 clear hNL
 unfold ndCells at HB
 obtain ⟨nk, nn, ni, nsets, nwords, nrds, npats, nkids⟩ := n
 simp only [] at HB
 simp only [ndCells]
 unfold sv at HB ⊢
 have h8 : (w.alloc (.cells #[.int .i64 nk, .string ⟨nn.toArray⟩, .bool ni, .slice a1 a2 a3, .slice b1 b2 b3, .slice r1 r2 r3, .slice p1 p2 p3, .slice k1 k2 k3] 33)).heap.size = w.heap.size + 1 := World.size_alloc _ _
 go_enter Try.func42, Try.ntmps42
 go_wp2_with fail
 have hgw := only_alloc (only_refl w none) (.cells #[.int .i64 nk, .string ⟨nn.toArray⟩, .bool ni, .slice a1 a2 a3, .slice b1 b2 b3, .slice r1 r2 r3, .slice p1 p2 p3, .slice k1 k2 k3] 33)
 have hHW := HH.out.grown hgw
 have hOW := old_own hgw HCS.out
 have hNW := HN.out.fr (base := base) (Fr.of_grown hgw)
 obtain ⟨W, hW⟩ : ∃ W, w.alloc (.cells #[.int .i64 nk, .string ⟨nn.toArray⟩, .bool ni, .slice a1 a2 a3, .slice b1 b2 b3, .slice r1 r2 r3, .slice p1 p2 p3, .slice k1 k2 k3] 33) = W := ⟨_, rfl⟩
 rw [hW] at hgw hHW hOW hNW HB h8 ⊢
 clear hW d0 d1 d2 lb z1
 obtain ⟨_, d1, _⟩ := hHW.cells
 rw [HNL.out] at d1 hOW
 have lb := Blk.lt hHW.blk
 have lB := Blk.lt HB.out
 have e0 : W.cell? ⟨w.heap.size, 0, none⟩ = some (.int .i64 nk) := Blk.cell HB.out 0
 have e1 : W.cell? ⟨w.heap.size, 1, none⟩ = some (.string ⟨nn.toArray⟩) := Blk.cell HB.out 1
 have e2 : W.cell? ⟨w.heap.size, 2, none⟩ = some (.bool ni) := Blk.cell HB.out 2
 have e3 : W.cell? ⟨w.heap.size, 3, none⟩ = some (.slice a1 a2 a3) := Blk.cell HB.out 3
 have e4 : W.cell? ⟨w.heap.size, 4, none⟩ = some (.slice b1 b2 b3) := Blk.cell HB.out 4
 have e5 : W.cell? ⟨w.heap.size, 5, none⟩ = some (.slice r1 r2 r3) := Blk.cell HB.out 5
 have e6 : W.cell? ⟨w.heap.size, 6, none⟩ = some (.slice p1 p2 p3) := Blk.cell HB.out 6
 have e7 : W.cell? ⟨w.heap.size, 7, none⟩ = some (.slice k1 k2 k3) := Blk.cell HB.out 7
 have HGW := hide hgw
 have HHW := hide hHW
 have HOW := hide hOW
 have HNW := hide hNW
 clear hgw hHW hOW hNW
 refine wp_region_perm [0, 1, 2, 3, 4, 5] [6, 7, 8, 9, 10] (by kernel_rfl) (by kernel_rfl) (fun W' => W'.cell? ⟨rb, 1, none⟩ = some (.slice an NL cv) ∧ W'.cell? ⟨w.heap.size, 0, none⟩ = some (.int .i64 nk) ∧ W'.cell? ⟨w.heap.size, 1, none⟩ = some (.string ⟨nn.toArray⟩) ∧ W'.cell? ⟨w.heap.size, 2, none⟩ = some (.bool ni) ∧ W'.cell? ⟨w.heap.size, 3, none⟩ = some (.slice a1 a2 a3) ∧ W'.cell? ⟨w.heap.size, 4, none⟩ = some (.slice b1 b2 b3) ∧ W'.cell? ⟨w.heap.size, 5, none⟩ = some (.slice r1 r2 r3) ∧ W'.cell? ⟨w.heap.size, 6, none⟩ = some (.slice p1 p2 p3) ∧ W'.cell? ⟨w.heap.size, 7, none⟩ = some (.slice k1 k2 k3)) ⟨d1, e0, e1, e2, e3, e4, e5, e6, e7⟩ ?_
 simp only [pick, List.getElem?_cons_zero, List.getElem?_cons_succ]
 refine wpTake_cons ?_ (by rfl) ?_ ?_
 rotate_left
 ·(intro W9 hSW; obtain ⟨j0, q0, q1, q2, q3, q4, q5, q6, q7⟩ := hSW; go_simp; try with_reducible rfl)
 simp only [Act.put, List.setIfInBounds_toArray, List.set_cons_zero, List.set_cons_succ]
 refine wpTake_cons ?_ (by rfl) ?_ ?_
 rotate_left
 ·(intro W9 hSW; obtain ⟨j0, q0, q1, q2, q3, q4, q5, q6, q7⟩ := hSW; go_simp; try with_reducible rfl)
 simp only [Act.put, List.setIfInBounds_toArray, List.set_cons_zero, List.set_cons_succ]
 refine wpTake_cons ?_ (by rfl) ?_ ?_
 rotate_left
 ·(intro W9 hSW; obtain ⟨j0, q0, q1, q2, q3, q4, q5, q6, q7⟩ := hSW; go_simp; try with_reducible rfl)
 simp only [Act.put, List.setIfInBounds_toArray, List.set_cons_zero, List.set_cons_succ]
 refine wpTake_cons ?_ (by rfl) ?_ ?_
 rotate_left
 ·(intro W9 hSW; obtain ⟨j0, q0, q1, q2, q3, q4, q5, q6, q7⟩ := hSW; go_simp; try with_reducible rfl)
 simp only [Act.put, List.setIfInBounds_toArray, List.set_cons_zero, List.set_cons_succ]
 refine wpTake_cons ?_ (by rfl) ?_ ?_
 rotate_left
 ·(intro W9 hSW; obtain ⟨j0, q0, q1, q2, q3, q4, q5, q6, q7⟩ := hSW; go_simp; try with_reducible rfl)
 simp only [Act.put, List.setIfInBounds_toArray, List.set_cons_zero, List.set_cons_succ]
 refine wpTake_cons ?_ (by rfl) ?_ ?_
 rotate_left
 ·(intro W9 hSW; obtain ⟨j0, q0, q1, q2, q3, q4, q5, q6, q7⟩ := hSW; go_simp; try with_reducible rfl)
 simp only [Act.put, List.setIfInBounds_toArray, List.set_cons_zero, List.set_cons_succ]
 refine wpTake_nil ?_
 refine wpForce_cons fun K1 hK1 => ?_
 refine step_val (.slice (some ⟨W.heap.size, 0, none⟩) 1 1) (W.drew.alloc (.cells #[.int .i64 nk, .string ⟨nn.toArray⟩, .bool ni, .slice a1 a2 a3, .slice b1 b2 b3, .slice r1 r2 r3, .slice p1 p2 p3, .slice k1 k2 k3] 33)) (by rfl) (by go_simp) ?_
 have hgA := only_alloc (only_drew (only_refl W none)) (.cells #[.int .i64 nk, .string ⟨nn.toArray⟩, .bool ni, .slice a1 a2 a3, .slice b1 b2 b3, .slice r1 r2 r3, .slice p1 p2 p3, .slice k1 k2 k3] 33)
 refine hK1.out _ _ ⟨old_cell hgA lb d1, old_cell hgA lB e0, old_cell hgA lB e1, old_cell hgA lB e2, old_cell hgA lB e3, old_cell hgA lB e4, old_cell hgA lB e5, old_cell hgA lB e6, old_cell hgA lB e7⟩ ?_
 simp only [Act.put, List.setIfInBounds_toArray, List.set_cons_zero, List.set_cons_succ]
 refine wpForce_cons fun K2 hK2 => ?_
 refine step_appAt (by rfl) (.tmp 9) (.tmp 11) 23 23 (by rfl) 33 (.agg #[.int .i64 0, .string ⟨#[]⟩, .bool false, .slice none 0 0, .slice none 0 0, .slice none 0 0, .slice none 0 0, .slice none 0 0]) 8 152 Try.underlying23 infoNode rfl (.slice an NL cv) NL cs 0 _ 1 _ (by rfl) (by rfl) (old_own hgA HOW.out) (by omega) (HSRC.out W.drew _ rfl) (by unfold maxLen; omega) (by omega) ?_
 intro vA wA ho hc hnw _
 obtain ⟨fa, ca, rfl, _, _⟩ := ho.form
 have hblkA := Blk.chg (Blk.grown HHW.out.blk hgA (by simp)) hc (fun e => by
  have := ((old_own hgA HOW.out).hasT e).uniq (Blk.grown HHW.out.blk hgA (by simp)).hasT
  exact absurd this (by decide))
 have hboxA := Blk.chg (Blk.grown HB.out hgA (by simp)) hc (fun e => by have := HCS.out.lt (by rw [HNL.out]; exact e); omega)
 have hfA : Fr base W wA := (Fr.of_grown hgA).trans (Chg.mono hc (fun k hk e => ⟨HH.out.new k (by rw [HNL.out]; exact e), .inr ((old_own hgA HOW.out).hasT e)⟩))
 refine hK2.out _ _ ⟨(Blk.cell hblkA 1).trans (by rw [HNL.out]; rfl), Blk.cell hboxA 0, Blk.cell hboxA 1, Blk.cell hboxA 2, Blk.cell hboxA 3, Blk.cell hboxA 4, Blk.cell hboxA 5, Blk.cell hboxA 6, Blk.cell hboxA 7⟩ ?_
 simp only [Act.put, List.setIfInBounds_toArray, List.set_cons_zero, List.set_cons_succ]
 refine wpForce_cons fun K3 hK3 => ?_
 refine step_val (.pointer (some ⟨rb, 0, none⟩)) wA (by rfl) (by go_simp) ?_
 refine hK3.out _ _ ⟨(Blk.cell hblkA 1).trans (by rw [HNL.out]; rfl), Blk.cell hboxA 0, Blk.cell hboxA 1, Blk.cell hboxA 2, Blk.cell hboxA 3, Blk.cell hboxA 4, Blk.cell hboxA 5, Blk.cell hboxA 6, Blk.cell hboxA 7⟩ ?_
 simp only [Act.put, List.setIfInBounds_toArray, List.set_cons_zero, List.set_cons_succ]
 refine wpForce_cons fun K4 hK4 => ?_
 refine step_val (.pointer (some ⟨rb, 1, none⟩)) wA (by rfl) (by go_simp) ?_
 refine hK4.out _ _ ⟨(Blk.cell hblkA 1).trans (by rw [HNL.out]; rfl), Blk.cell hboxA 0, Blk.cell hboxA 1, Blk.cell hboxA 2, Blk.cell hboxA 3, Blk.cell hboxA 4, Blk.cell hboxA 5, Blk.cell hboxA 6, Blk.cell hboxA 7⟩ ?_
 simp only [Act.put, List.setIfInBounds_toArray, List.set_cons_zero, List.set_cons_succ]
 refine wpForce_one ?_
 have zA := Blk.frozen hblkA 1
 have y0A : wA.cell? ⟨rb, 1, none⟩ = some (.slice an NL cv) := (Blk.cell hblkA 1).trans (by rw [HNL.out]; rfl)
 have lA := Blk.lt hblkA
 have hndA := NdS.add Hl.out HAT.out (by rw [HNL.out]; exact ho) ((Fr.of_grown HGW.out).trans hfA) HN.out
 have hneA : (Value.slice fa (NL + 1) ca).ownBlock ≠ some rb := fun e => by
  have := (ho.hasT e).uniq hblkA.hasT
  exact absurd this (by decide)
 have htokA := (old_own hgA HHW.out.tok).chg hc (fun g hg e => by
  have := ((old_own hgA HHW.out.tok).hasT hg).uniq ((old_own hgA HOW.out).hasT e)
  exact absurd this (by decide))
 have hnew : ∀ b, (Value.slice fa (NL + 1) ca).ownBlock = some b → base b := fun b hb => by
  rcases hnw b hb with e | e
  ·exact HH.out.new b (by rw [HNL.out]; exact e)
  ·have h1 := hgA.size
   have h2 := HGW.out.size
   exact HH.out.lo.up b (by omega)
 have htne : vt.ownBlock ≠ some rb := fun e => by
  have := (htokA.hasT e).uniq hblkA.hasT
  exact absurd this (by decide)
 have hfin : RAt av base (wA.setCell ⟨rb, 1, none⟩ (.slice fa (NL + 1) ca)) rb vt (.slice fa (NL + 1) ca) ts (ns ++ [⟨nk, nn, ni, nsets, nwords, nrds, npats, nkids⟩]) d :=
  ⟨Blk.set_ hblkA 1 _, htokA.far (p := ⟨rb, 1, none⟩) htne _, hndA.far (p := ⟨rb, 1, none⟩) HH.out.lo.at_ hblkA.hasT, hnew, HH.out.lo.size (by have h1 := HGW.out.size; have h2 := hfA.size; rw [World.size_setCell]; omega), HH.out.good, by rw [List.length_append, List.length_singleton]; exact hfew, HH.out.dep, HH.out.txt⟩
 have hfr : Fr base w (wA.setCell ⟨rb, 1, none⟩ (.slice fa (NL + 1) ca)) := ((Fr.of_grown HGW.out).trans hfA).set (p := ⟨rb, 1, none⟩) HH.out.lo.at_ (.inl hblkA.hasT) _
 have HFIN := hide hfin
 have HFR := hide hfr
 clear hfin hfr hnew hneA htokA hndA htne hfA hboxA ho hc hnw hgA hK1 hK2 hK3 hK4 K1 K2 K3 K4
 clear hblkA
 go_wp2
 refine NoPanic.normal ?_
 obtain ⟨_, y1, _⟩ := HFIN.out.cells
 have ly := Blk.lt HFIN.out.blk
 generalize wA.setCell ⟨rb, 1, none⟩ (.slice fa (NL + 1) ca) = W9 at HFIN HFR y1 ly ⊢
 go_wp2_with fail
 go_ret
 exact ⟨.int .i64 (NL : Int), ret_int (by omega), rfl, ⟨_, _, HFIN.out⟩, HFR.out⟩
end Go.Proofs.Ytgpfjcogaheopaa

end
section
/- begins, any. -/
namespace Go.Proofs.Ytgpfjcogaheopaa
open Go.RowKit Lx
set_option maxRecDepth 100000
theorem RIs.few {av : Nat → Prop} {base : Nat → Prop} {rb d : Nat} {w : World} {ts : List Tok} {ns : List Nd} (h : RIs av base w rb ts ns d) : ns.length + 10 * ts.length ≤ 100000 := by
 obtain ⟨vt, vn, h⟩ := h
 exact h.few
theorem box41 {w w' : World} {t : Tok} (hg : (w.alloc (.cells #[.int .i64 t.k, .string ⟨t.t.toArray⟩, .int .i64 t.a] 41)).grownBy w' none) : w'.cell? ⟨w.heap.size, 0, none⟩ = some (.int .i64 t.k) ∧ w'.cell? ⟨w.heap.size, 1, none⟩ = some (.string ⟨t.t.toArray⟩) ∧ w'.cell? ⟨w.heap.size, 2, none⟩ = some (.int .i64 t.a) ∧ w.heap.size < w'.heap.size := by
 have h := Blk.grown (Blk.new w 41 #[.int .i64 t.k, .string ⟨t.t.toArray⟩, .int .i64 t.a]) hg (by simp)
 exact ⟨Blk.cell h 0, Blk.cell h 1, Blk.cell h 2, Blk.lt h⟩
set_option maxHeartbeats 8000000 in
theorem begins_any (av : Nat → Prop) (base : Nat → Prop) (rb d : Nat) (ts : List Tok) (ns : List Nd) (w : World) (h : RIs av base w rb ts ns d) :
  Calls Try.prog 43 #[.pointer (some ⟨rb, 0, none⟩)] w fun e w' => e = .returned (.bool (beginsB ts)) ∧ w.grownBy w' none := by
 obtain ⟨vt, vn, h⟩ := h
 obtain ⟨t, r, g, off, cap, rfl, rfl, hc, hg, c0, c1, c2⟩ := h.head
 obtain ⟨d0, d1, d2⟩ := h.cells
 have lb := Blk.lt h.blk
 have hib : (0 : Int) < (((t :: r).length : Nat) : Int) := by simp only [List.length_cons]; omega
 have HH := hide h
 have HTX := hide (h.txt t (List.mem_cons_self ..))
 obtain ⟨L, hL⟩ : ∃ L, (t :: r).length = L := ⟨_, rfl⟩
 rw [hL] at d0 hib hc
 clear h hL
 have HB := hide (show beginsB (t :: r) = (cmpB t || rdrB t || t.k == 3 || (t.k == 1 && (t.t == wBang || t.t == wIn || !resB t.t))) from rfl)
 have Hc := hide (fun W => compounds_any t W)
 have Hr := hide (fun W => redirects_any t W)
 have Hs := hide (fun W => reserved_any t.t W)
 obtain ⟨B, hB⟩ : ∃ B, beginsB (t :: r) = B := ⟨_, rfl⟩
 rw [hB] at HB ⊢
 obtain ⟨b1, hb1⟩ : ∃ b1, cmpB t = b1 := ⟨_, rfl⟩
 obtain ⟨b2, hb2⟩ : ∃ b2, rdrB t = b2 := ⟨_, rfl⟩
 obtain ⟨b3, hb3⟩ : ∃ b3, resB t.t = b3 := ⟨_, rfl⟩
 rw [hb1] at HB Hc
 rw [hb2] at HB Hr
 rw [hb3] at HB Hs
 clear hB hb1 hb2 hb3 HTX HH
 obtain ⟨tk, tt, ta⟩ := t
 simp only [] at c0 c1 c2 HB Hs
 unfold tokV sv at Hc Hr
 unfold sv at Hs
 simp only [] at Hc Hr
 go_enter Try.func43, Try.ntmps43
 go_wp2_with fail
 refine (Hc.out _).mono ?_
 rintro e w1 ⟨rfl, g1⟩
 have hbx := box41 (t := ⟨tk, tt, ta⟩) g1
 obtain ⟨x0, x1, x2, lx⟩ := hbx
 simp only [] at x0 x1 x2
 have HG1 := hide (none_trans (only_alloc (only_refl w none) _) g1)
 have HX1 := hide g1
 clear g1
 cases b1 with
 | true =>
  go_wp2_with fail
  go_ret
  exact ⟨ret_bool (a := true) (by rw [HB.out]; rfl), HG1.out⟩
 | false =>
  go_wp2_with fail
  refine (Hr.out _).mono ?_
  rintro e w2 ⟨rfl, g2⟩
  have hbx := box41 (t := ⟨tk, tt, ta⟩) (none_trans HX1.out g2)
  clear x0 x1 x2 lx
  obtain ⟨x0, x1, x2, lx⟩ := hbx
  simp only [] at x0 x1 x2
  have HG2 := hide (none_trans HG1.out g2)
  have HX2 := hide (none_trans HX1.out g2)
  clear g2
  cases b2 with
  | true =>
   go_wp2_with fail
   go_ret
   exact ⟨ret_bool (a := true) (by rw [HB.out]; rfl), HG2.out⟩
  | false =>
   by_cases k3 : tk = 3
   ·subst k3
    go_wp2_with fail
    go_ret
    exact ⟨ret_bool (a := true) (by rw [HB.out]; rfl), HG2.out⟩
   ·have q3 : ((tk : Int) == 3) = false := by rw [beq_eq_false_iff_ne]; omega
    have Q3 := hide (show (tk == 3) = false by rw [beq_eq_false_iff_ne]; exact k3)
    by_cases k1 : tk = 1
    ·subst k1
     by_cases e1 : tt = [33]
     ·subst e1
      go_wp2_with fail
      go_ret
      exact ⟨ret_bool (a := true) (by rw [HB.out]; rfl), HG2.out⟩
     ·have q1 : (tt == [33]) = false := beq_eq_false_iff_ne.2 e1
      by_cases e2 : tt = [105, 110]
      ·subst e2
       go_wp2_with fail
       go_ret
       exact ⟨ret_bool (a := true) (by rw [HB.out]; rfl), HG2.out⟩
      ·have q2 : (tt == [105, 110]) = false := beq_eq_false_iff_ne.2 e2
       have HB2 := hide (show B = !b3 by rw [HB.out]; unfold wBang wIn; rw [q1, q2]; simp)
       clear e1 e2
       go_wp2_with fail
       refine (Hs.out _).mono ?_
       rintro e w3 ⟨rfl, g3⟩
       go_wp2_with fail
       go_ret
       exact ⟨ret_bool (a := !b3) (by rw [HB2.out]), none_trans HG2.out g3⟩
    ·have q1 : ((tk : Int) != 1) = true := by rw [bne_iff_ne]; omega
     have q1' : ((tk : Int) == 1) = false := by rw [beq_eq_false_iff_ne]; omega
     have Q1 := hide (show (tk == 1) = false by rw [beq_eq_false_iff_ne]; exact k1)
     go_wp2_with fail
     go_ret
     exact ⟨ret_bool (a := false) (by rw [HB.out, Q3.out, Q1.out]; rfl), HG2.out⟩
theorem run_text (x y z : Value) (w : World) : (Instr.field 41 (.agg #[x, y, z]) 1).run Try.prog w = .ok y w := by kernel_rfl
set_option maxHeartbeats 4000000 in
theorem anyw_any (av : Nat → Prop) (base : Nat → Prop) (rb d : Nat) (vn : Value) (ts : List Tok) (ns : List Nd) (w : World) (h : TIs av base w rb vn ts ns d) :
  Calls Try.prog 96 #[.pointer (some ⟨rb, 0, none⟩)] w (TPost vStr av base w rb vn d (anyR ts ns)) := by
 obtain ⟨vt, h⟩ := h
 obtain ⟨t, r, g, off, cap, rfl, rfl, hc, hg, c0, c1, c2⟩ := h.head
 obtain ⟨d0, d1, d2⟩ := h.cells
 have lb := Blk.lt h.blk
 have hib : (0 : Int) < (((t :: r).length : Nat) : Int) := by simp only [List.length_cons]; omega
 have HH := hide h
 have HTX := hide (h.txt t (List.mem_cons_self ..))
 obtain ⟨L, hL⟩ : ∃ L, (t :: r).length = L := ⟨_, rfl⟩
 rw [hL] at d0 hib hc
 clear h hL
 have Hn := hide (fun W (hW : RAt av base W rb (.slice (some ⟨g, off, none⟩) (t :: r).length cap) vn (t :: r) ns d) (hk : t.k ≠ 4) => next_any av base rb d _ vn t r ns W hW hk)
 have Hw := hide (fun W (hW : RAt av base W rb (.slice (some ⟨g, off, none⟩) (t :: r).length cap) vn (t :: r) ns d) => wrong_any av base rb d _ vn t r ns W hW)
 unfold anyR
 simp only []
 unfold TPost vTok tokV at Hn
 by_cases hk : t.k = 1
 ·rw [if_pos hk]
  unfold TPost vStr
  simp only []
  obtain ⟨tk, tt, ta⟩ := t
  simp only [] at hk c0 c1 c2 Hn ⊢
  subst hk
  unfold sv at Hn ⊢
  have hfd := run_text
  go_enter Try.func96, Try.ntmps96
  go_wp2_with fail
  refine (Hn.out _ HH.out (by simp)).mono ?_
  rintro e w1 ⟨v, rfl, rfl, hr, hf⟩
  have HR := hide hr
  have HF := hide hf
  clear hr hf
  go_wp2_with fail
  go_ret
  exact ⟨_, rfl, rfl, HR.out, HF.out⟩
 ·rw [if_neg hk]
  unfold wrongR TPost
  simp only []
  have q1 : ((t.k : Int) != 1) = true := by rw [bne_iff_ne]; omega
  go_enter Try.func96, Try.ntmps96
  go_wp2_with fail
  refine (Hw.out _ HH.out).mono ?_
  rintro e w1 ⟨rfl, g1⟩
  exact post_panicP rfl ⟨rfl, rb_none g1⟩
end Go.Proofs.Ytgpfjcogaheopaa

end
