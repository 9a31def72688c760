/- The document's begins and inner. -/
import Derived.Test.YtgpfjcogaheopaaXL
set_option linter.all false
namespace Go.Proofs.Ytgpfjcogaheopaa.Lx
open Go.RowKit
set_option maxRecDepth 100000
set_option maxHeartbeats 400000 in
theorem begins_any (l m : List UInt8) (w : World) (hm : m.length ≤ 1000) (_hl : l.length ≤ 9223372036854775807) :
  Calls Try.prog 26 #[sv l, sv m] w fun e w' => e = .returned (.bool (decide (l.take m.length = m))) ∧ w' = w := by
 unfold sv
 have h1 := sz l
 have h2 := sz m
 by_cases hlen : m.length ≤ l.length
 ·have q1 : decide (((ByteArray.mk m.toArray).size : Int) ≤ ((ByteArray.mk l.toArray).size : Int)) = true := by rw [h1, h2]; simp; omega
  have hx := ext_take l m.length
  have hb := sv_beq (l.take m.length) m
  have i1 : (0 : Int) ≤ ((ByteArray.mk m.toArray).size : Int) ∧ ((ByteArray.mk m.toArray).size : Int) ≤ ((ByteArray.mk l.toArray).size : Int) := by rw [h1, h2]; omega
  have hd : decide (l.take m.length = m) = (l.take m.length == m) := by rw [Bool.eq_iff_iff]; simp
  rw [hd]
  go_enter Try.func26, Try.ntmps26
  go_wp2_with fail
  go_ret
  exact ⟨rfl, rfl⟩
 ·have q1 : decide (((ByteArray.mk m.toArray).size : Int) ≤ ((ByteArray.mk l.toArray).size : Int)) = false := by rw [h1, h2]; simp; omega
  have hd : decide (l.take m.length = m) = false := by
   rw [decide_eq_false_iff_not]
   intro e
   have := congrArg List.length e
   rw [List.length_take] at this
   omega
  rw [hd]
  go_enter Try.func26, Try.ntmps26
  go_wp2_with fail
  go_ret
  exact ⟨rfl, rfl⟩
/-- What the document's part answers. -/
def endsL (at_ : Int) : Rs → List Value
 | .ok n => [.int .i64 n, .bool false, .bool false, .int .i64 0]
 | .more => [.int .i64 0, .bool true, .bool false, .int .i64 0]
 | .deep a => [.int .i64 0, .bool false, .bool true, .int .i64 (at_ + a)]
def endsV (at_ : Int) (r : Rs) : Value := .agg (endsL at_ r).toArray
theorem fin4 {w : World} {b : Nat} {x y z u : Value} (h : Blk w b 61 #[x, y, z, u]) (x' y' z' u' : Value) : Blk ((((w.setCell ⟨b, 0, none⟩ x').setCell ⟨b, 1, none⟩ y').setCell ⟨b, 2, none⟩ z').setCell ⟨b, 3, none⟩ u') b 61 #[x', y', z', u'] := (((Blk.set_ h 0 _).set_ 1 _).set_ 2 _).set_ 3 _
theorem gr4 {w0 w : World} {b : Nat} (h : w0.grownBy w none) (hb : w0.heap.size ≤ b) (x' y' z' u' : Value) : w0.grownBy ((((w.setCell ⟨b, 0, none⟩ x').setCell ⟨b, 1, none⟩ y').setCell ⟨b, 2, none⟩ z').setCell ⟨b, 3, none⟩ u') none := none_setCell (none_setCell (none_setCell (none_setCell h (p := ⟨b, 0, none⟩) hb _) (p := ⟨b, 1, none⟩) hb _) (p := ⟨b, 2, none⟩) hb _) (p := ⟨b, 3, none⟩) hb _
def PartD (lv : Nat) : Prop := ∀ (t : List UInt8) (q : Bool) (deep at_ : Nat) (w : World), lv + deep = 25 → t.length ≤ 1000000 → at_ + t.length ≤ 2000000 →
 Calls Try.prog 47 #[sv t, .bool q, .int .i64 deep, .int .i64 at_] w fun e w' => e = .returned (endsV at_ (partR lv q t)) ∧ w.grownBy w' none
def skipB (sg db : Bool) (c : UInt8) : Bool := (c == 39 && !sg) || (c == 34 && !db)
set_option maxHeartbeats 8000000 in
theorem inner_any (lv : Nat) (hp : PartD lv) (s : List UInt8) (fr : Nat) (close op : UInt8) (sg db q : Bool) (plain : List UInt8) (deep at_ : Nat) (w : World) (hd : lv + deep + 1 = 25) (hs : s.length ≤ 1000000) (hat_ : at_ + s.length ≤ 2000000) (hfr : fr ≤ s.length)
  (hskip : ∀ c, c ≠ close → isIn plain c = skipB sg db c) (hop : (close = 41 ∧ op = 40) ∨ (close ≠ 41 ∧ op = 0)) :
  Calls Try.prog 59 #[sv s, .int .i64 fr, .int .u8 close.toNat, .int .u8 op.toNat, .bool sg, .bool db, .bool q, .int .i64 deep, .int .i64 at_] w fun e w' => e = .returned (endsV at_ ((withinR (partR lv q) close plain 0 (s.drop fr)).add fr)) ∧ w.grownBy w' none := by
 have h1 := sz s
 have hext : ∀ n, (ByteArray.mk s.toArray).extract n s.length = ⟨(s.drop n).toArray⟩ := fun n => ext_drop s n _ rfl
 obtain ⟨R, hR⟩ : ∃ R, (withinR (partR lv q) close plain 0 (s.drop fr)).add fr = R := ⟨_, rfl⟩
 rw [hR]
 have HR0 := hide hR
 have Hp := hide (fun k w' (hk : k < s.length) => hp (s.drop k) q (deep + 1) (at_ + k) w' (by omega) (by rw [List.length_drop]; omega) (by rw [List.length_drop]; omega))
 have Hskip := hide hskip
 clear hR hp hskip
 unfold sv at Hp ⊢
 go_enter Try.func59, Try.ntmps59
 go_wp2_with fail
 go_loopw [19, 20] (fun vo vi wr => ∃ k o : Nat, vo = .int .i64 o ∧ vi = .int .i64 k ∧ k ≤ s.length ∧ o ≤ k ∧ Blk wr w.heap.size 61 #[.int .i64 0, .bool false, .bool false, .int .i64 0] ∧ w.grownBy wr none ∧ (withinR (partR lv q) close plain o (s.drop k)).add k = R) (fun _ vi _ => s.length + 1 - (intOf vi).toNat)
 case atStart => exact ⟨fr, 0, rfl, rfl, hfr, Nat.zero_le _, Blk.new w 61 _, only_alloc (only_refl w none) _, HR0.out⟩
 case round =>
  obtain ⟨k, o, rfl, rfl, hk, hok, hB, hG, hres⟩ := hrel
  have HB := hide hB
  have HG := hide hG
  have HR := hide hres
  have d0 := Blk.cell hB 0
  have d1 := Blk.cell hB 1
  have d2 := Blk.cell hB 2
  have d3 := Blk.cell hB 3
  have z0 := Blk.frozen hB 0
  have z1 := Blk.frozen hB 1
  have z2 := Blk.frozen hB 2
  have z3 := Blk.frozen hB 3
  have lb := Blk.lt hB
  clear hB hG hres HR0
  by_cases hlt2 : k < s.length
  ·have q0 : decide ((k : Int) < (s.length : Int)) = true := decide_eq_true (by omega)
   have hat := str_at' s k hlt2
   have hib : (0 : Int) ≤ k ∧ (k : Int) < (s.length : Int) := by omega
   have hib2 : (0 : Int) ≤ k ∧ (k : Int) ≤ (s.length : Int) := by omega
   have hdr := drop_at hlt2
   obtain ⟨c, hc⟩ : ∃ c, s[k] = c := ⟨_, rfl⟩
   rw [hc] at hat hdr
   have hst := within_cons (partR lv q) close plain o c (s.drop (k + 1))
   rw [← hdr] at hst
   by_cases hce : c = close
   ·have qce : ((c.toNat : Int) == (close.toNat : Int)) = true := by rw [hce]; simp
    rw [if_pos hce] at hst
    by_cases ho : o = 0
    ·subst ho
     rw [if_pos rfl] at hst
     have Hst := hide hst
     clear hst hdr hc hce hop
     go_wp2_with fail
     have hf := fin4 HB.out (.int .i64 ((k : Int) + 1)) (.bool false) (.bool false) (.int .i64 0)
     have hg := gr4 HG.out (Nat.le_refl _) (.int .i64 ((k : Int) + 1)) (.bool false) (.bool false) (.int .i64 0)
     generalize (((wr.setCell ⟨w.heap.size, 0, none⟩ (.int .i64 ((k : Int) + 1))).setCell ⟨w.heap.size, 1, none⟩ (.bool false)).setCell ⟨w.heap.size, 2, none⟩ (.bool false)).setCell ⟨w.heap.size, 3, none⟩ (.int .i64 0) = W at hf hg ⊢
     have f0 := Blk.cell hf 0
     have f1 := Blk.cell hf 1
     have f2 := Blk.cell hf 2
     have f3 := Blk.cell hf 3
     exact bodyPost_ret (v := .agg #[.int .i64 ((k : Int) + 1), .bool false, .bool false, .int .i64 0]) (by simp [results, Try.results59, go_sem, f0, f1, f2, f3]) rfl ⟨by unfold endsV; rw [← HR.out, Hst.out]; simp [Rs.add, endsL], hg⟩
    ·obtain ⟨o2, rfl⟩ : ∃ o2, o = o2 + 1 := ⟨o - 1, by omega⟩
     rw [if_neg (by omega)] at hst
     have Hst := hide hst
     have qo : (((o2 : Int) + 1) == 0) = false := by rw [beq_eq_false_iff_ne]; omega
     have qo2 : ((o2 : Int) + 1 = 0) = False := by simp; omega
     clear hst hdr hc hce hop
     go_wp2_with fail
     go_roundw
     case rel => exact ⟨k + 1, o2, by go_num, by go_num, by omega, by omega, HB.out, HG.out, by rw [← HR.out, Hst.out, Rs.add_add]; rfl⟩
     case measure => simp [intOf]; omega
   rw [if_neg hce] at hst
   have qce : ((c.toNat : Int) == (close.toNat : Int)) = false := byte_ne hce
   by_cases h41 : close = 41 ∧ c = 40
   ·rw [if_pos h41] at hst
    have Hst := hide hst
    have hop40 : op = 40 := by rcases hop with h | h; exact h.2; exact absurd h41.1 h.1
    have qo1 : ((op.toNat : Int) == 0) = false := by rw [hop40]; rfl
    have qo2 : ((op.toNat : Int) != 0) = true := by rw [hop40]; rfl
    have qo3 : ((c.toNat : Int) == (op.toNat : Int)) = true := by rw [hop40, h41.2]; rfl
    clear hst hdr hc hce hop hop40 h41
    go_wp2_with fail
    go_roundw
    case rel => exact ⟨k + 1, o + 1, by go_num, by go_num, by omega, by omega, HB.out, HG.out, by rw [← HR.out, Hst.out, Rs.add_add]⟩
    case measure => simp [intOf]; omega
   rw [if_neg h41] at hst
   have hw : (((op.toNat : Int) == 0) = true ∧ ((op.toNat : Int) != 0) = false) ∨ (((op.toNat : Int) == 0) = false ∧ ((op.toNat : Int) != 0) = true ∧ ((c.toNat : Int) == (op.toNat : Int)) = false) := by
    rcases hop with ⟨h, h'⟩ | ⟨h, h'⟩
    ·exact .inr ⟨by rw [h']; rfl, by rw [h']; rfl, by rw [h']; exact byte_ne (d := 40) (fun e => h41 ⟨h, e⟩)⟩
    ·exact .inl ⟨by rw [h']; rfl, by rw [h']; rfl⟩
   rw [Hskip.out c hce] at hst
   have cls : (c = 39 ∧ ((c.toNat : Int) == 39) = true) ∨ (c = 34 ∧ ((c.toNat : Int) == 39) = false ∧ ((c.toNat : Int) == 34) = true) ∨ (¬ c = 39 ∧ ¬ c = 34 ∧ ((c.toNat : Int) == 39) = false ∧ ((c.toNat : Int) == 34) = false) := by
    by_cases a : c = 39
    ·exact .inl ⟨a, by rw [a]; rfl⟩
    ·by_cases b : c = 34
     ·exact .inr (.inl ⟨b, by rw [b]; rfl, by rw [b]; rfl⟩)
     ·exact .inr (.inr ⟨a, b, byte_ne (d := 39) a, byte_ne (d := 34) b⟩)
   have hsk : skipB sg db c = true ↔ (c = 39 ∧ sg = false) ∨ (c = 34 ∧ db = false) := by
    unfold skipB; simp
   by_cases hs1 : skipB sg db c = true
   ·rw [if_pos hs1] at hst
    have Hst := hide hst
    have hs2 := hsk.1 hs1
    clear hst hdr hc hce hop h41 hs1 hsk
    have main : (sg = false ∧ ((c.toNat : Int) == 39) = true) ∨ (db = false ∧ ((c.toNat : Int) == 39) = false ∧ ((c.toNat : Int) == 34) = true) := by
     rcases hs2 with ⟨rfl, h⟩ | ⟨rfl, h⟩
     ·exact .inl ⟨h, rfl⟩
     ·exact .inr ⟨h, rfl, rfl⟩
    clear hs2 cls
    rcases main with ⟨rfl, q9⟩ | ⟨rfl, q9, q8⟩ <;> rcases hw with ⟨e1, e2⟩ | ⟨e1, e2, e3⟩
    all_goals
     go_wp2_with fail
     go_roundw
     case rel => exact ⟨k + 1, o, by go_num, by go_num, by omega, by omega, HB.out, HG.out, by rw [← HR.out, Hst.out, Rs.add_add]⟩
     case measure => simp [intOf]; omega
   ·rw [if_neg hs1] at hst
    have hpt := Hp.out k
    obtain ⟨P, hP⟩ : ∃ P, partR lv q (s.drop k) = P := ⟨_, rfl⟩
    rw [hP] at hst
    have hpt2 : ∀ w', Calls Try.prog 47 #[.string ⟨(s.drop k).toArray⟩, .bool q, .int .i64 ((deep : Int) + 1), .int .i64 ((at_ : Int) + k)] w' fun e w9 => e = .returned (endsV ((at_ : Int) + k) P) ∧ w'.grownBy w9 none := fun w' => by
     have := hpt w' hlt2
     rw [hP] at this
     rwa [show (((deep + 1 : Nat)) : Int) = (deep : Int) + 1 by omega, show (((at_ + k : Nat)) : Int) = (at_ : Int) + k by omega] at this
    have hpl : ∀ n, P = .ok n → k + n ≤ s.length := fun n hn => by
     have := part_le lv q (s.drop k) n (by rw [hP, hn])
     rw [List.length_drop] at this
     omega
    have main : (sg = true ∧ ((c.toNat : Int) == 39) = true ∧ ((c.toNat : Int) == 34) = false) ∨ (db = true ∧ ((c.toNat : Int) == 39) = false ∧ ((c.toNat : Int) == 34) = true) ∨ (((c.toNat : Int) == 39) = false ∧ ((c.toNat : Int) == 34) = false) := by
     rcases cls with ⟨a, b⟩ | ⟨a, b, b'⟩ | ⟨_, _, b, b'⟩
     ·refine .inl ⟨?_, b, by rw [a]; rfl⟩
      cases sg with
      | true => rfl
      | false => exact absurd (hsk.2 (.inl ⟨a, rfl⟩)) hs1
     ·refine .inr (.inl ⟨?_, b, b'⟩)
      cases db with
      | true => rfl
      | false => exact absurd (hsk.2 (.inr ⟨a, rfl⟩)) hs1
     ·exact .inr (.inr ⟨b, b'⟩)
    have Hst := hide hst
    have Hpt := hide hpt2
    clear hst hdr hc hce hop h41 hs1 hsk cls hpt hpt2 hP
    rcases main with ⟨rfl, q9, q8⟩ | ⟨rfl, q9, q8⟩ | ⟨q9, q8⟩ <;> rcases hw with ⟨e1, e2⟩ | ⟨e1, e2, e3⟩
    all_goals
     go_wp2_with fail
     refine (Hpt.out _).mono ?_
     rintro e w3 ⟨rfl, hg3⟩
     have HB3 := hide (Blk.grown HB.out hg3 (by simp))
     have HG3 := hide (none_trans HG.out hg3)
     have d0 := Blk.cell HB3.out 0
     have d1 := Blk.cell HB3.out 1
     have d2 := Blk.cell HB3.out 2
     have d3 := Blk.cell HB3.out 3
     have z0 := Blk.frozen HB3.out 0
     have z1 := Blk.frozen HB3.out 1
     have z2 := Blk.frozen HB3.out 2
     have z3 := Blk.frozen HB3.out 3
     have lb := Blk.lt HB3.out
     clear hg3
     unfold endsV
     cases P with
     | more =>
      unfold endsL
      go_wp2_with fail
      have hf := Blk.alloc (fin4 HB3.out (.int .i64 0) (.bool true) (.bool false) (.int .i64 0)) (.cells #[.int .i64 0, .bool true, .bool false, .int .i64 0] 61)
      have hg := only_alloc (gr4 HG3.out (Nat.le_refl _) (.int .i64 0) (.bool true) (.bool false) (.int .i64 0)) (.cells #[.int .i64 0, .bool true, .bool false, .int .i64 0] 61)
      generalize ((((w3.setCell ⟨w.heap.size, 0, none⟩ (.int .i64 0)).setCell ⟨w.heap.size, 1, none⟩ (.bool true)).setCell ⟨w.heap.size, 2, none⟩ (.bool false)).setCell ⟨w.heap.size, 3, none⟩ (.int .i64 0)).alloc (.cells #[.int .i64 0, .bool true, .bool false, .int .i64 0] 61) = W at hf hg ⊢
      have f0 := Blk.cell hf 0
      have f1 := Blk.cell hf 1
      have f2 := Blk.cell hf 2
      have f3 := Blk.cell hf 3
      exact bodyPost_ret (v := .agg #[.int .i64 0, .bool true, .bool false, .int .i64 0]) (by simp [results, Try.results59, go_sem, f0, f1, f2, f3]) rfl ⟨by unfold endsV; rw [← HR.out, Hst.out]; rfl, hg⟩
     | deep a =>
      unfold endsL
      go_wp2_with fail
      have hf := Blk.alloc (fin4 HB3.out (.int .i64 0) (.bool false) (.bool true) (.int .i64 ((at_ : Int) + k + a))) (.cells #[.int .i64 0, .bool false, .bool true, .int .i64 ((at_ : Int) + k + a)] 61)
      have hg := only_alloc (gr4 HG3.out (Nat.le_refl _) (.int .i64 0) (.bool false) (.bool true) (.int .i64 ((at_ : Int) + k + a))) (.cells #[.int .i64 0, .bool false, .bool true, .int .i64 ((at_ : Int) + k + a)] 61)
      generalize ((((w3.setCell ⟨w.heap.size, 0, none⟩ (.int .i64 0)).setCell ⟨w.heap.size, 1, none⟩ (.bool false)).setCell ⟨w.heap.size, 2, none⟩ (.bool true)).setCell ⟨w.heap.size, 3, none⟩ (.int .i64 ((at_ : Int) + k + a))).alloc (.cells #[.int .i64 0, .bool false, .bool true, .int .i64 ((at_ : Int) + k + a)] 61) = W at hf hg ⊢
      have f0 := Blk.cell hf 0
      have f1 := Blk.cell hf 1
      have f2 := Blk.cell hf 2
      have f3 := Blk.cell hf 3
      exact bodyPost_ret (v := .agg #[.int .i64 0, .bool false, .bool true, .int .i64 ((at_ : Int) + k + a)]) (by simp [results, Try.results59, go_sem, f0, f1, f2, f3]) rfl ⟨by unfold endsV; rw [← HR.out, Hst.out]; simp [Rs.add, endsL]; omega, hg⟩
     | ok n =>
      unfold endsL
      have hn := hpl n rfl
      have hdd : (s.drop (k + 1)).drop (n - 1) = s.drop (k + max n 1) := by rw [List.drop_drop]; congr 1; omega
      have hst2 := Hst.out
      simp only [hdd] at hst2
      obtain ⟨m, hm⟩ : ∃ m, max n 1 = m := ⟨_, rfl⟩
      rw [hm] at hst2
      have Hst2 := hide hst2
      clear hst2 hdd hpl
      have nz : (n = 0 ∧ m = 1) ∨ (((n : Int) == 0) = false ∧ ¬ n = 0 ∧ m = n) := by
       by_cases e : n = 0
       ·exact .inl ⟨e, by omega⟩
       ·exact .inr ⟨by rw [beq_eq_false_iff_ne]; omega, e, by omega⟩
      clear hm
      rcases nz with ⟨rfl, rfl⟩ | ⟨nz, nz', rfl⟩
      ·go_wp2_with fail
       go_roundw
       case rel => exact ⟨k + 1, o, by go_num, by go_num, by omega, by omega, Blk.alloc HB3.out _, only_alloc HG3.out _, by rw [← HR.out, Hst2.out, Rs.add_add]⟩
       case measure => simp [intOf]; omega
      ·go_wp2_with fail
       go_roundw
       case rel => exact ⟨k + m, o, by go_num, by go_num, by omega, by omega, Blk.alloc HB3.out _, only_alloc HG3.out _, by rw [← HR.out, Hst2.out, Rs.add_add]⟩
       case measure => simp [intOf]; omega
  ·have q0 : decide ((k : Int) < (s.length : Int)) = false := decide_eq_false (by omega)
   have hR : R = .more := by
    have := HR.out
    rw [List.drop_eq_nil_of_le (by omega), within_nil] at this
    exact this.symm
   subst hR
   go_wp2_with fail
   have hf := fin4 HB.out (.int .i64 0) (.bool true) (.bool false) (.int .i64 0)
   have hg := gr4 HG.out (Nat.le_refl _) (.int .i64 0) (.bool true) (.bool false) (.int .i64 0)
   generalize (((wr.setCell ⟨w.heap.size, 0, none⟩ (.int .i64 0)).setCell ⟨w.heap.size, 1, none⟩ (.bool true)).setCell ⟨w.heap.size, 2, none⟩ (.bool false)).setCell ⟨w.heap.size, 3, none⟩ (.int .i64 0) = W at hf hg ⊢
   have f0 := Blk.cell hf 0
   have f1 := Blk.cell hf 1
   have f2 := Blk.cell hf 2
   have f3 := Blk.cell hf 3
   exact bodyPost_ret (v := .agg #[.int .i64 0, .bool true, .bool false, .int .i64 0]) (by simp [results, Try.results59, go_sem, f0, f1, f2, f3]) rfl ⟨by unfold endsV; rfl, hg⟩
end Go.Proofs.Ytgpfjcogaheopaa.Lx
