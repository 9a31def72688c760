/- Several texts in one. -/
import Derived.Test.YtgpfjcogaheopaaMA
set_option linter.all false
section
/- The reader: sign, word. -/
namespace Go.Proofs.Ytgpfjcogaheopaa.Lx
open Go.RowKit
set_option maxRecDepth 100000
/-- The signs, the longer ones first. -/
def sgs : List (List UInt8) := [[38, 38], [124, 124], [59, 59], [62, 62], [60, 38], [62, 38], [60, 62], [62, 124], [10], [124], [59], [38], [40], [41], [60], [62]]
def hasSign (t s : List UInt8) : Bool := decide (t.take s.length = s)
def signF (t : List UInt8) : List UInt8 := (sgs.find? (hasSign t)).getD []
theorem sgs_len : ∀ s ∈ sgs, 1 ≤ s.length ∧ s.length ≤ 2 := by decide
theorem sign_found {t : List UInt8} {j : Nat} (hj : j < sgs.length) (hno : ∀ m (h : m < sgs.length), m < j → hasSign t sgs[m] = false) (hyes : hasSign t sgs[j] = true) : signF t = sgs[j] := by
 unfold signF
 have h : sgs.find? (hasSign t) = some sgs[j] := by
  rw [List.find?_eq_some_iff_getElem]
  exact ⟨hyes, j, hj, rfl, fun m hm => by rw [hno m (by omega) hm]; rfl⟩
 rw [h]; rfl
theorem sign_none {t : List UInt8} (hno : ∀ m (h : m < sgs.length), hasSign t sgs[m] = false) : signF t = [] := by
 unfold signF
 have h : sgs.find? (hasSign t) = none := by
  rw [List.find?_eq_none]
  intro s hs
  obtain ⟨m, hm, rfl⟩ := List.getElem_of_mem hs
  rw [hno m hm]; decide
 rw [h]; rfl
theorem signF_mem (t : List UInt8) : signF t = [] ∨ (signF t ∈ sgs ∧ t.take (signF t).length = signF t) := by
 unfold signF
 cases h : sgs.find? (hasSign t) with
 | none => exact .inl rfl
 | some s =>
  have h1 := List.mem_of_find?_eq_some h
  have h2 := List.find?_some h
  exact .inr ⟨h1, of_decide_eq_true h2⟩
set_option maxHeartbeats 2000000 in
theorem sign_any (rb d i : Nat) (l : List UInt8) (w : World) (h : RAt w rb l d) (hi : i ≤ l.length) (hl : l.length ≤ 1000000) :
  Calls Try.prog 52 #[.pointer (some ⟨rb, 0, none⟩), .int .i64 i] w fun e w' => e = .returned (sv (signF (l.drop i))) ∧ w.grownBy w' none := by
 have H := hide h
 have Hsl := hide sgs_len
 have h16 : sgs.length = 16 := rfl
 have hrb := Blk.lt h
 have hC : Blk (w.alloc (.cells (sgs.map sv).toArray 9)) w.heap.size 9 (sgs.map sv).toArray := Blk.new w 9 _
 have HC := hide hC
 have HR := hide (show RAt (w.alloc (.cells (sgs.map sv).toArray 9)) rb l d from Blk.alloc h _)
 have HG := hide (only_alloc (only_refl w none) (.cells (sgs.map sv).toArray 9))
 obtain ⟨W, hW⟩ : ∃ W, w.alloc (.cells (sgs.map sv).toArray 9) = W := ⟨_, rfl⟩
 have HW := hide hW
 rw [hW] at HC HR HG
 clear h hC
 unfold sv
 go_enter Try.func52, Try.ntmps52
 go_wp2_with (first | (refine wpList_val (o := ⟨some 7, _, _, _, _, _⟩) (.slice (some ⟨w.heap.size, 0, none⟩) 16 16) W rfl (by rw [← HW.out]; kernel_rfl) ?_))
 go_loopw [9] (fun v wr => ∃ j : Nat, v = .int .i64 j ∧ j ≤ 16 ∧ (∀ m (h : m < sgs.length), m < j → hasSign (l.drop i) sgs[m] = false) ∧ wr = W) (fun v _ => 16 - (intOf v).toNat)
 case atStart => exact ⟨0, rfl, by omega, fun m _ h => by omega, rfl⟩
 case round =>
  obtain ⟨j, rfl, hj, hno, rfl⟩ := hrel
  have Hno := hide hno
  clear hno
  by_cases hlt : j < 16
  ·have q0 : decide ((j : Int) < 16) = true := decide_eq_true (by omega)
   have hjb : (0 : Int) ≤ j ∧ (j : Int) < 16 := by omega
   have hj2 : j < sgs.length := by omega
   obtain ⟨s, hs⟩ : ∃ s, sgs[j] = s := ⟨_, rfl⟩
   have c0 : wr.cell? ⟨w.heap.size, j, none⟩ = some (.string ⟨s.toArray⟩) := by
    rw [Blk.cell HC.out j, List.getElem?_toArray, List.getElem?_map, List.getElem?_eq_getElem hj2, hs]
    rfl
   have hsl : s.length ≤ 1000 := by have := (Hsl.out s (by rw [← hs]; exact List.getElem_mem hj2)).2; omega
   have hat := at_any rb d i l s wr HR.out hi hl hsl
   have hd : decide ((l.drop i).take s.length = s) = hasSign (l.drop i) s := rfl
   rw [hd] at hat
   obtain ⟨b, hb⟩ : ∃ b, hasSign (l.drop i) s = b := ⟨_, rfl⟩
   rw [hb] at hat
   unfold sv at hat
   have Hat := hide hat
   have Hb := hide hb
   have Hs := hide hs
   clear hat hd hb hs
   cases b with
   | true =>
    go_wp2_with fail
    refine Hat.out.mono ?_
    rintro e w1 ⟨rfl, rfl⟩
    go_wp2_with fail
    go_ret
    have := sign_found hj2 Hno.out (by rw [Hs.out]; exact Hb.out)
    exact ⟨by rw [this, Hs.out]; rfl, HG.out⟩
   | false =>
    go_wp2_with fail
    refine Hat.out.mono ?_
    rintro e w1 ⟨rfl, rfl⟩
    go_wp2_with fail
    go_roundw
    case rel =>
     refine ⟨j + 1, by go_num, by omega, fun m hm hmj => ?_, trivial⟩
     by_cases e : m = j
     ·subst e; rw [Hs.out]; exact Hb.out
     ·exact Hno.out m hm (by omega)
    case measure => simp [intOf]; omega
  ·have q0 : decide ((j : Int) < 16) = false := decide_eq_false (by omega)
   have hn := sign_none (t := l.drop i) (fun m hm => Hno.out m hm (by omega))
   have Hn := hide hn
   clear hn
   go_wp2_with fail
   go_ret
   exact ⟨by rw [Hn.out]; rfl, HG.out⟩
/-- Bytes at which a word ends. -/
def stopB : List UInt8 := [32, 9, 10, 124, 38, 59, 60, 62, 40, 41]
def wordR (t : List UInt8) : Rs :=
 match t with
 | [] => .ok 0
 | c :: r =>
  if isIn stopB c = true then .ok 0
  else match partR 25 false (c :: r) with
   | .more => .more
   | .deep a => .deep a
   | .ok n => (wordR (r.drop (n - 1))).add (max n 1)
termination_by t.length
decreasing_by
 all_goals simp
 all_goals omega
theorem word_nil : wordR [] = .ok 0 := by rw [wordR]
theorem word_cons (c : UInt8) (r : List UInt8) : wordR (c :: r) = if isIn stopB c = true then .ok 0
  else match partR 25 false (c :: r) with
   | .more => .more
   | .deep a => .deep a
   | .ok n => (wordR (r.drop (n - 1))).add (max n 1) := by rw [wordR]
theorem word_le : ∀ (L : Nat) (t : List UInt8) (n : Nat), t.length = L → wordR t = .ok n → n ≤ t.length := by
 intro L
 induction L using Nat.strongRecOn with
 | ind L ih =>
  intro t n hL h
  match t, hL, h with
  | [], _, h => rw [word_nil] at h; injection h with h; omega
  | c :: r, hL, h =>
   rw [List.length_cons] at hL ⊢
   rw [word_cons] at h
   split at h
   ·injection h with h; omega
   ·cases hp : partR 25 false (c :: r) with
    | more => rw [hp] at h; cases h
    | deep a => rw [hp] at h; cases h
    | ok q =>
     rw [hp] at h
     have h1 := part_le _ _ _ _ hp
     rw [List.length_cons] at h1
     obtain ⟨m, hm, rfl⟩ := Rs.add_ok h
     have := ih _ (by rw [List.length_drop]; omega) (r.drop (q - 1)) _ rfl hm
     rw [List.length_drop] at this
     omega
set_option maxHeartbeats 2000000 in
theorem word_any (rb i : Nat) (l : List UInt8) (w : World) (h : RAt w rb l 0) (hi : i ≤ l.length) (hl : l.length ≤ 1000000) :
  Calls Try.prog 53 #[.pointer (some ⟨rb, 0, none⟩), .int .i64 i] w fun e w' => e = (wordR (l.drop i)).out i l.length ∧ w.grownBy w' (some rb) ∧ ∀ n, wordR (l.drop i) = .ok n → RAt w' rb l 0 := by
 have h1 := sz l
 obtain ⟨R, hR⟩ : ∃ R, (wordR (l.drop i)).add i = R := ⟨_, rfl⟩
 have hout : (wordR (l.drop i)).out i l.length = R.out 0 l.length := by
  rw [← hR]; cases wordR (l.drop i) <;> simp [Rs.add, Rs.out]
 suffices H : Calls Try.prog 53 #[.pointer (some ⟨rb, 0, none⟩), .int .i64 i] w fun en w' => en = R.out 0 l.length ∧ w.grownBy w' (some rb) ∧ ((∃ n, R = .ok n) → RAt w' rb l 0) by
  refine H.mono ?_
  rintro en w' ⟨rfl, hg, hw⟩
  exact ⟨hout.symm, hg, fun n hn => hw ⟨i + n, by rw [← hR, hn]; rfl⟩⟩
 have HR0 := hide hR
 have H0 := hide h
 have Hidx := hide (fun (c : UInt8) w' => idx26 ⟨#[32, 9, 10, 124, 38, 59, 60, 62, 40, 41]⟩ c.toNat w')
 clear hR hout h
 go_enter Try.func53, Try.ntmps53
 go_wp2_with fail
 go_loopw [1] (fun v wr => ∃ k : Nat, v = .int .i64 k ∧ k ≤ l.length ∧ RAt wr rb l 0 ∧ w.grownBy wr (some rb) ∧ (wordR (l.drop k)).add k = R) (fun v _ => l.length + 1 - (intOf v).toNat)
 case atStart => exact ⟨i, rfl, hi, H0.out, only_refl _ _, HR0.out⟩
 case round =>
  obtain ⟨k, rfl, hk, hA, hG, hres⟩ := hrel
  have HA := hide hA
  have HG := hide hG
  have HR := hide hres
  have c0 := hA.c0
  have hlt := Blk.lt hA
  clear hA hG hres
  by_cases hlt2 : k < l.length
  ·have q0 : decide ((k : Int) < (l.length : Int)) = true := decide_eq_true (by omega)
   have hat := str_at' l k hlt2
   have hib : (0 : Int) ≤ k ∧ (k : Int) < (l.length : Int) := by omega
   have hdr := drop_at hlt2
   obtain ⟨c, hc⟩ : ∃ c, l[k] = c := ⟨_, rfl⟩
   rw [hc] at hat hdr
   have hst := word_cons c (l.drop (k + 1))
   rw [← hdr] at hst
   have hx := fun w' => Hidx.out c w'
   have e1 : ((c.toNat : Int).toNat.toUInt8) = c := by simp
   rw [e1] at hx
   obtain ⟨x, hx0⟩ : ∃ x, Lib.indexByte (ByteArray.mk #[32, 9, 10, 124, 38, 59, 60, 62, 40, 41]).data.toList c = x := ⟨_, rfl⟩
   rw [hx0] at hx
   have hsp : isIn stopB c = decide (0 ≤ x) := by rw [← hx0]; rfl
   rw [hsp] at hst
   have Hx := hide hx
   by_cases h0 : 0 ≤ x
   ·have qx : decide (0 ≤ x) = true := decide_eq_true h0
    have qy : decide (x < 0) = false := decide_eq_false (by omega)
    rw [if_pos qx] at hst
    have Hst := hide hst
    clear hst hdr hc hx hx0 hsp e1
    go_wp2_with fail
    refine (Hx.out _).mono ?_
    rintro en w2 ⟨rfl, rfl⟩
    go_wp2_with fail
    refine bodyPost_ret (results_tmp (t := 4) rfl _ _ _) rfl ⟨?_, HG.out, fun _ => HA.out⟩
    rw [← HR.out, Hst.out]
    simp [Rs.add, Rs.out]
   ·have qx : decide (0 ≤ x) = false := decide_eq_false h0
    have qy : decide (x < 0) = true := decide_eq_true (by omega)
    rw [if_neg (by rw [qx]; decide)] at hst
    have hpt := part_ok 25 rb 0 k false l wr HA.out rfl hlt2 hl
    obtain ⟨P, hP⟩ : ∃ P, partR 25 false (l.drop k) = P := ⟨_, rfl⟩
    rw [hP] at hst hpt
    have hpl : ∀ n, P = .ok n → k + n ≤ l.length := fun n hn => by
     have := part_le 25 false (l.drop k) n (by rw [hP, hn])
     rw [List.length_drop] at this
     omega
    have Hst := hide hst
    have Hpt := hide hpt
    clear hst hdr hc hx hx0 hsp e1 hpt hP
    cases P with
    | more =>
     unfold Rs.out at Hpt
     go_wp2_with fail
     refine (Hx.out _).mono ?_
     rintro en w2 ⟨rfl, rfl⟩
     go_wp2_with fail
     refine Hpt.out.mono ?_
     rintro en w3 ⟨rfl, hg3, _⟩
     refine And.intro rfl (And.intro ?_ (And.intro (only_trans HG.out hg3) ?_))
     ·rw [← HR.out, Hst.out]; rfl
     ·rintro ⟨n, hn⟩; rw [← HR.out, Hst.out] at hn; cases hn
    | deep a =>
     unfold Rs.out at Hpt
     go_wp2_with fail
     refine (Hx.out _).mono ?_
     rintro en w2 ⟨rfl, rfl⟩
     go_wp2_with fail
     refine Hpt.out.mono ?_
     rintro en w3 ⟨rfl, hg3, _⟩
     refine And.intro rfl (And.intro ?_ (And.intro (only_trans HG.out hg3) ?_))
     ·rw [← HR.out, Hst.out]; simp [Rs.add, Rs.out]
     ·rintro ⟨n, hn⟩; rw [← HR.out, Hst.out] at hn; cases hn
    | ok n =>
     have hn := hpl n rfl
     have hdd : (l.drop (k + 1)).drop (n - 1) = l.drop (k + max n 1) := by rw [List.drop_drop]; congr 1; omega
     have hst2 := Hst.out
     simp only [hdd] at hst2
     have Hst2 := hide hst2
     clear hst2 hdd hpl
     unfold Rs.out at Hpt
     go_wp2_with fail
     refine (Hx.out _).mono ?_
     rintro en w2 ⟨rfl, rfl⟩
     go_wp2_with fail
     refine Hpt.out.mono ?_
     rintro en w3 ⟨rfl, hg3, hok3⟩
     have HA3 := hide (hok3 n rfl)
     have HG3 := hide (only_trans HG.out hg3)
     clear hg3 hok3
     go_wp2_with (first | (refine wpList_max ((k + max n 1 : Nat) : Int) ((k : Int) + n) ((k : Int) + 1) rfl rfl (by omega) ?_))
     go_roundw
     case rel => exact ⟨k + max n 1, by go_num, by omega, HA3.out, HG3.out, by rw [← HR.out, Hst2.out, Rs.add_add]⟩
     case measure => simp [intOf]; omega
  ·have q0 : decide ((k : Int) < (l.length : Int)) = false := decide_eq_false (by omega)
   have hR : R = .ok k := by
    have := HR.out
    rw [List.drop_eq_nil_of_le (by omega), word_nil] at this
    exact this.symm
   subst hR
   go_wp2_with fail
   refine bodyPost_ret (results_tmp (t := 4) rfl _ _ _) rfl ⟨by simp [Rs.out], HG.out, fun _ => HA.out⟩
end Go.Proofs.Ytgpfjcogaheopaa.Lx

end
section
/- The reader: blank. -/
namespace Go.Proofs.Ytgpfjcogaheopaa.Lx
open Go.RowKit
set_option maxRecDepth 100000
/-- How many bytes are let by. -/
def blankF (t : List UInt8) : Nat :=
 match t with
 | [] => 0
 | c :: r =>
  if c = 32 ∨ c = 9 then 1 + blankF r
  else if (c :: r).take 2 = [92, 10] then 2 + blankF (r.drop 1)
  else if c = 35 then ((c :: r).takeWhile (· != 10)).length
  else 0
termination_by t.length
decreasing_by
 all_goals simp
 all_goals omega
theorem blank_nil : blankF [] = 0 := by rw [blankF]
theorem blank_cons (c : UInt8) (r : List UInt8) : blankF (c :: r) = if c = 32 ∨ c = 9 then 1 + blankF r
  else if (c :: r).take 2 = [92, 10] then 2 + blankF (r.drop 1)
  else if c = 35 then ((c :: r).takeWhile (· != 10)).length
  else 0 := by rw [blankF]
theorem idx_while (t : List UInt8) : (Lib.indexByte t 10 < 0 → (t.takeWhile (· != 10)).length = t.length) ∧ (0 ≤ Lib.indexByte t 10 → ((t.takeWhile (· != 10)).length : Int) = Lib.indexByte t 10 ∧ (t.drop (t.takeWhile (· != 10)).length).head? = some 10) := by
 induction t with
 | nil => exact ⟨fun _ => rfl, fun h => absurd h (by decide)⟩
 | cons b l ih =>
  have hu : Lib.indexByte (b :: l) 10 = if b == 10 then 0 else if Lib.indexByte l 10 == -1 then -1 else Lib.indexByte l 10 + 1 := rfl
  have hge := Lib.indexByte_ge l 10
  rw [hu]
  by_cases hb : b = 10
  ·subst hb
   exact ⟨fun h => absurd h (by simp), fun _ => ⟨rfl, rfl⟩⟩
  ·have e1 : (b == 10) = false := by rw [beq_eq_false_iff_ne]; exact hb
   have e2 : (b != 10) = true := by simp only [bne, e1]; rfl
   rw [show List.takeWhile (fun x : UInt8 => x != 10) (b :: l) = b :: l.takeWhile (fun x => x != 10) from by simp [e2], e1, List.length_cons, List.length_cons]
   by_cases h1 : Lib.indexByte l 10 = -1
   ·have e3 : (Lib.indexByte l 10 == -1) = true := by rw [beq_iff_eq]; exact h1
    rw [e3]
    exact ⟨fun _ => by rw [ih.1 (by omega)], fun h => absurd h (by simp)⟩
   ·have e3 : (Lib.indexByte l 10 == -1) = false := by rw [beq_eq_false_iff_ne]; exact h1
    rw [e3]
    obtain ⟨i1, i2⟩ := ih.2 (by omega)
    refine ⟨fun h => ?_, fun _ => ⟨?_, ?_⟩⟩
    ·exfalso
     have : Lib.indexByte l 10 + 1 < 0 := h
     omega
    ·show (((l.takeWhile (· != 10)).length + 1 : Nat) : Int) = Lib.indexByte l 10 + 1
     omega
    ·rw [List.drop_succ_cons]; exact i2
theorem blank_lf {t : List UInt8} (h : t.head? = some 10) : blankF t = 0 := by
 cases t with
 | nil => rw [blank_nil]
 | cons c r =>
  injection h with h
  subst h
  rw [blank_cons, if_neg (by decide), if_neg, if_neg (by decide)]
  intro e
  cases r with
  | nil => cases e
  | cons d r => injection e with e _; exact absurd e (by decide)
theorem blank_le : ∀ (L : Nat) (t : List UInt8), t.length = L → blankF t ≤ t.length := by
 intro L
 induction L using Nat.strongRecOn with
 | ind L ih =>
  intro t hL
  match t, hL with
  | [], _ => rw [blank_nil]; exact Nat.zero_le _
  | c :: r, hL =>
   rw [List.length_cons] at hL
   rw [blank_cons, List.length_cons]
   split
   ·have := ih _ (by omega) r rfl; omega
   ·split
    ·rename_i h2
     have h3 := take_len h2
     have := ih _ (by rw [List.length_drop]; omega) (r.drop 1) rfl
     rw [List.length_drop] at this
     simp at h3
     omega
    ·split
     ·have := (List.takeWhile_prefix (fun x : UInt8 => x != 10) (l := c :: r)).length_le
      rw [List.length_cons] at this
      exact this
     ·exact Nat.zero_le _
set_option maxHeartbeats 2000000 in
theorem blank_any (rb d i : Nat) (l : List UInt8) (w : World) (h : RAt w rb l d) (hi : i ≤ l.length) (hl : l.length ≤ 1000000) :
  Calls Try.prog 36 #[.pointer (some ⟨rb, 0, none⟩), .int .i64 i] w fun e w' => e = .returned (.int .i64 ((i : Int) + blankF (l.drop i))) ∧ w' = w := by
 have Hat := hide (fun k hk => at_any rb d k l [92, 10] w h hk hl (by decide))
 unfold sv at Hat
 have Hidx := hide (fun (t : List UInt8) w' => idx26 ⟨t.toArray⟩ 10 w')
 have c0 := h.c0
 have hlt := Blk.lt h
 have h1 := sz l
 have hext : ∀ n, (ByteArray.mk l.toArray).extract n l.length = ⟨(l.drop n).toArray⟩ := fun n => ext_drop l n _ rfl
 obtain ⟨R, hR⟩ : ∃ R, i + blankF (l.drop i) = R := ⟨_, rfl⟩
 have hout : (i : Int) + blankF (l.drop i) = R := by omega
 rw [hout]
 have HR0 := hide hR
 clear hR hout h
 go_enter Try.func36, Try.ntmps36
 go_wp2_with fail
 go_loopw [1] (fun v wr => ∃ k : Nat, v = .int .i64 k ∧ k ≤ l.length ∧ k + blankF (l.drop k) = R ∧ wr = w) (fun v _ => l.length + 1 - (intOf v).toNat)
 case atStart => exact ⟨i, rfl, hi, HR0.out, rfl⟩
 case round =>
  obtain ⟨k, rfl, hk, hres, rfl⟩ := hrel
  have HR := hide hres
  clear hres
  by_cases hlt2 : k < l.length
  ·have q0 : decide ((k : Int) < (l.length : Int)) = true := decide_eq_true (by omega)
   have hat := str_at' l k hlt2
   have hib : (0 : Int) ≤ k ∧ (k : Int) < (l.length : Int) := by omega
   have hib2 : (0 : Int) ≤ k ∧ (k : Int) ≤ (l.length : Int) := by omega
   have hdr := drop_at hlt2
   obtain ⟨c, hc⟩ : ∃ c, l[k] = c := ⟨_, rfl⟩
   rw [hc] at hat hdr
   have hst := blank_cons c (l.drop (k + 1))
   rw [← hdr] at hst
   have hHat := Hat.out k (by omega)
   have hdd : (l.drop (k + 1)).drop 1 = l.drop (k + 2) := by rw [List.drop_drop]
   by_cases hb : c = 32 ∨ c = 9
   ·rw [if_pos hb] at hst
    have Hst := hide hst
    clear hst hdr hc hHat
    rcases hb with rfl | rfl
    all_goals
     go_wp2_with fail
     go_roundw
     case rel => exact ⟨k + 1, by go_num, by omega, by rw [← HR.out, Hst.out]; omega, trivial⟩
     case measure => simp [intOf]; omega
   rw [if_neg hb] at hst
   have n1 : ((c.toNat : Int) == 32) = false := byte_ne (d := 32) (fun e => hb (.inl e))
   have n2 : ((c.toNat : Int) == 9) = false := byte_ne (d := 9) (fun e => hb (.inr e))
   by_cases h2 : (l.drop k).take 2 = [92, 10]
   ·rw [if_pos h2, hdd] at hst
    have h3 := take_len h2
    rw [List.length_drop] at h3
    simp at h3
    have hd2 : decide ((l.drop k).take [(92 : UInt8), 10].length = [92, 10]) = true := decide_eq_true h2
    rw [hd2] at hHat
    have HHat := hide hHat
    have Hst := hide hst
    clear hst hdr hc hHat hb h2 hd2
    go_wp2_with fail
    refine HHat.out.mono ?_
    rintro e w2 ⟨rfl, rfl⟩
    go_wp2_with fail
    go_roundw
    case rel => exact ⟨k + 2, by go_num, by omega, by rw [← HR.out, Hst.out]; omega, trivial⟩
    case measure => simp [intOf]; omega
   rw [if_neg h2] at hst
   have hd2 : decide ((l.drop k).take [(92 : UInt8), 10].length = [92, 10]) = false := decide_eq_false h2
   rw [hd2] at hHat
   have HHat := hide hHat
   by_cases h35 : c = 35
   ·rw [if_pos h35] at hst
    subst h35
    have hw := idx_while (l.drop k)
    have hwl := (List.takeWhile_prefix (fun x : UInt8 => x != 10) (l := l.drop k)).length_le
    rw [List.length_drop] at hwl
    have hx := fun w' => Hidx.out (l.drop k) w'
    have e1 : ((10 : Int).toNat.toUInt8) = 10 := rfl
    rw [e1] at hx
    obtain ⟨x, hx0⟩ : ∃ x, Lib.indexByte (ByteArray.mk (l.drop k).toArray).data.toList 10 = x := ⟨_, rfl⟩
    rw [hx0] at hx
    have hx1 : Lib.indexByte (l.drop k) 10 = x := by rw [← hx0]
    rw [hx1] at hw
    obtain ⟨n, hn⟩ : ∃ n, ((l.drop k).takeWhile (· != 10)).length = n := ⟨_, rfl⟩
    rw [hn] at hw hst hwl
    have Hx := hide hx
    by_cases h0 : x < 0
    ·have q3 : decide (x < 0) = true := decide_eq_true h0
     have hn2 := hw.1 h0
     rw [List.length_drop] at hn2
     have Hfin := hide (show R = l.length by rw [← HR.out, hst]; omega)
     clear hst hdr hc hHat hb h2 hd2 hw hx hx0 hx1 hn
     go_wp2_with fail
     refine HHat.out.mono ?_
     rintro e w2 ⟨rfl, rfl⟩
     go_wp2_with fail
     refine (Hx.out _).mono ?_
     rintro e w2 ⟨rfl, rfl⟩
     go_wp2_with fail
     go_ret
     exact ⟨by rw [Hfin.out]; rfl, rfl⟩
    ·have q3 : decide (x < 0) = false := decide_eq_false h0
     obtain ⟨hn2, hhd⟩ := hw.2 (by omega)
     have hbl := blank_lf hhd
     rw [List.drop_drop] at hbl
     obtain rfl : x = n := hn2.symm
     have Hfin := hide (show k + n + blankF (l.drop (k + n)) = R by rw [hbl, ← HR.out, hst]; rfl)
     have hn1 : 1 ≤ n := by
      rw [← hn, hdr, show List.takeWhile (fun x : UInt8 => x != 10) (35 :: l.drop (k + 1)) = 35 :: (l.drop (k + 1)).takeWhile (fun x => x != 10) from by simp [], List.length_cons]
      omega
     clear hst hdr hc hHat hb h2 hd2 hw hx hx0 hx1 hn hhd hbl
     go_wp2_with fail
     refine HHat.out.mono ?_
     rintro e w2 ⟨rfl, rfl⟩
     go_wp2_with fail
     refine (Hx.out _).mono ?_
     rintro e w2 ⟨rfl, rfl⟩
     go_wp2_with fail
     go_roundw
     case rel => exact ⟨k + n, by go_num, by omega, Hfin.out, trivial⟩
     case measure => simp [intOf]; omega
   ·rw [if_neg h35] at hst
    have n3 : ((c.toNat : Int) == 35) = false := byte_ne (d := 35) h35
    have Hfin := hide (show R = k by rw [← HR.out, hst]; omega)
    clear hst hdr hc hHat hb h2 hd2 h35
    go_wp2_with fail
    refine HHat.out.mono ?_
    rintro e w2 ⟨rfl, rfl⟩
    go_wp2_with fail
    go_ret
    exact ⟨by rw [Hfin.out]; rfl, rfl⟩
  ·have q0 : decide ((k : Int) < (l.length : Int)) = false := decide_eq_false (by omega)
   have Hfin := hide (show R = k by rw [← HR.out, List.drop_eq_nil_of_le (by omega), blank_nil]; omega)
   go_wp2_with fail
   go_ret
   exact ⟨by rw [Hfin.out]; rfl, rfl⟩
end Go.Proofs.Ytgpfjcogaheopaa.Lx

end
section
/- The reader: next. -/
namespace Go.Proofs.Ytgpfjcogaheopaa.Lx
open Go.RowKit
set_option maxRecDepth 100000
/-- What stands next. -/
inductive Nx
 | tok (k : Nat) (s : List UInt8)
 | more
 | deep (a : Nat)
def ioB (t : List UInt8) (n : Nat) : Bool := decide (n = 1 ∧ 48 ≤ (t.getD 0 0).toNat ∧ (t.getD 0 0).toNat ≤ 57 ∧ 1 < t.length ∧ (t.getD 1 0 = 60 ∨ t.getD 1 0 = 62))
def nextF (t : List UInt8) : Nx := if signF t ≠ [] then .tok 2 (signF t) else match wordR t with
 | .ok n => .tok (if ioB t n = true then 3 else 1) (t.take n)
 | .more => .more
 | .deep a => .deep a
def NxPost (rb i : Nat) (l : List UInt8) (w : World) : Nx → Ending → World → Prop
 | .tok k s, e, w' => e = .returned (.agg #[.int .i64 k, sv s, .int .i64 i]) ∧ w.grownBy w' (some rb) ∧ RAt w' rb l 0
 | .more, e, w' => e = .panicked [faultV l.length 23] ∧ w.grownBy w' (some rb)
 | .deep a, e, w' => e = .panicked [faultV ((i : Int) + a) 17] ∧ w.grownBy w' (some rb)
theorem fin3 {w : World} {b : Nat} {x y z : Value} (h : Blk w b 41 #[x, y, z]) (x' y' z' : Value) : Blk (((w.setCell ⟨b, 0, none⟩ x').setCell ⟨b, 1, none⟩ y').setCell ⟨b, 2, none⟩ z') b 41 #[x', y', z'] := ((Blk.set_ h 0 _).set_ 1 _).set_ 2 _
theorem far3 {w : World} {b g : Nat} {T : TypeId} {cs : Array Value} (h : Blk w g T cs) (hne : g ≠ b) (x' y' z' : Value) : Blk (((w.setCell ⟨b, 0, none⟩ x').setCell ⟨b, 1, none⟩ y').setCell ⟨b, 2, none⟩ z') g T cs := ((Blk.far h hne _).far hne _).far hne _
theorem gr3 {w0 w : World} {b rb : Nat} (h : w0.grownBy w (some rb)) (hb : w0.heap.size ≤ b) (x' y' z' : Value) : w0.grownBy (((w.setCell ⟨b, 0, none⟩ x').setCell ⟨b, 1, none⟩ y').setCell ⟨b, 2, none⟩ z') (some rb) := only_setCell (only_setCell (only_setCell h (p := ⟨b, 0, none⟩) (.inr hb) _) (p := ⟨b, 1, none⟩) (.inr hb) _) (p := ⟨b, 2, none⟩) (.inr hb) _
theorem ext_mid (l : List UInt8) (i n : Nat) (_h : i + n ≤ l.length) : (ByteArray.mk l.toArray).extract i (i + n) = ⟨((l.drop i).take n).toArray⟩ := by
 apply ByteArray.ext
 rw [ByteArray.data_extract]
 apply Array.ext'
 rw [Array.toList_extract, List.extract_eq_take_drop]
 simp
set_option maxHeartbeats 4000000 in
theorem next_any (rb i : Nat) (l : List UInt8) (w : World) (h : RAt w rb l 0) (hi : i < l.length) (hl : l.length ≤ 1000000) :
  Calls Try.prog 37 #[.pointer (some ⟨rb, 0, none⟩), .int .i64 i] w fun e w' => NxPost rb i l w (nextF (l.drop i)) e w' := by
 have h1 := sz l
 have hrb := Blk.lt h
 have hV := Blk.new w 41 #[.int .i64 0, .string ⟨#[]⟩, .int .i64 0]
 have hR0 : RAt (w.alloc (.cells #[.int .i64 0, .string ⟨#[]⟩, .int .i64 0] 41)) rb l 0 := Blk.alloc h _
 have hG0 : w.grownBy (w.alloc (.cells #[.int .i64 0, .string ⟨#[]⟩, .int .i64 0] 41)) (some rb) := only_alloc (only_refl w _) _
 have hs := sign_any rb 0 i l _ hR0 (by omega) hl
 obtain ⟨t, ht⟩ : ∃ t, l.drop i = t := ⟨_, rfl⟩
 rw [ht] at hs ⊢
 have HV := hide hV
 have HR0 := hide hR0
 have HG0 := hide hG0
 have Ht := hide ht
 have hsw : w.heap.size < (w.alloc (.cells #[.int .i64 0, .string ⟨#[]⟩, .int .i64 0] 41)).heap.size := by rw [World.size_alloc]; omega
 by_cases hsg : signF t = []
 ·have hnx : nextF t = match wordR t with
    | .ok n => .tok (if ioB t n = true then 3 else 1) (t.take n)
    | .more => .more
    | .deep a => .deep a := by unfold nextF; rw [if_neg (fun h => h hsg)]
  rw [hsg] at hs
  unfold sv at hs
  have Hs := hide hs
  have Hw := hide (fun w' hw' => word_any rb i l w' hw' (by omega) hl)
  clear hs hV hR0 hG0 h hsw hsg
  have hwl := fun n => word_le _ t n rfl
  have htl : t.length = l.length - i := by rw [← ht, List.length_drop]
  obtain ⟨R, hR⟩ : ∃ R, wordR t = R := ⟨_, rfl⟩
  have hw2 := fun w' hw' => Hw.out w' hw'
  rw [ht, hR] at hw2
  rw [hR] at hnx hwl
  have Hw2 := hide hw2
  clear hw2 Hw hR
  rw [hnx]
  cases R with
  | more =>
   unfold NxPost
   unfold Rs.out at Hw2
   clear hnx
   go_enter Try.func37, Try.ntmps37
   go_wp2_with fail
   refine Hs.out.mono ?_
   rintro e w1 ⟨rfl, hg1⟩
   have HR1 := hide (show RAt w1 rb l 0 from Blk.grown HR0.out hg1 (by simp))
   have HG1 := hide (only_trans HG0.out (only_of_none hg1 _))
   go_wp2_with fail
   refine (Hw2.out _ HR1.out).mono ?_
   rintro e w2 ⟨rfl, hg2, _⟩
   exact And.intro rfl (And.intro rfl (only_trans HG1.out hg2))
  | deep a =>
   unfold NxPost
   unfold Rs.out at Hw2
   clear hnx
   go_enter Try.func37, Try.ntmps37
   go_wp2_with fail
   refine Hs.out.mono ?_
   rintro e w1 ⟨rfl, hg1⟩
   have HR1 := hide (show RAt w1 rb l 0 from Blk.grown HR0.out hg1 (by simp))
   have HG1 := hide (only_trans HG0.out (only_of_none hg1 _))
   go_wp2_with fail
   refine (Hw2.out _ HR1.out).mono ?_
   rintro e w2 ⟨rfl, hg2, _⟩
   exact And.intro rfl (And.intro rfl (only_trans HG1.out hg2))
  | ok n =>
   have hn := hwl n rfl
   have hx := ext_mid l i n (by omega)
   rw [ht] at hx
   unfold Rs.out at Hw2
   have hib : (0 : Int) ≤ i ∧ (i : Int) < (l.length : Int) := by omega
   have hnb : (i : Int) ≤ (i : Int) + n ∧ (i : Int) + n ≤ (l.length : Int) := by omega
   have hat := str_at' l i hi
   obtain ⟨c, hc⟩ : ∃ c, l[i] = c := ⟨_, rfl⟩
   rw [hc] at hat
   have hg0 : t.getD 0 0 = c := by rw [← ht, List.getD_eq_getElem?_getD, List.getElem?_drop, Nat.add_zero, List.getElem?_eq_getElem hi, hc]; rfl
   have hg1' : ∀ h : i + 1 < l.length, t.getD 1 0 = l[i + 1] := fun h => by rw [← ht, List.getD_eq_getElem?_getD, List.getElem?_drop, List.getElem?_eq_getElem h]; rfl
   have ways : (ioB t n = false ∧ (¬ n = 1 ∨ (n = 1 ∧ decide ((48 : Int) ≤ (c.toNat : Int)) = false ∧ decide (48 ≤ c.toNat) = false) ∨ (n = 1 ∧ decide ((48 : Int) ≤ (c.toNat : Int)) = true ∧ decide (48 ≤ c.toNat) = true ∧ decide ((c.toNat : Int) ≤ 57) = false ∧ decide (c.toNat ≤ 57) = false) ∨
     (n = 1 ∧ decide ((48 : Int) ≤ (c.toNat : Int)) = true ∧ decide (48 ≤ c.toNat) = true ∧ decide ((c.toNat : Int) ≤ 57) = true ∧ decide (c.toNat ≤ 57) = true ∧ decide ((i : Int) + 1 < (l.length : Int)) = false) ∨
     (∃ h : i + 1 < l.length, n = 1 ∧ decide ((48 : Int) ≤ (c.toNat : Int)) = true ∧ decide (48 ≤ c.toNat) = true ∧ decide ((c.toNat : Int) ≤ 57) = true ∧ decide (c.toNat ≤ 57) = true ∧ decide ((i : Int) + 1 < (l.length : Int)) = true ∧ ((l[i + 1].toNat : Int) == 60) = false ∧ ((l[i + 1].toNat : Int) == 62) = false))) ∨
     (ioB t n = true ∧ ∃ h : i + 1 < l.length, n = 1 ∧ decide ((48 : Int) ≤ (c.toNat : Int)) = true ∧ decide (48 ≤ c.toNat) = true ∧ decide ((c.toNat : Int) ≤ 57) = true ∧ decide (c.toNat ≤ 57) = true ∧ decide ((i : Int) + 1 < (l.length : Int)) = true ∧ (((l[i + 1].toNat : Int) == 60) = true ∨ ((l[i + 1].toNat : Int) == 60) = false ∧ ((l[i + 1].toNat : Int) == 62) = true)) := by
    unfold ioB
    rw [hg0]
    by_cases a1 : n = 1
    ·by_cases a2 : 48 ≤ c.toNat
     ·by_cases a3 : c.toNat ≤ 57
      ·by_cases a4 : i + 1 < l.length
       ·rw [hg1' a4]
        by_cases a5 : l[i + 1] = 60
        ·refine .inr ⟨decide_eq_true ⟨a1, a2, a3, by omega, .inl a5⟩, a4, a1, decide_eq_true (by omega), decide_eq_true a2, decide_eq_true (by omega), decide_eq_true a3, decide_eq_true (by omega), .inl (by rw [a5]; rfl)⟩
        ·by_cases a6 : l[i + 1] = 62
         ·refine .inr ⟨decide_eq_true ⟨a1, a2, a3, by omega, .inr a6⟩, a4, a1, decide_eq_true (by omega), decide_eq_true a2, decide_eq_true (by omega), decide_eq_true a3, decide_eq_true (by omega), .inr ⟨byte_ne (d := 60) a5, by rw [a6]; rfl⟩⟩
         ·refine .inl ⟨decide_eq_false (fun h => h.2.2.2.2.elim a5 a6), .inr (.inr (.inr (.inr ⟨a4, a1, decide_eq_true (by omega), decide_eq_true a2, decide_eq_true (by omega), decide_eq_true a3, decide_eq_true (by omega), byte_ne (d := 60) a5, byte_ne (d := 62) a6⟩)))⟩
       ·refine .inl ⟨decide_eq_false (fun h => by have := h.2.2.2.1; omega), .inr (.inr (.inr (.inl ⟨a1, decide_eq_true (by omega), decide_eq_true a2, decide_eq_true (by omega), decide_eq_true a3, decide_eq_false (by omega)⟩)))⟩
      ·refine .inl ⟨decide_eq_false (fun h => a3 h.2.2.1), .inr (.inr (.inl ⟨a1, decide_eq_true (by omega), decide_eq_true a2, decide_eq_false (by omega), decide_eq_false a3⟩))⟩
     ·refine .inl ⟨decide_eq_false (fun h => a2 h.2.1), .inr (.inl ⟨a1, decide_eq_false (by omega), decide_eq_false a2⟩)⟩
    ·exact .inl ⟨decide_eq_false (fun h => a1 h.1), .inl a1⟩
   have hnx2 : nextF t = .tok (if ioB t n = true then 3 else 1) (t.take n) := hnx
   obtain ⟨s, hss⟩ : ∃ s, t.take n = s := ⟨_, rfl⟩
   rw [hss] at hx hnx2
   rw [← hnx, hnx2]
   clear hnx hnx2 hss hc hg0 hwl
   rcases ways with ⟨hio, ways⟩ | ⟨hio, hp1, rfl, b1, b1', b2, b2', b3, b4⟩
   ·rw [hio, if_neg Bool.false_ne_true]
    unfold NxPost
    have main : (((n : Int) == 1) = false ∧ ¬ n = 1) ∨ n = 1 := by
     by_cases e : n = 1
     ·exact .inr e
     ·exact .inl ⟨by rw [beq_eq_false_iff_ne]; omega, e⟩
    rcases ways with hn1 | ⟨rfl, b1, b1'⟩ | ⟨rfl, b1, b1', b2, b2'⟩ | ⟨rfl, b1, b1', b2, b2', b3⟩ | ⟨hp1, rfl, b1, b1', b2, b2', b3, b4, b5⟩
    all_goals
     try have qn : ((n : Int) == 1) = false := by rw [beq_eq_false_iff_ne]; omega
     try have hat1 := str_at' l (i + 1) hp1
     try have hpi : (i : Int) + 1 < (l.length : Int) := by omega
     unfold sv
     go_enter Try.func37, Try.ntmps37
     go_wp2_with fail
     refine Hs.out.mono ?_
     rintro e w1 ⟨rfl, hg1⟩
     have HV1 := hide (Blk.grown HV.out hg1 (by simp))
     have HR1 := hide (show RAt w1 rb l 0 from Blk.grown HR0.out hg1 (by simp))
     have HG1 := hide (only_trans HG0.out (only_of_none hg1 _))
     go_wp2_with fail
     refine (Hw2.out _ HR1.out).mono ?_
     rintro e w2 ⟨rfl, hg2, hok2⟩
     have HR2 := hide (hok2 _ rfl)
     have HV2 := hide (Blk.grown HV1.out hg2 (by intro e; injection e with e; omega))
     have HG2 := hide (only_trans HG1.out hg2)
     have v0 := Blk.cell HV2.out 0
     have v1 := Blk.cell HV2.out 1
     have v2 := Blk.cell HV2.out 2
     have z0 := Blk.frozen HV2.out 0
     have z1 := Blk.frozen HV2.out 1
     have z2 := Blk.frozen HV2.out 2
     have lv := Blk.lt HV2.out
     have r0 := HR2.out.c0
     have lr := Blk.lt HR2.out
     clear hok2 hg2 hg1
     go_wp2_with fail
     have hf := Blk.alloc (fin3 HV2.out (.int .i64 1) (.string ⟨s.toArray⟩) (.int .i64 i)) (.cells #[.int .i64 1, .string ⟨s.toArray⟩, .int .i64 i] 41)
     have hr : RAt _ rb l 0 := Blk.alloc (far3 HR2.out (b := w.heap.size) (by omega) (.int .i64 1) (.string ⟨s.toArray⟩) (.int .i64 i)) (.cells #[.int .i64 1, .string ⟨s.toArray⟩, .int .i64 i] 41)
     have hg := only_alloc (gr3 HG2.out (Nat.le_refl _) (.int .i64 1) (.string ⟨s.toArray⟩) (.int .i64 i)) (.cells #[.int .i64 1, .string ⟨s.toArray⟩, .int .i64 i] 41)
     generalize ((((w2.setCell ⟨w.heap.size, 0, none⟩ (.int .i64 1)).setCell ⟨w.heap.size, 1, none⟩ (.string ⟨s.toArray⟩)).setCell ⟨w.heap.size, 2, none⟩ (.int .i64 i)).alloc (.cells #[.int .i64 1, .string ⟨s.toArray⟩, .int .i64 i] 41)) = W at hf hr hg ⊢
     have f0 := Blk.cell hf 0
     have f1 := Blk.cell hf 1
     have f2 := Blk.cell hf 2
     exact bodyPost_ret (v := .agg #[.int .i64 1, .string ⟨s.toArray⟩, .int .i64 i]) (by simp [results, Try.results37, go_sem, f0, f1, f2]) rfl ⟨rfl, hg, hr⟩
   ·rw [hio, if_pos rfl]
    unfold NxPost
    have hat1 := str_at' l (i + 1) hp1
    have hpi : (i : Int) + 1 < (l.length : Int) := by omega
    rcases b4 with b4 | ⟨b4, b5⟩
    all_goals
     unfold sv
     go_enter Try.func37, Try.ntmps37
     go_wp2_with fail
     refine Hs.out.mono ?_
     rintro e w1 ⟨rfl, hg1⟩
     have HV1 := hide (Blk.grown HV.out hg1 (by simp))
     have HR1 := hide (show RAt w1 rb l 0 from Blk.grown HR0.out hg1 (by simp))
     have HG1 := hide (only_trans HG0.out (only_of_none hg1 _))
     go_wp2_with fail
     refine (Hw2.out _ HR1.out).mono ?_
     rintro e w2 ⟨rfl, hg2, hok2⟩
     have HR2 := hide (hok2 _ rfl)
     have HV2 := hide (Blk.grown HV1.out hg2 (by intro e; injection e with e; omega))
     have HG2 := hide (only_trans HG1.out hg2)
     have v0 := Blk.cell HV2.out 0
     have v1 := Blk.cell HV2.out 1
     have v2 := Blk.cell HV2.out 2
     have z0 := Blk.frozen HV2.out 0
     have z1 := Blk.frozen HV2.out 1
     have z2 := Blk.frozen HV2.out 2
     have lv := Blk.lt HV2.out
     have r0 := HR2.out.c0
     have lr := Blk.lt HR2.out
     clear hok2 hg2 hg1
     go_wp2_with fail
     have hf := Blk.alloc (fin3 HV2.out (.int .i64 3) (.string ⟨s.toArray⟩) (.int .i64 i)) (.cells #[.int .i64 3, .string ⟨s.toArray⟩, .int .i64 i] 41)
     have hr : RAt _ rb l 0 := Blk.alloc (far3 HR2.out (b := w.heap.size) (by omega) (.int .i64 3) (.string ⟨s.toArray⟩) (.int .i64 i)) (.cells #[.int .i64 3, .string ⟨s.toArray⟩, .int .i64 i] 41)
     have hg := only_alloc (gr3 HG2.out (Nat.le_refl _) (.int .i64 3) (.string ⟨s.toArray⟩) (.int .i64 i)) (.cells #[.int .i64 3, .string ⟨s.toArray⟩, .int .i64 i] 41)
     generalize ((((w2.setCell ⟨w.heap.size, 0, none⟩ (.int .i64 3)).setCell ⟨w.heap.size, 1, none⟩ (.string ⟨s.toArray⟩)).setCell ⟨w.heap.size, 2, none⟩ (.int .i64 i)).alloc (.cells #[.int .i64 3, .string ⟨s.toArray⟩, .int .i64 i] 41)) = W at hf hr hg ⊢
     have f0 := Blk.cell hf 0
     have f1 := Blk.cell hf 1
     have f2 := Blk.cell hf 2
     exact bodyPost_ret (v := .agg #[.int .i64 3, .string ⟨s.toArray⟩, .int .i64 i]) (by simp [results, Try.results37, go_sem, f0, f1, f2]) rfl ⟨rfl, hg, hr⟩
 ·have hnx : nextF t = .tok 2 (signF t) := by unfold nextF; rw [if_pos hsg]
  rw [hnx]
  obtain ⟨s, hss⟩ : ∃ s, signF t = s := ⟨_, rfl⟩
  rw [hss] at hs hsg ⊢
  have he : s.isEmpty = false := by simpa using hsg
  unfold NxPost
  unfold sv at hs ⊢
  have Hs := hide hs
  clear hs hV hR0 hG0 h hnx hss hsg
  go_enter Try.func37, Try.ntmps37
  go_wp2_with fail
  refine Hs.out.mono ?_
  rintro e w1 ⟨rfl, hg1⟩
  have HV1 := hide (Blk.grown HV.out hg1 (by simp))
  have HR1 := hide (show RAt w1 rb l 0 from Blk.grown HR0.out hg1 (by simp))
  have HG1 := hide (only_trans HG0.out (only_of_none hg1 _))
  have v0 := Blk.cell HV1.out 0
  have v1 := Blk.cell HV1.out 1
  have v2 := Blk.cell HV1.out 2
  have z0 := Blk.frozen HV1.out 0
  have z1 := Blk.frozen HV1.out 1
  have z2 := Blk.frozen HV1.out 2
  have lv := Blk.lt HV1.out
  go_wp2_with fail
  have hf := fin3 HV1.out (.int .i64 2) (.string ⟨s.toArray⟩) (.int .i64 i)
  have hr : RAt _ rb l 0 := far3 HR1.out (b := w.heap.size) (by omega) (.int .i64 2) (.string ⟨s.toArray⟩) (.int .i64 i)
  have hg := gr3 HG1.out (Nat.le_refl _) (.int .i64 2) (.string ⟨s.toArray⟩) (.int .i64 i)
  generalize ((w1.setCell ⟨w.heap.size, 0, none⟩ (.int .i64 2)).setCell ⟨w.heap.size, 1, none⟩ (.string ⟨s.toArray⟩)).setCell ⟨w.heap.size, 2, none⟩ (.int .i64 i) = W at hf hr hg ⊢
  have f0 := Blk.cell hf 0
  have f1 := Blk.cell hf 1
  have f2 := Blk.cell hf 2
  exact bodyPost_ret (v := .agg #[.int .i64 2, .string ⟨s.toArray⟩, .int .i64 i]) (by simp [results, Try.results37, go_sem, f0, f1, f2]) rfl ⟨rfl, hg, hr⟩
end Go.Proofs.Ytgpfjcogaheopaa.Lx

end
section
/- All, as a plain function; its closure; what a token is. -/
namespace Go.Proofs.Ytgpfjcogaheopaa.Lx
open Go.RowKit
set_option maxRecDepth 100000
structure Tok where
 k : Nat
 t : List UInt8
 a : Nat
def Tok.cells (x : Tok) : List Value := [.int .i64 x.k, sv x.t, .int .i64 x.a]
def tcs (l : List Tok) : List Value := l.flatMap Tok.cells
theorem tcs_snoc (l : List Tok) (x : Tok) : tcs (l ++ [x]) = tcs l ++ x.cells := by simp [tcs]
theorem tcs_get (l : List Tok) : ∀ (n j : Nat) (hn : n < l.length) (_ : j < 3), (tcs l)[n * 3 + j]? = (l[n]).cells[j]? := by
 induction l with
 | nil => intro n j hn; simp at hn
 | cons x r ih =>
  intro n j hn hj
  have h : tcs (x :: r) = x.cells ++ tcs r := by simp [tcs]
  have hl : x.cells.length = 3 := rfl
  cases n with
  | zero => rw [h, Nat.zero_mul, Nat.zero_add, List.getElem?_append_left (by omega)]; rfl
  | succ n =>
   rw [h, List.getElem?_append_right (by omega), hl, show (n + 1) * 3 + j - 3 = n * 3 + j by omega]
   exact ih n j (by simpa using hn) hj
inductive Ar
 | ok (l : List Tok)
 | err (a : Int) (e : Int)
def allGo (l : List UInt8) : Nat → Nat → List Tok → Ar
 | 0, _, acc => .ok acc
 | f + 1, i, acc => if i < l.length then (if acc.length = 400 then .err i 12 else match nextF (l.drop i) with
   | .tok k s => allGo l f (i + s.length + blankF (l.drop (i + s.length))) (acc ++ [⟨k, s, i⟩])
   | .more => .err l.length 23
   | .deep a => .err ((i : Int) + a) 17) else .ok acc
def allF (l : List UInt8) : Ar := if 4096 < l.length then .err 0 10 else match allGo l (l.length + 1) (blankF l) [] with
 | .ok acc => .ok (acc ++ [⟨4, [], l.length⟩])
 | .err a e => .err a e
/-! ### each token is something -/
theorem blank_idem : ∀ (L : Nat) (t : List UInt8), t.length = L → blankF (t.drop (blankF t)) = 0 := by
 intro L
 induction L using Nat.strongRecOn with
 | ind L ih =>
  intro t hL
  match t, hL with
  | [], _ => rw [blank_nil]; exact blank_nil
  | c :: r, hL =>
   rw [List.length_cons] at hL
   rw [blank_cons]
   by_cases h1 : c = 32 ∨ c = 9
   ·rw [if_pos h1, Nat.add_comm, List.drop_succ_cons]
    exact ih _ (by omega) r rfl
   ·rw [if_neg h1]
    by_cases h2 : (c :: r).take 2 = [92, 10]
    ·rw [if_pos h2]
     have h3 := take_len h2
     simp at h3
     have := ih _ (by rw [List.length_drop]; omega) (r.drop 1) rfl
     rw [List.drop_drop] at this
     rw [show 2 + blankF (r.drop 1) = (1 + blankF (r.drop 1)) + 1 by omega, List.drop_succ_cons]
     exact this
    ·rw [if_neg h2]
     by_cases h3 : c = 35
     ·rw [if_pos h3]
      obtain ⟨n, hn⟩ : ∃ n, ((c :: r).takeWhile (· != 10)).length = n := ⟨_, rfl⟩
      rw [hn]
      have hw := idx_while (c :: r)
      rw [hn] at hw
      by_cases h0 : Lib.indexByte (c :: r) 10 < 0
      ·rw [hw.1 h0, List.drop_eq_nil_of_le (Nat.le_refl _)]
       exact blank_nil
      ·exact blank_lf (hw.2 (by omega)).2
     ·rw [if_neg h3, List.drop_zero, blank_cons, if_neg h1, if_neg h2, if_neg h3]
theorem stop_of {c : UInt8} (h : isIn stopB c = true) : c = 32 ∨ c = 9 ∨ c = 10 ∨ c = 124 ∨ c = 38 ∨ c = 59 ∨ c = 60 ∨ c = 62 ∨ c = 40 ∨ c = 41 := by
 apply Classical.byContradiction
 intro hn
 simp only [not_or] at hn
 obtain ⟨h1, h2, h3, h4, h5, h6, h7, h8, h9, h10⟩ := hn
 have e : ∀ a : UInt8, ¬ c = a → (a == c) = false := fun a h => by rw [beq_eq_false_iff_ne]; exact fun e => h e.symm
 revert h
 unfold isIn stopB
 simp only [Lib.indexByte, e _ h1, e _ h2, e _ h3, e _ h4, e _ h5, e _ h6, e _ h7, e _ h8, e _ h9, e _ h10, Bool.false_eq_true, if_false, beq_self_eq_true, if_true]
 decide
theorem sign_one {c : UInt8} {r : List UInt8} (h : [c] ∈ sgs) : signF (c :: r) ≠ [] := by
 obtain ⟨m, hm, he⟩ := List.getElem_of_mem h
 unfold signF
 cases hf : sgs.find? (hasSign (c :: r)) with
 | none =>
  rw [List.find?_eq_none] at hf
  have := hf [c] h
  unfold hasSign at this
  simp at this
 | some s =>
  have h1 := List.mem_of_find?_eq_some hf
  have := (sgs_len s h1).1
  show s ≠ []
  intro e
  rw [e] at this
  exact absurd this (by decide)
theorem next_pos {t : List UInt8} (h0 : t ≠ []) (hb : blankF t = 0) {k : Nat} {s : List UInt8} (h : nextF t = .tok k s) : 1 ≤ s.length ∧ s.length ≤ t.length := by
 unfold nextF at h
 rcases signF_mem t with hs | ⟨hs, ht⟩
 ·rw [if_neg (fun e => e hs)] at h
  cases hw : wordR t with
  | more => rw [hw] at h; cases h
  | deep a => rw [hw] at h; cases h
  | ok n =>
   rw [hw] at h
   injection h with _ h
   have hn := word_le _ t n rfl hw
   subst h
   rw [List.length_take, Nat.min_eq_left hn]
   refine ⟨?_, hn⟩
   match t, h0 with
   | c :: r, _ =>
    rw [word_cons] at hw
    by_cases hst : isIn stopB c = true
    ·exfalso
     have no : ∀ d : UInt8, [d] ∈ sgs → c ≠ d := fun d hd e => sign_one (r := r) hd (by rw [← e]; exact hs)
     rw [blank_cons] at hb
     rcases stop_of hst with e | e | e | e | e | e | e | e | e | e
     ·rw [if_pos (.inl e)] at hb; omega
     ·rw [if_pos (.inr e)] at hb; omega
     ·exact no _ (by decide) e
     ·exact no _ (by decide) e
     ·exact no _ (by decide) e
     ·exact no _ (by decide) e
     ·exact no _ (by decide) e
     ·exact no _ (by decide) e
     ·exact no _ (by decide) e
     ·exact no _ (by decide) e
    ·rw [if_neg hst] at hw
     cases hp : partR 25 false (c :: r) with
     | more => rw [hp] at hw; cases hw
     | deep a => rw [hp] at hw; cases hw
     | ok q =>
      rw [hp] at hw
      obtain ⟨m, _, rfl⟩ := Rs.add_ok hw
      omega
 ·have h1 := (sgs_len _ hs).1
  have hne : signF t ≠ [] := by intro e; rw [e] at h1; exact absurd h1 (by decide)
  rw [if_pos hne] at h
  injection h with _ h
  subst h
  refine ⟨h1, ?_⟩
  have := congrArg List.length ht
  rw [List.length_take] at this
  omega
/-! ### the closure -/
theorem fin17_ok (fb b2 b3 b4 : Nat) (a : Int) (u : FrameMode) (w : World) (h : Blk w fb 67 #[.int .i64 a, .int .i64 0]) :
  CallsD Try.prog 34 #[.pointer (some ⟨fb, 0, none⟩), .pointer (some ⟨b2, 0, none⟩), .pointer (some ⟨b3, 0, none⟩), .pointer (some ⟨b4, 0, none⟩)] u w fun en u' w' => u' = u ∧ (en = .returned (.tuple #[]) ∧ w' = w) := by
 have c1 := Blk.cell h 1
 go_enter_d Try.func34, Try.ntmps34
 go_wp2
 refine bodyPost_end (results_none rfl _ _ _) rfl ⟨rfl, rfl⟩
theorem fin17_bad (fb b2 b3 b4 : Nat) (a e : Int) (v : Value) (x y : Int) (he : e ≠ 0) (u : FrameMode) (w : World) (h : Blk w fb 67 #[.int .i64 a, .int .i64 e]) (h2 : Blk w b2 37 #[v]) (h3 : Blk w b3 3 #[.int .i64 x]) (h4 : Blk w b4 24 #[.int .i64 y]) (n1 : b3 ≠ b2) (n2 : b4 ≠ b2) (n3 : b4 ≠ b3) (n4 : fb ≠ b2) (n5 : fb ≠ b3) :
  CallsD Try.prog 34 #[.pointer (some ⟨fb, 0, none⟩), .pointer (some ⟨b2, 0, none⟩), .pointer (some ⟨b3, 0, none⟩), .pointer (some ⟨b4, 0, none⟩)] u w fun en u' w' => u' = u ∧ (en = .returned (.tuple #[]) ∧ w' = ((w.setCell ⟨b2, 0, none⟩ (.slice none 0 0)).setCell ⟨b3, 0, none⟩ (.int .i64 a)).setCell ⟨b4, 0, none⟩ (.int .i64 e)) := by
 have c0 := Blk.cell h 0
 have c1 := Blk.cell h 1
 have d2 := Blk.cell h2 0
 have z2 := Blk.frozen h2 0
 have d3 := Blk.cell h3 0
 have z3 := Blk.frozen h3 0
 have d4 := Blk.cell h4 0
 have z4 := Blk.frozen h4 0
 have q : (e == 0) = false := by rw [beq_eq_false_iff_ne]; exact he
 have q2 : (e != 0) = true := by simp [he]
 clear h h2 h3 h4
 go_enter_d Try.func34, Try.ntmps34
 go_wp2
 refine bodyPost_end (results_none rfl _ _ _) rfl ⟨rfl, rfl⟩
end Go.Proofs.Ytgpfjcogaheopaa.Lx

end
section
/- The walk of All. -/
namespace Go.Proofs.Ytgpfjcogaheopaa.Lx
open Go.RowKit
set_option maxRecDepth 100000
/-- The tokens so far, in a slice of the call's own. -/
structure TokAt (w w' : World) (v : Value) (l : List Tok) : Prop where
 own : Own w' 41 3 v l.length (tcs l) 0
 new : ∀ b, v.ownBlock = some b → w.heap.size + 6 ≤ b
/-- What lies while All reads on. -/
structure AllIs (w w' : World) (l : List UInt8) (v : Value) (acc : List Tok) : Prop where
 b2 : Blk w' w.heap.size 37 #[v]
 b3 : Blk w' (w.heap.size + 1) 3 #[.int .i64 0]
 b4 : Blk w' (w.heap.size + 1 + 1) 24 #[.int .i64 0]
 b5 : Blk w' (w.heap.size + 1 + 1 + 1) 67 #[.int .i64 0, .int .i64 0]
 b6 : RAt w' (w.heap.size + 1 + 1 + 1 + 1) l 0
 tk : Own w' 41 3 v acc.length (tcs acc) 0
 new : ∀ b, v.ownBlock = some b → w.heap.size + 1 + 1 + 1 + 1 + 1 ≤ b
 gr : w.grownBy w' none
theorem allGo_step (l : List UInt8) (f i : Nat) (acc : List Tok) : allGo l (f + 1) i acc = if i < l.length then (if acc.length = 400 then .err i 12 else match nextF (l.drop i) with
   | .tok k s => allGo l f (i + s.length + blankF (l.drop (i + s.length))) (acc ++ [⟨k, s, i⟩])
   | .more => .err l.length 23
   | .deep a => .err ((i : Int) + a) 17) else .ok acc := rfl
/-- What lies where the reader has given up. -/
structure AllIs0 (w w' : World) (v : Value) : Prop where
 b2 : Blk w' w.heap.size 37 #[v]
 b3 : Blk w' (w.heap.size + 1) 3 #[.int .i64 0]
 b4 : Blk w' (w.heap.size + 1 + 1) 24 #[.int .i64 0]
 b5 : Blk w' (w.heap.size + 1 + 1 + 1) 67 #[.int .i64 0, .int .i64 0]
 gr : w.grownBy w' none
theorem AllIs0.grown {w w1 w2 : World} {l : List UInt8} {v : Value} {acc : List Tok} (h : AllIs w w1 l v acc) (hg : w1.grownBy w2 (some (w.heap.size + 1 + 1 + 1 + 1))) : AllIs0 w w2 v := by
 have hne : ∀ k, k ≠ w.heap.size + 1 + 1 + 1 + 1 → some k ≠ some (w.heap.size + 1 + 1 + 1 + 1) := fun k hk e => hk (by injection e)
 exact ⟨Blk.grown h.b2 hg (hne _ (by omega)), Blk.grown h.b3 hg (hne _ (by omega)), Blk.grown h.b4 hg (hne _ (by omega)), Blk.grown h.b5 hg (hne _ (by omega)), only_new h.gr (by omega) hg⟩
theorem info41 : (Try.prog.info? 41).map (fun i => (i.zero, i.size, i.bytes)) = some (some (.agg #[.int .i64 0, .string ⟨#[]⟩, .int .i64 0]), 3, 32) := by kernel_rfl
/-- A call that turns the reader alone, and new blocks. -/
theorem AllIs.grown {w w1 w2 : World} {l : List UInt8} {v : Value} {acc : List Tok} (h : AllIs w w1 l v acc) (hg : w1.grownBy w2 (some (w.heap.size + 1 + 1 + 1 + 1))) (hr : RAt w2 (w.heap.size + 1 + 1 + 1 + 1) l 0) : AllIs w w2 l v acc := by
 have hne : ∀ k, k ≠ w.heap.size + 1 + 1 + 1 + 1 → some k ≠ some (w.heap.size + 1 + 1 + 1 + 1) := fun k hk e => hk (by injection e)
 refine ⟨Blk.grown h.b2 hg (hne _ (by omega)), Blk.grown h.b3 hg (hne _ (by omega)), Blk.grown h.b4 hg (hne _ (by omega)), Blk.grown h.b5 hg (hne _ (by omega)), hr, ?_, h.new, only_new h.gr (by omega) hg⟩
 exact h.tk.chg (Chg.of_grown hg (fun k hk => by injection hk with hk; exact hk.symm) : Chg (one_ (w.heap.size + 1 + 1 + 1 + 1)) w1 w2) (fun b hb e => by have := h.new b hb; have : b = w.heap.size + 1 + 1 + 1 + 1 := e; omega)
/-- The end behind all tokens. -/
def finAr (l : List UInt8) : Ar → Ar
 | .ok acc => .ok (acc ++ [⟨4, [], l.length⟩])
 | .err a e => .err a e
def AllPost (w : World) (_l : List UInt8) : Ar → Ending → World → Prop
 | .ok acc, e, w' => (∃ v, e = .returned (.tuple #[v, .int .i64 0, .int .i64 0]) ∧ Own w' 41 3 v acc.length (tcs acc) 0 ∧ ∀ b, v.ownBlock = some b → w.heap.size ≤ b) ∧ w.grownBy w' none
 | .err a k, e, w' => e = .returned (.tuple #[.slice none 0 0, .int .i64 a, .int .i64 k]) ∧ w.grownBy w' none
theorem all_res {w : World} {a b c : Nat} {v x y : Value} (h2 : w.cell? ⟨a, 0, none⟩ = some v) (h3 : w.cell? ⟨b, 0, none⟩ = some x) (h4 : w.cell? ⟨c, 0, none⟩ = some y) {tmps : Array Value} (t2 : tmps.getD 2 undef = .pointer (some ⟨a, 0, none⟩)) (t3 : tmps.getD 3 undef = .pointer (some ⟨b, 0, none⟩)) (t4 : tmps.getD 4 undef = .pointer (some ⟨c, 0, none⟩)) :
  (results Try.f20 tmps).run Try.prog w = .ok (.tuple #[v, x, y]) w := by
 have t2' : tmps[2]?.getD undef = .pointer (some ⟨a, 0, none⟩) := by simpa using t2
 have t3' : tmps[3]?.getD undef = .pointer (some ⟨b, 0, none⟩) := by simpa using t3
 have t4' : tmps[4]?.getD undef = .pointer (some ⟨c, 0, none⟩) := by simpa using t4
 simp [results, Try.results20, go_sem, t2', t3', t4', h2, h3, h4]
set_option maxHeartbeats 2000000 in
theorem all_long (l : List UInt8) (w : World) (hl : 4096 < l.length) (hm : l.length ≤ 9223372036854775807) : Calls Try.prog 20 #[sv l] w fun e w' => AllPost w l (.err 0 10) e w' := by
 have hmf : ∀ (fn : Fn) (first cap : Array Value) (w : World), (Instr.makeFunc fn first cap).run Try.prog w = .ok (.func fn first cap) w := fun _ _ _ _ => rfl
 have h1 := sz l
 have q : decide ((4096 : Int) < (l.length : Int)) = true := decide_eq_true (by omega)
 unfold sv AllPost
 go_enter_defers Try.func20, Try.ntmps20
 go_wp2
 simp [Leaves, results, Try.results20, go_sem, bodyPostD]
 exact only_alloc (only_alloc (only_alloc (only_refl w none) _) _) _
set_option maxHeartbeats 8000000 in
theorem all_short (l : List UInt8) (w : World) (hl : l.length ≤ 4096) (R : Ar) (hR : allGo l (l.length + 1) (blankF l) [] = R) : Calls Try.prog 20 #[sv l] w fun e w' => AllPost w l (finAr l R) e w' := by
 have hmf : ∀ (fn : Fn) (first cap : Array Value) (w : World), (Instr.makeFunc fn first cap).run Try.prog w = .ok (.func fn first cap) w := fun _ _ _ _ => rfl
 have h1 := sz l
 have q : decide ((4096 : Int) < (l.length : Int)) = false := decide_eq_false (by omega)
 have HR0 := hide hR
 clear hR
 obtain ⟨W, hW⟩ : ∃ W, ((((w.alloc (.cells #[.slice none 0 0] 37)).alloc (.cells #[.int .i64 0] 3)).alloc (.cells #[.int .i64 0] 24)).alloc (.cells #[.int .i64 0, .int .i64 0] 67)).alloc (.cells #[sv l, .int .i64 0] 72) = W := ⟨_, rfl⟩
 have hI : AllIs w W l (.slice none 0 0) [] := by
  rw [← hW]
  refine ⟨((((Blk.new w 37 _).alloc _).alloc _).alloc _).alloc _, ?_, ?_, ?_, ?_, Own.nil _ _ _ _, fun b hb => by simp [Value.ownBlock] at hb, only_alloc (only_alloc (only_alloc (only_alloc (only_alloc (only_refl w none) _) _) _) _) _⟩
  ·have := (((Blk.new (w.alloc (.cells #[.slice none 0 0] 37)) 3 #[.int .i64 0]).alloc (.cells #[.int .i64 0] 24)).alloc (.cells #[.int .i64 0, .int .i64 0] 67)).alloc (.cells #[sv l, .int .i64 0] 72)
   rwa [World.size_alloc] at this
  ·have := ((Blk.new ((w.alloc (.cells #[.slice none 0 0] 37)).alloc (.cells #[.int .i64 0] 3)) 24 #[.int .i64 0]).alloc (.cells #[.int .i64 0, .int .i64 0] 67)).alloc (.cells #[sv l, .int .i64 0] 72)
   rwa [World.size_alloc, World.size_alloc] at this
  ·have := (Blk.new (((w.alloc (.cells #[.slice none 0 0] 37)).alloc (.cells #[.int .i64 0] 3)).alloc (.cells #[.int .i64 0] 24)) 67 #[.int .i64 0, .int .i64 0]).alloc (.cells #[sv l, .int .i64 0] 72)
   rwa [World.size_alloc, World.size_alloc, World.size_alloc] at this
  ·have := Blk.new ((((w.alloc (.cells #[.slice none 0 0] 37)).alloc (.cells #[.int .i64 0] 3)).alloc (.cells #[.int .i64 0] 24)).alloc (.cells #[.int .i64 0, .int .i64 0] 67)) 72 #[sv l, .int .i64 0]
   rwa [World.size_alloc, World.size_alloc, World.size_alloc, World.size_alloc] at this
 have HI := hide hI
 have hb := blank_any (w.heap.size + 1 + 1 + 1 + 1) 0 0 l W hI.b6 (Nat.zero_le _) (by omega)
 rw [List.drop_zero] at hb
 unfold sv at hW ⊢
 rw [← hW] at hb
 have Hb := hide hb
 have HW := hide hW
 clear hb hI hW
 go_enter_defers Try.func20, Try.ntmps20
 go_wp2_with fail
 refine Hb.out.mono ?_
 rintro e w1 ⟨rfl, rfl⟩
 rw [HW.out]
 go_wp2_with fail
 go_loopw [7] (fun v7 wr => ∃ (fuel i : Nat) (acc : List Tok) (v : Value), v7 = .int .i64 i ∧ i ≤ l.length ∧ l.length < i + fuel ∧ acc.length ≤ 400 ∧ AllIs w wr l v acc ∧ blankF (l.drop i) = 0 ∧ allGo l fuel i acc = R) (fun v7 _ => l.length + 1 - (intOf v7).toNat)
 case atStart => exact ⟨l.length + 1, blankF l, [], _, by simp, blank_le _ l rfl, by omega, by simp, HI.out, blank_idem _ l rfl, HR0.out⟩
 case round =>
  obtain ⟨fuel, i, acc, v, rfl, hi, hfu, h400, hI2, hbl, hres⟩ := hrel
  have HI2 := hide hI2
  have HR := hide hres
  have Hbl := hide hbl
  obtain ⟨va, cap, rfl, hcap, hmx⟩ := hI2.tk.form
  have c2 := Blk.cell hI2.b2 0
  clear hI2 hres hbl HI HR0
  obtain ⟨f, rfl⟩ : ∃ f, fuel = f + 1 := ⟨fuel - 1, by omega⟩
  by_cases hlt : i < l.length
  ·have q0 : decide ((i : Int) < (l.length : Int)) = true := decide_eq_true (by omega)
   by_cases h4 : acc.length = 400
   ·have Hlaw := hide (show R = .err i 12 by rw [← HR.out, allGo_step, if_pos hlt, if_pos h4])
    have q4 : ((acc.length : Int) == 400) = true := by rw [beq_iff_eq]; omega
    go_wp2_with fail
    refine leaves_cons (f := 35) (args := #[.pointer (some ⟨w.heap.size + 1 + 1 + 1, 0, none⟩)]) (by simp) (by simp [go_sem]) ?_
    refine (caught_panic (w.heap.size + 1 + 1 + 1) i 12 0 0 _ HI2.out.b5).mono ?_
    rintro e1 u' w2 ⟨rfl, rfl, hF2, hg2⟩
    have hne : ∀ k, k ≠ w.heap.size + 1 + 1 + 1 → some k ≠ some (w.heap.size + 1 + 1 + 1) := fun k hk e => hk (by injection e)
    have h2 := Blk.grown HI2.out.b2 hg2 (hne _ (by omega))
    have h3 := Blk.grown HI2.out.b3 hg2 (hne _ (by omega))
    have h4 := Blk.grown HI2.out.b4 hg2 (hne _ (by omega))
    have hG2 := only_new HI2.out.gr (by omega) hg2
    refine leaves_cons (f := 34) (args := #[.pointer (some ⟨w.heap.size + 1 + 1 + 1, 0, none⟩), .pointer (some ⟨w.heap.size, 0, none⟩), .pointer (some ⟨w.heap.size + 1, 0, none⟩), .pointer (some ⟨w.heap.size + 1 + 1, 0, none⟩)]) (by simp [settle, caughtV]) (by simp [go_sem]) ?_
    refine (fin17_bad (w.heap.size + 1 + 1 + 1) w.heap.size (w.heap.size + 1) (w.heap.size + 1 + 1) i 12 _ 0 0 (by decide) _ _ hF2 h2 h3 h4 (by omega) (by omega) (by omega) (by omega) (by omega)).mono ?_
    rintro e1 u' w3 ⟨rfl, rfl, rfl⟩
    have r2 := Blk.cell (Blk.far (Blk.far (Blk.set_ h2 0 (.slice none 0 0)) (p := ⟨w.heap.size + 1, 0, none⟩) (by show w.heap.size ≠ w.heap.size + 1; omega) (.int .i64 i)) (p := ⟨w.heap.size + 1 + 1, 0, none⟩) (by show w.heap.size ≠ w.heap.size + 1 + 1; omega) (.int .i64 12)) 0
    have r3 := Blk.cell (Blk.far (Blk.set_ (Blk.far h3 (p := ⟨w.heap.size, 0, none⟩) (by show w.heap.size + 1 ≠ w.heap.size; omega) (.slice none 0 0)) 0 (.int .i64 i)) (p := ⟨w.heap.size + 1 + 1, 0, none⟩) (by show w.heap.size + 1 ≠ w.heap.size + 1 + 1; omega) (.int .i64 12)) 0
    have r4 := Blk.cell (Blk.set_ (Blk.far (Blk.far h4 (p := ⟨w.heap.size, 0, none⟩) (by show w.heap.size + 1 + 1 ≠ w.heap.size; omega) (.slice none 0 0)) (p := ⟨w.heap.size + 1, 0, none⟩) (by show w.heap.size + 1 + 1 ≠ w.heap.size + 1; omega) (.int .i64 i)) 0 (.int .i64 12)) 0
    have hfin := none_setCell (none_setCell (none_setCell hG2 (p := ⟨w.heap.size, 0, none⟩) (Nat.le_refl _) (.slice none 0 0)) (p := ⟨w.heap.size + 1, 0, none⟩) (by show w.heap.size ≤ w.heap.size + 1; omega) (.int .i64 i)) (p := ⟨w.heap.size + 1 + 1, 0, none⟩) (by show w.heap.size ≤ w.heap.size + 1 + 1; omega) (.int .i64 12)
    generalize ((w2.setCell ⟨w.heap.size, 0, none⟩ (.slice none 0 0)).setCell ⟨w.heap.size + 1, 0, none⟩ (.int .i64 i)).setCell ⟨w.heap.size + 1 + 1, 0, none⟩ (.int .i64 12) = W9 at r2 r3 r4 hfin ⊢
    simp [Leaves, settle, caughtV]
    exact ⟨_, all_res r2 r3 r4 rfl rfl rfl, by rw [Hlaw.out]; exact ⟨rfl, hfin⟩⟩
   have q4 : ((acc.length : Int) == 400) = false := by rw [beq_eq_false_iff_ne]; omega
   have hn := next_any (w.heap.size + 1 + 1 + 1 + 1) i l wr HI2.out.b6 hlt (by omega)
   have hstep : allGo l (f + 1) i acc = match nextF (l.drop i) with
    | .tok k s => allGo l f (i + s.length + blankF (l.drop (i + s.length))) (acc ++ [⟨k, s, i⟩])
    | .more => .err l.length 23
    | .deep a => .err ((i : Int) + a) 17 := by rw [allGo_step, if_pos hlt, if_neg h4]
   have hpos := fun k s (h : nextF (l.drop i) = .tok k s) => next_pos (drop_ne hlt) Hbl.out h
   obtain ⟨N, hN⟩ : ∃ N, nextF (l.drop i) = N := ⟨_, rfl⟩
   rw [hN] at hn hstep hpos
   rw [HR.out] at hstep
   cases N with
   | more =>
    have Hlaw := hide (show R = .err l.length 23 from hstep)
    unfold NxPost at hn
    have Hn := hide hn
    clear hn hstep hpos hN
    go_wp2_with fail
    refine Hn.out.mono ?_
    rintro e w9 ⟨rfl, hg9⟩
    have hAll : AllIs0 w w9 (.slice va acc.length cap) := AllIs0.grown HI2.out hg9
    have HI9 := hide hAll
    clear hg9 hAll
    refine leaves_cons (f := 35) (args := #[.pointer (some ⟨w.heap.size + 1 + 1 + 1, 0, none⟩)]) (by simp) (by simp [go_sem]) ?_
    refine (caught_panic (w.heap.size + 1 + 1 + 1) l.length 23 0 0 _ HI9.out.b5).mono ?_
    rintro e1 u' w2 ⟨rfl, rfl, hF2, hg2⟩
    have hne : ∀ k, k ≠ w.heap.size + 1 + 1 + 1 → some k ≠ some (w.heap.size + 1 + 1 + 1) := fun k hk e => hk (by injection e)
    have h2 := Blk.grown HI9.out.b2 hg2 (hne _ (by omega))
    have h3 := Blk.grown HI9.out.b3 hg2 (hne _ (by omega))
    have h4 := Blk.grown HI9.out.b4 hg2 (hne _ (by omega))
    have hG2 := only_new HI9.out.gr (by omega) hg2
    refine leaves_cons (f := 34) (args := #[.pointer (some ⟨w.heap.size + 1 + 1 + 1, 0, none⟩), .pointer (some ⟨w.heap.size, 0, none⟩), .pointer (some ⟨w.heap.size + 1, 0, none⟩), .pointer (some ⟨w.heap.size + 1 + 1, 0, none⟩)]) (by simp [settle, caughtV]) (by simp [go_sem]) ?_
    refine (fin17_bad (w.heap.size + 1 + 1 + 1) w.heap.size (w.heap.size + 1) (w.heap.size + 1 + 1) l.length 23 _ 0 0 (by decide) _ _ hF2 h2 h3 h4 (by omega) (by omega) (by omega) (by omega) (by omega)).mono ?_
    rintro e1 u' w3 ⟨rfl, rfl, rfl⟩
    have r2 := Blk.cell (Blk.far (Blk.far (Blk.set_ h2 0 (.slice none 0 0)) (p := ⟨w.heap.size + 1, 0, none⟩) (by show w.heap.size ≠ w.heap.size + 1; omega) (.int .i64 l.length)) (p := ⟨w.heap.size + 1 + 1, 0, none⟩) (by show w.heap.size ≠ w.heap.size + 1 + 1; omega) (.int .i64 23)) 0
    have r3 := Blk.cell (Blk.far (Blk.set_ (Blk.far h3 (p := ⟨w.heap.size, 0, none⟩) (by show w.heap.size + 1 ≠ w.heap.size; omega) (.slice none 0 0)) 0 (.int .i64 l.length)) (p := ⟨w.heap.size + 1 + 1, 0, none⟩) (by show w.heap.size + 1 ≠ w.heap.size + 1 + 1; omega) (.int .i64 23)) 0
    have r4 := Blk.cell (Blk.set_ (Blk.far (Blk.far h4 (p := ⟨w.heap.size, 0, none⟩) (by show w.heap.size + 1 + 1 ≠ w.heap.size; omega) (.slice none 0 0)) (p := ⟨w.heap.size + 1, 0, none⟩) (by show w.heap.size + 1 + 1 ≠ w.heap.size + 1; omega) (.int .i64 l.length)) 0 (.int .i64 23)) 0
    have hfin := none_setCell (none_setCell (none_setCell hG2 (p := ⟨w.heap.size, 0, none⟩) (Nat.le_refl _) (.slice none 0 0)) (p := ⟨w.heap.size + 1, 0, none⟩) (by show w.heap.size ≤ w.heap.size + 1; omega) (.int .i64 l.length)) (p := ⟨w.heap.size + 1 + 1, 0, none⟩) (by show w.heap.size ≤ w.heap.size + 1 + 1; omega) (.int .i64 23)
    generalize ((w2.setCell ⟨w.heap.size, 0, none⟩ (.slice none 0 0)).setCell ⟨w.heap.size + 1, 0, none⟩ (.int .i64 l.length)).setCell ⟨w.heap.size + 1 + 1, 0, none⟩ (.int .i64 23) = W9 at r2 r3 r4 hfin ⊢
    simp [Leaves, settle, caughtV]
    exact ⟨_, all_res r2 r3 r4 rfl rfl rfl, by rw [Hlaw.out]; exact ⟨rfl, hfin⟩⟩
   | deep a =>
    have Hlaw := hide (show R = .err ((i : Int) + a) 17 from hstep)
    unfold NxPost at hn
    have Hn := hide hn
    clear hn hstep hpos hN
    go_wp2_with fail
    refine Hn.out.mono ?_
    rintro e w9 ⟨rfl, hg9⟩
    have hAll : AllIs0 w w9 (.slice va acc.length cap) := AllIs0.grown HI2.out hg9
    have HI9 := hide hAll
    clear hg9 hAll
    refine leaves_cons (f := 35) (args := #[.pointer (some ⟨w.heap.size + 1 + 1 + 1, 0, none⟩)]) (by simp) (by simp [go_sem]) ?_
    refine (caught_panic (w.heap.size + 1 + 1 + 1) ((i : Int) + a) 17 0 0 _ HI9.out.b5).mono ?_
    rintro e1 u' w2 ⟨rfl, rfl, hF2, hg2⟩
    have hne : ∀ k, k ≠ w.heap.size + 1 + 1 + 1 → some k ≠ some (w.heap.size + 1 + 1 + 1) := fun k hk e => hk (by injection e)
    have h2 := Blk.grown HI9.out.b2 hg2 (hne _ (by omega))
    have h3 := Blk.grown HI9.out.b3 hg2 (hne _ (by omega))
    have h4 := Blk.grown HI9.out.b4 hg2 (hne _ (by omega))
    have hG2 := only_new HI9.out.gr (by omega) hg2
    refine leaves_cons (f := 34) (args := #[.pointer (some ⟨w.heap.size + 1 + 1 + 1, 0, none⟩), .pointer (some ⟨w.heap.size, 0, none⟩), .pointer (some ⟨w.heap.size + 1, 0, none⟩), .pointer (some ⟨w.heap.size + 1 + 1, 0, none⟩)]) (by simp [settle, caughtV]) (by simp [go_sem]) ?_
    refine (fin17_bad (w.heap.size + 1 + 1 + 1) w.heap.size (w.heap.size + 1) (w.heap.size + 1 + 1) ((i : Int) + a) 17 _ 0 0 (by decide) _ _ hF2 h2 h3 h4 (by omega) (by omega) (by omega) (by omega) (by omega)).mono ?_
    rintro e1 u' w3 ⟨rfl, rfl, rfl⟩
    have r2 := Blk.cell (Blk.far (Blk.far (Blk.set_ h2 0 (.slice none 0 0)) (p := ⟨w.heap.size + 1, 0, none⟩) (by show w.heap.size ≠ w.heap.size + 1; omega) (.int .i64 ((i : Int) + a))) (p := ⟨w.heap.size + 1 + 1, 0, none⟩) (by show w.heap.size ≠ w.heap.size + 1 + 1; omega) (.int .i64 17)) 0
    have r3 := Blk.cell (Blk.far (Blk.set_ (Blk.far h3 (p := ⟨w.heap.size, 0, none⟩) (by show w.heap.size + 1 ≠ w.heap.size; omega) (.slice none 0 0)) 0 (.int .i64 ((i : Int) + a))) (p := ⟨w.heap.size + 1 + 1, 0, none⟩) (by show w.heap.size + 1 ≠ w.heap.size + 1 + 1; omega) (.int .i64 17)) 0
    have r4 := Blk.cell (Blk.set_ (Blk.far (Blk.far h4 (p := ⟨w.heap.size, 0, none⟩) (by show w.heap.size + 1 + 1 ≠ w.heap.size; omega) (.slice none 0 0)) (p := ⟨w.heap.size + 1, 0, none⟩) (by show w.heap.size + 1 + 1 ≠ w.heap.size + 1; omega) (.int .i64 ((i : Int) + a))) 0 (.int .i64 17)) 0
    have hfin := none_setCell (none_setCell (none_setCell hG2 (p := ⟨w.heap.size, 0, none⟩) (Nat.le_refl _) (.slice none 0 0)) (p := ⟨w.heap.size + 1, 0, none⟩) (by show w.heap.size ≤ w.heap.size + 1; omega) (.int .i64 ((i : Int) + a))) (p := ⟨w.heap.size + 1 + 1, 0, none⟩) (by show w.heap.size ≤ w.heap.size + 1 + 1; omega) (.int .i64 17)
    generalize ((w2.setCell ⟨w.heap.size, 0, none⟩ (.slice none 0 0)).setCell ⟨w.heap.size + 1, 0, none⟩ (.int .i64 ((i : Int) + a))).setCell ⟨w.heap.size + 1 + 1, 0, none⟩ (.int .i64 17) = W9 at r2 r3 r4 hfin ⊢
    simp [Leaves, settle, caughtV]
    exact ⟨_, all_res r2 r3 r4 rfl rfl rfl, by rw [Hlaw.out]; exact ⟨rfl, hfin⟩⟩
   | tok k s =>
    obtain ⟨hs1, hs2⟩ := hpos k s rfl
    rw [List.length_drop] at hs2
    have Hst := hide (show R = allGo l f (i + s.length + blankF (l.drop (i + s.length))) (acc ++ [⟨k, s, i⟩]) from hstep)
    unfold NxPost sv at hn
    have Hn := hide hn
    have zs := sz s
    clear hn hstep hpos hN
    go_wp2_with fail
    refine Hn.out.mono ?_
    rintro e w9 ⟨rfl, hg9, hr9⟩
    have HI9 := hide (HI2.out.grown hg9 hr9)
    have c29 := Blk.cell HI9.out.b2 0
    have z29 := Blk.frozen HI9.out.b2 0
    have l29 := Blk.lt HI9.out.b2
    have hown := (HI9.out.tk.alloc (.cells #[.int .i64 k, .string ⟨s.toArray⟩, .int .i64 i] 41)).alloc (.cells #[.int .i64 k, .string ⟨s.toArray⟩, .int .i64 i] 41)
    have hmd := Own.made (w9.alloc (.cells #[.int .i64 k, .string ⟨s.toArray⟩, .int .i64 i] 41)) #[.int .i64 k, .string ⟨s.toArray⟩, .int .i64 i] 41 3 1 0 rfl (by unfold maxLen; omega)
    rw [World.size_alloc] at hmd
    have hsrc := Own.src (P := Try.prog) (tx := 37) (e' := 41) hmd (by kernel_rfl) (by
     intro u hu
     simp only [List.mem_cons, List.not_mem_nil, or_false] at hu
     rcases hu with rfl | rfl | rfl <;> rfl)
    have hC8 : Blk ((w9.alloc (.cells #[.int .i64 k, .string ⟨s.toArray⟩, .int .i64 i] 41)).alloc (.cells #[.int .i64 k, .string ⟨s.toArray⟩, .int .i64 i] 41)) w9.heap.size 41 #[.int .i64 k, .string ⟨s.toArray⟩, .int .i64 i] := (Blk.new w9 41 _).alloc _
    have hvb : ∀ b, (Value.slice va acc.length cap).ownBlock = some b → b < w9.heap.size := fun b hb => HI9.out.tk.lt hb
    have Hown := hide hown
    have Hsrc := hide hsrc
    have HC8 := hide hC8
    have Hvb := hide hvb
    have hne8 : ¬ w9.heap.size = w.heap.size := by omega
    clear hown hsrc hmd hC8 hvb hg9 hr9
    go_wp2_with (at_builtin; refine wpList_appAt 41 (.agg #[.int .i64 0, .string ⟨#[]⟩, .int .i64 0]) 3 32 Try.underlying37 info41 rfl (.slice va acc.length cap) acc.length (tcs acc) 0 _ 1 [.int .i64 k, .string ⟨s.toArray⟩, .int .i64 i] rfl rfl Hown.out (by omega) Hsrc.out (by unfold maxLen; omega) (by omega) ?_; intro v' w' ho hc hn _; obtain ⟨fo, fc, rfl, _, _⟩ := Own.form ho; (have HO := hide ho); (have hkp : Blk w' w.heap.size 37 #[.slice va acc.length cap] := Blk.chg ((HI9.out.b2.alloc _).alloc _) hc (fun e => by have := HI9.out.new _ e; omega)); (have c2' := Blk.cell hkp 0); (have z2' := Blk.frozen hkp 0); (have l2' := Blk.lt hkp); (have hk8 : Blk w' w9.heap.size 41 #[.int .i64 k, .string ⟨s.toArray⟩, .int .i64 i] := Blk.chg HC8.out hc (fun e => by have := Hvb.out _ e; omega)); (have c81 := Blk.cell hk8 1); (have HC := hide hc); (have Hnew := hide hn); clear ho hc hn hkp hk8)
    have hv' : ∀ b, (Value.slice fo (acc.length + 1) fc).ownBlock = some b → w.heap.size + 1 + 1 + 1 + 1 + 1 ≤ b := by
     intro b hb
     have h6 := Blk.lt HI9.out.b6
     rcases Hnew.out b hb with h | h
     ·exact HI9.out.new b h
     ·rw [World.size_alloc, World.size_alloc] at h
      omega
    have hkeep : ∀ {g : Nat} {T : TypeId} {cs : Array Value}, Blk w9 g T cs → g ≠ w.heap.size → g ≤ w.heap.size + 1 + 1 + 1 + 1 → Blk (w'.setCell ⟨w.heap.size, 0, none⟩ (.slice fo (acc.length + 1) fc)) g T cs := fun hB hne hle => Blk.far (Blk.chg ((Blk.alloc (Blk.alloc hB _) _)) HC.out (fun e => by have := HI9.out.new _ e; omega)) (by show _ ≠ w.heap.size; exact hne) _
    have h2' : Blk (w'.setCell ⟨w.heap.size, 0, none⟩ (.slice fo (acc.length + 1) fc)) w.heap.size 37 #[.slice fo (acc.length + 1) fc] := Blk.set_ (Blk.chg ((HI9.out.b2.alloc _).alloc _) HC.out (fun e => by have := HI9.out.new _ e; omega)) 0 _
    have hI' : AllIs w (w'.setCell ⟨w.heap.size, 0, none⟩ (.slice fo (acc.length + 1) fc)) l (.slice fo (acc.length + 1) fc) (acc ++ [⟨k, s, i⟩]) := by
     refine ⟨h2', hkeep HI9.out.b3 (by omega) (by omega), hkeep HI9.out.b4 (by omega) (by omega), hkeep HI9.out.b5 (by omega) (by omega), hkeep HI9.out.b6 (by omega) (by omega), ?_, hv', ?_⟩
     ·rw [List.length_append, tcs_snoc]
      exact Own.far (p := ⟨w.heap.size, 0, none⟩) HO.out (fun e => by have h8 : w.heap.size + 1 + 1 + 1 + 1 + 1 ≤ w.heap.size := hv' _ e; omega) _
     ·exact (((((Chg.of_grown HI9.out.gr (fun _ h => by cases h) : Chg nobody w w9).alloc _).alloc _).trans HC.out (fun i hi hb => by have := HI9.out.new i hb; omega)).setCell (p := ⟨w.heap.size, 0, none⟩) (.inr (Nat.le_refl _)) _).grown (fun _ _ h => h)
    have HI' := hide hI'
    have hb2 := blank_any (w.heap.size + 1 + 1 + 1 + 1) 0 (i + s.length) l _ hI'.b6 (by omega) (by omega)
    rw [show (((i + s.length : Nat)) : Int) = (i : Int) + s.length by omega] at hb2
    have Hb2 := hide hb2
    have hbl2 := blank_le _ (l.drop (i + s.length)) rfl
    have hbi := blank_idem _ (l.drop (i + s.length)) rfl
    rw [List.drop_drop] at hbi
    rw [List.length_drop] at hbl2
    have Hbi := hide hbi
    clear hI' hb2 h2' hkeep hv' hbi
    go_wp2_with fail
    refine Hb2.out.mono ?_
    rintro e w5 ⟨rfl, rfl⟩
    go_wp2_with fail
    go_roundw
    case rel => exact ⟨f, i + s.length + blankF (l.drop (i + s.length)), acc ++ [⟨k, s, i⟩], _, by go_num, by omega, by omega, by rw [List.length_append]; simp; omega, HI'.out, Hbi.out, Hst.out.symm⟩
    case measure => simp [intOf]; omega
  ·have q0 : decide ((i : Int) < (l.length : Int)) = false := decide_eq_false (by omega)
   have hR : R = .ok acc := by rw [← HR.out, allGo_step, if_neg hlt]
   subst hR
   have c3 := Blk.cell HI2.out.b3 0
   have c4 := Blk.cell HI2.out.b4 0
   have hown := HI2.out.tk.alloc (.cells #[.int .i64 4, .string ⟨#[]⟩, .int .i64 l.length] 41)
   have hmd := Own.made wr #[.int .i64 4, .string ⟨#[]⟩, .int .i64 l.length] 41 3 1 0 rfl (by unfold maxLen; omega)
   have hsrc := Own.src (P := Try.prog) (tx := 37) (e' := 41) hmd (by kernel_rfl) (by
    intro u hu
    simp only [List.mem_cons, List.not_mem_nil, or_false] at hu
    rcases hu with rfl | rfl | rfl <;> rfl)
   have Hown := hide hown
   have Hsrc := hide hsrc
   clear hown hsrc hmd c3 c4
   go_wp2_with (at_builtin; refine wpList_appAt 41 (.agg #[.int .i64 0, .string ⟨#[]⟩, .int .i64 0]) 3 32 Try.underlying37 info41 rfl (.slice va acc.length cap) acc.length (tcs acc) 0 _ 1 [.int .i64 4, .string ⟨#[]⟩, .int .i64 l.length] rfl rfl Hown.out (by omega) Hsrc.out (by unfold maxLen; omega) (by omega) ?_; intro v' w' ho hc hn _; obtain ⟨fo, fc, rfl, _, _⟩ := Own.form ho; (have HO := hide ho); (have hkp : Blk w' w.heap.size 37 #[.slice va acc.length cap] := Blk.chg (HI2.out.b2.alloc _) hc (fun e => by have := HI2.out.new _ e; omega)); (have hk3 : Blk w' (w.heap.size + 1) 3 #[.int .i64 0] := Blk.chg (HI2.out.b3.alloc _) hc (fun e => by have := HI2.out.new _ e; omega)); (have hk4 : Blk w' (w.heap.size + 1 + 1) 24 #[.int .i64 0] := Blk.chg (HI2.out.b4.alloc _) hc (fun e => by have := HI2.out.new _ e; omega)); (have hk5 : Blk w' (w.heap.size + 1 + 1 + 1) 67 #[.int .i64 0, .int .i64 0] := Blk.chg (HI2.out.b5.alloc _) hc (fun e => by have := HI2.out.new _ e; omega)); (have HK2 := hide hkp); (have HK3 := hide hk3); (have HK4 := hide hk4); (have HK5 := hide hk5); (have c2' := Blk.cell hkp 0); (have z2' := Blk.frozen hkp 0); (have l2' := Blk.lt hkp); (have c3' := Blk.cell hk3 0); (have z3' := Blk.frozen hk3 0); (have l3' := Blk.lt hk3); (have c4' := Blk.cell hk4 0); (have z4' := Blk.frozen hk4 0); (have l4' := Blk.lt hk4); (have HC := hide hc); (have Hnew := hide hn); clear ho hc hn hkp hk3 hk4 hk5)
   have hv' : ∀ b, (Value.slice fo (acc.length + 1) fc).ownBlock = some b → w.heap.size + 1 + 1 + 1 + 1 + 1 ≤ b := by
    intro b hb
    have h6 := Blk.lt HI2.out.b6
    rcases Hnew.out b hb with h | h
    ·exact HI2.out.new b h
    ·rw [World.size_alloc] at h
     omega
   have r2 := Blk.far (Blk.far (Blk.set_ HK2.out 0 (.slice fo (acc.length + 1) fc)) (p := ⟨w.heap.size + 1, 0, none⟩) (by show w.heap.size ≠ w.heap.size + 1; omega) (.int .i64 0)) (p := ⟨w.heap.size + 1 + 1, 0, none⟩) (by show w.heap.size ≠ w.heap.size + 1 + 1; omega) (.int .i64 0)
   have r3 := Blk.far (Blk.set_ (Blk.far HK3.out (p := ⟨w.heap.size, 0, none⟩) (by show w.heap.size + 1 ≠ w.heap.size; omega) (.slice fo (acc.length + 1) fc)) 0 (.int .i64 0)) (p := ⟨w.heap.size + 1 + 1, 0, none⟩) (by show w.heap.size + 1 ≠ w.heap.size + 1 + 1; omega) (.int .i64 0)
   have r4 := Blk.set_ (Blk.far (Blk.far HK4.out (p := ⟨w.heap.size, 0, none⟩) (by show w.heap.size + 1 + 1 ≠ w.heap.size; omega) (.slice fo (acc.length + 1) fc)) (p := ⟨w.heap.size + 1, 0, none⟩) (by show w.heap.size + 1 + 1 ≠ w.heap.size + 1; omega) (.int .i64 0)) 0 (.int .i64 0)
   have r5 := Blk.far (Blk.far (Blk.far HK5.out (p := ⟨w.heap.size, 0, none⟩) (by show w.heap.size + 1 + 1 + 1 ≠ w.heap.size; omega) (.slice fo (acc.length + 1) fc)) (p := ⟨w.heap.size + 1, 0, none⟩) (by show w.heap.size + 1 + 1 + 1 ≠ w.heap.size + 1; omega) (.int .i64 0)) (p := ⟨w.heap.size + 1 + 1, 0, none⟩) (by show w.heap.size + 1 + 1 + 1 ≠ w.heap.size + 1 + 1; omega) (.int .i64 0)
   have hof := Own.far (p := ⟨w.heap.size + 1 + 1, 0, none⟩) (Own.far (p := ⟨w.heap.size + 1, 0, none⟩) (Own.far (p := ⟨w.heap.size, 0, none⟩) HO.out (fun e => by have h8 : w.heap.size + 1 + 1 + 1 + 1 + 1 ≤ w.heap.size := hv' _ e; omega) (.slice fo (acc.length + 1) fc)) (fun e => by have h8 : w.heap.size + 1 + 1 + 1 + 1 + 1 ≤ w.heap.size + 1 := hv' _ e; omega) (.int .i64 0)) (fun e => by have h8 : w.heap.size + 1 + 1 + 1 + 1 + 1 ≤ w.heap.size + 1 + 1 := hv' _ e; omega) (.int .i64 0)
   have hfin : w.grownBy _ none := ((((((Chg.of_grown HI2.out.gr (fun _ h => by cases h) : Chg nobody w wr).alloc _).trans HC.out (fun i hi hb => by have := HI2.out.new i hb; omega)).setCell (p := ⟨w.heap.size, 0, none⟩) (.inr (Nat.le_refl _)) (.slice fo (acc.length + 1) fc)).setCell (p := ⟨w.heap.size + 1, 0, none⟩) (.inr (by show w.heap.size ≤ w.heap.size + 1; omega)) (.int .i64 0)).setCell (p := ⟨w.heap.size + 1 + 1, 0, none⟩) (.inr (by show w.heap.size ≤ w.heap.size + 1 + 1; omega)) (.int .i64 0)).grown (fun _ _ h => h)
   refine leaves_cons (f := 35) (args := #[.pointer (some ⟨w.heap.size + 1 + 1 + 1, 0, none⟩)]) (by simp) (by simp [go_sem]) ?_
   refine (caught_idle _ _).mono ?_
   rintro e u' w'' ⟨rfl, rfl, rfl⟩
   refine leaves_cons (f := 34) (args := #[.pointer (some ⟨w.heap.size + 1 + 1 + 1, 0, none⟩), .pointer (some ⟨w.heap.size, 0, none⟩), .pointer (some ⟨w.heap.size + 1, 0, none⟩), .pointer (some ⟨w.heap.size + 1 + 1, 0, none⟩)]) (by simp [settle]) (by simp [go_sem]) ?_
   generalize ((w'.setCell ⟨w.heap.size, 0, none⟩ (.slice fo (acc.length + 1) fc)).setCell ⟨w.heap.size + 1, 0, none⟩ (.int .i64 0)).setCell ⟨w.heap.size + 1 + 1, 0, none⟩ (.int .i64 0) = W9 at r2 r3 r4 r5 hof hfin ⊢
   refine (fin17_ok (w.heap.size + 1 + 1 + 1) w.heap.size (w.heap.size + 1) (w.heap.size + 1 + 1) 0 _ _ r5).mono ?_
   rintro e u' w'' ⟨rfl, rfl, rfl⟩
   simp [Leaves, settle]
   refine ⟨_, all_res (Blk.cell r2 0) (Blk.cell r3 0) (Blk.cell r4 0) rfl rfl rfl, ⟨⟨_, rfl, ?_, fun b hb => by have := hv' b hb; omega⟩, hfin⟩⟩
   rw [List.length_append, tcs_snoc]
   exact hof
end Go.Proofs.Ytgpfjcogaheopaa.Lx

end
