/- The reader: sign, word. -/
import Derived.Test.YtgpfjcogaheopaaXF
set_option linter.all false
namespace Go.Proofs.Ytgpfjcogaheopaa.Lx
open Go.RowKit
set_option maxRecDepth 100000

/-- The signs, the longer ones first. -/
def sgs : List (List UInt8) := [[38, 38], [124, 124], [59, 59], [62, 62], [60, 38], [62, 38], [60, 62], [62, 124], [10], [124], [59], [38], [40], [41], [60], [62]]
def hasSign (t s : List UInt8) : Bool := decide (t.take s.length = s)
def signF (t : List UInt8) : List UInt8 := (sgs.find? (hasSign t)).getD []
theorem sgs_len : ∀ s ∈ sgs, 1 ≤ s.length ∧ s.length ≤ 2 := by decide
theorem sign_found {t : List UInt8} {j : Nat} (hj : j < sgs.length) (hno : ∀ m (h : m < sgs.length), m < j → hasSign t sgs[m] = false) (hyes : hasSign t sgs[j] = true) : signF t = sgs[j] := by
  unfold signF
  have h : sgs.find? (hasSign t) = some sgs[j] := by
    rw [List.find?_eq_some_iff_getElem]
    exact ⟨hyes, j, hj, rfl, fun m hm => by rw [hno m (by omega) hm]; rfl⟩
  rw [h]; rfl
theorem sign_none {t : List UInt8} (hno : ∀ m (h : m < sgs.length), hasSign t sgs[m] = false) : signF t = [] := by
  unfold signF
  have h : sgs.find? (hasSign t) = none := by
    rw [List.find?_eq_none]
    intro s hs
    obtain ⟨m, hm, rfl⟩ := List.getElem_of_mem hs
    rw [hno m hm]; decide
  rw [h]; rfl
theorem signF_mem (t : List UInt8) : signF t = [] ∨ (signF t ∈ sgs ∧ t.take (signF t).length = signF t) := by
  unfold signF
  cases h : sgs.find? (hasSign t) with
  | none => exact .inl rfl
  | some s =>
    have h1 := List.mem_of_find?_eq_some h
    have h2 := List.find?_some h
    exact .inr ⟨h1, of_decide_eq_true h2⟩

set_option maxHeartbeats 2000000 in
theorem sign_any (rb d i : Nat) (l : List UInt8) (w : World) (h : RAt w rb l d) (hi : i ≤ l.length) (hl : l.length ≤ 1000000) :
    Calls Try.prog 52 #[.pointer (some ⟨rb, 0, none⟩), .int .i64 i] w fun e w' => e = .returned (sv (signF (l.drop i))) ∧ w.grownBy w' none := by
  have H := hide h
  have Hsl := hide sgs_len
  have h16 : sgs.length = 16 := rfl
  have hrb := Blk.lt h
  have hC : Blk (w.alloc (.cells (sgs.map sv).toArray 9)) w.heap.size 9 (sgs.map sv).toArray := Blk.new w 9 _
  have HC := hide hC
  have HR := hide (show RAt (w.alloc (.cells (sgs.map sv).toArray 9)) rb l d from Blk.alloc h _)
  have HG := hide (only_alloc (only_refl w none) (.cells (sgs.map sv).toArray 9))
  obtain ⟨W, hW⟩ : ∃ W, w.alloc (.cells (sgs.map sv).toArray 9) = W := ⟨_, rfl⟩
  have HW := hide hW
  rw [hW] at HC HR HG
  clear h hC
  unfold sv
  go_enter Try.func52, Try.ntmps52
  go_wp2_with (first | (refine wpList_val (o := ⟨some 7, _, _, _, _, _⟩) (.slice (some ⟨w.heap.size, 0, none⟩) 16 16) W rfl (by rw [← HW.out]; kernel_rfl) ?_))
  go_loopw [9] (fun v wr => ∃ j : Nat, v = .int .i64 j ∧ j ≤ 16 ∧ (∀ m (h : m < sgs.length), m < j → hasSign (l.drop i) sgs[m] = false) ∧ wr = W) (fun v _ => 16 - (intOf v).toNat)
  case atStart => exact ⟨0, rfl, by omega, fun m _ h => by omega, rfl⟩
  case round =>
    obtain ⟨j, rfl, hj, hno, rfl⟩ := hrel
    have Hno := hide hno
    clear hno
    by_cases hlt : j < 16
    · have q0 : decide ((j : Int) < 16) = true := decide_eq_true (by omega)
      have hjb : (0 : Int) ≤ j ∧ (j : Int) < 16 := by omega
      have hj2 : j < sgs.length := by omega
      obtain ⟨s, hs⟩ : ∃ s, sgs[j] = s := ⟨_, rfl⟩
      have c0 : wr.cell? ⟨w.heap.size, j, none⟩ = some (.string ⟨s.toArray⟩) := by
        rw [Blk.cell HC.out j, List.getElem?_toArray, List.getElem?_map, List.getElem?_eq_getElem hj2, hs]
        rfl
      have hsl : s.length ≤ 1000 := by have := (Hsl.out s (by rw [← hs]; exact List.getElem_mem hj2)).2; omega
      have hat := at_any rb d i l s wr HR.out hi hl hsl
      have hd : decide ((l.drop i).take s.length = s) = hasSign (l.drop i) s := rfl
      rw [hd] at hat
      obtain ⟨b, hb⟩ : ∃ b, hasSign (l.drop i) s = b := ⟨_, rfl⟩
      rw [hb] at hat
      unfold sv at hat
      have Hat := hide hat
      have Hb := hide hb
      have Hs := hide hs
      clear hat hd hb hs
      cases b with
      | true =>
        go_wp2_with fail
        refine Hat.out.mono ?_
        rintro e w1 ⟨rfl, rfl⟩
        go_wp2_with fail
        go_ret
        have := sign_found hj2 Hno.out (by rw [Hs.out]; exact Hb.out)
        exact ⟨by rw [this, Hs.out]; rfl, HG.out⟩
      | false =>
        go_wp2_with fail
        refine Hat.out.mono ?_
        rintro e w1 ⟨rfl, rfl⟩
        go_wp2_with fail
        go_roundw
        case rel =>
          refine ⟨j + 1, by go_num, by omega, fun m hm hmj => ?_, trivial⟩
          by_cases e : m = j
          · subst e; rw [Hs.out]; exact Hb.out
          · exact Hno.out m hm (by omega)
        case measure => simp [intOf]; omega
    · have q0 : decide ((j : Int) < 16) = false := decide_eq_false (by omega)
      have hn := sign_none (t := l.drop i) (fun m hm => Hno.out m hm (by omega))
      have Hn := hide hn
      clear hn
      go_wp2_with fail
      go_ret
      exact ⟨by rw [Hn.out]; rfl, HG.out⟩

/-- Bytes at which a word ends. -/
def stopB : List UInt8 := [32, 9, 10, 124, 38, 59, 60, 62, 40, 41]
def wordR (t : List UInt8) : Rs :=
  match t with
  | [] => .ok 0
  | c :: r =>
    if isIn stopB c = true then .ok 0
    else match partR 25 false (c :: r) with
      | .more => .more
      | .deep a => .deep a
      | .ok n => (wordR (r.drop (n - 1))).add (max n 1)
termination_by t.length
decreasing_by
  all_goals simp
  all_goals omega
theorem word_nil : wordR [] = .ok 0 := by rw [wordR]
theorem word_cons (c : UInt8) (r : List UInt8) : wordR (c :: r) = if isIn stopB c = true then .ok 0
    else match partR 25 false (c :: r) with
      | .more => .more
      | .deep a => .deep a
      | .ok n => (wordR (r.drop (n - 1))).add (max n 1) := by rw [wordR]
theorem word_le : ∀ (L : Nat) (t : List UInt8) (n : Nat), t.length = L → wordR t = .ok n → n ≤ t.length := by
  intro L
  induction L using Nat.strongRecOn with
  | ind L ih =>
    intro t n hL h
    match t, hL, h with
    | [], _, h => rw [word_nil] at h; injection h with h; omega
    | c :: r, hL, h =>
      rw [List.length_cons] at hL ⊢
      rw [word_cons] at h
      split at h
      · injection h with h; omega
      · cases hp : partR 25 false (c :: r) with
        | more => rw [hp] at h; cases h
        | deep a => rw [hp] at h; cases h
        | ok q =>
          rw [hp] at h
          have h1 := part_le _ _ _ _ hp
          rw [List.length_cons] at h1
          obtain ⟨m, hm, rfl⟩ := Rs.add_ok h
          have := ih _ (by rw [List.length_drop]; omega) (r.drop (q - 1)) _ rfl hm
          rw [List.length_drop] at this
          omega

set_option maxHeartbeats 2000000 in
theorem word_any (rb i : Nat) (l : List UInt8) (w : World) (h : RAt w rb l 0) (hi : i ≤ l.length) (hl : l.length ≤ 1000000) :
    Calls Try.prog 53 #[.pointer (some ⟨rb, 0, none⟩), .int .i64 i] w fun e w' => e = (wordR (l.drop i)).out i l.length ∧ w.grownBy w' (some rb) ∧ ∀ n, wordR (l.drop i) = .ok n → RAt w' rb l 0 := by
  have h1 := sz l
  obtain ⟨R, hR⟩ : ∃ R, (wordR (l.drop i)).add i = R := ⟨_, rfl⟩
  have hout : (wordR (l.drop i)).out i l.length = R.out 0 l.length := by
    rw [← hR]; cases wordR (l.drop i) <;> simp [Rs.add, Rs.out]
  suffices H : Calls Try.prog 53 #[.pointer (some ⟨rb, 0, none⟩), .int .i64 i] w fun en w' => en = R.out 0 l.length ∧ w.grownBy w' (some rb) ∧ ((∃ n, R = .ok n) → RAt w' rb l 0) by
    refine H.mono ?_
    rintro en w' ⟨rfl, hg, hw⟩
    exact ⟨hout.symm, hg, fun n hn => hw ⟨i + n, by rw [← hR, hn]; rfl⟩⟩
  have HR0 := hide hR
  have H0 := hide h
  have Hidx := hide (fun (c : UInt8) w' => idx26 ⟨#[32, 9, 10, 124, 38, 59, 60, 62, 40, 41]⟩ c.toNat w')
  clear hR hout h
  go_enter Try.func53, Try.ntmps53
  go_wp2_with fail
  go_loopw [1] (fun v wr => ∃ k : Nat, v = .int .i64 k ∧ k ≤ l.length ∧ RAt wr rb l 0 ∧ w.grownBy wr (some rb) ∧ (wordR (l.drop k)).add k = R) (fun v _ => l.length + 1 - (intOf v).toNat)
  case atStart => exact ⟨i, rfl, hi, H0.out, only_refl _ _, HR0.out⟩
  case round =>
    obtain ⟨k, rfl, hk, hA, hG, hres⟩ := hrel
    have HA := hide hA
    have HG := hide hG
    have HR := hide hres
    have c0 := hA.c0
    have hlt := Blk.lt hA
    clear hA hG hres
    by_cases hlt2 : k < l.length
    · have q0 : decide ((k : Int) < (l.length : Int)) = true := decide_eq_true (by omega)
      have hat := str_at' l k hlt2
      have hib : (0 : Int) ≤ k ∧ (k : Int) < (l.length : Int) := by omega
      have hdr := drop_at hlt2
      obtain ⟨c, hc⟩ : ∃ c, l[k] = c := ⟨_, rfl⟩
      rw [hc] at hat hdr
      have hst := word_cons c (l.drop (k + 1))
      rw [← hdr] at hst
      have hx := fun w' => Hidx.out c w'
      have e1 : ((c.toNat : Int).toNat.toUInt8) = c := by simp
      rw [e1] at hx
      obtain ⟨x, hx0⟩ : ∃ x, Lib.indexByte (ByteArray.mk #[32, 9, 10, 124, 38, 59, 60, 62, 40, 41]).data.toList c = x := ⟨_, rfl⟩
      rw [hx0] at hx
      have hsp : isIn stopB c = decide (0 ≤ x) := by rw [← hx0]; rfl
      rw [hsp] at hst
      have Hx := hide hx
      by_cases h0 : 0 ≤ x
      · have qx : decide (0 ≤ x) = true := decide_eq_true h0
        have qy : decide (x < 0) = false := decide_eq_false (by omega)
        rw [if_pos qx] at hst
        have Hst := hide hst
        clear hst hdr hc hx hx0 hsp e1
        go_wp2_with fail
        refine (Hx.out _).mono ?_
        rintro en w2 ⟨rfl, rfl⟩
        go_wp2_with fail
        refine bodyPost_ret (results_tmp (t := 4) rfl _ _ _) rfl ⟨?_, HG.out, fun _ => HA.out⟩
        rw [← HR.out, Hst.out]
        simp [Rs.add, Rs.out]
      · have qx : decide (0 ≤ x) = false := decide_eq_false h0
        have qy : decide (x < 0) = true := decide_eq_true (by omega)
        rw [if_neg (by rw [qx]; decide)] at hst
        have hpt := part_ok 25 rb 0 k false l wr HA.out rfl hlt2 hl
        obtain ⟨P, hP⟩ : ∃ P, partR 25 false (l.drop k) = P := ⟨_, rfl⟩
        rw [hP] at hst hpt
        have hpl : ∀ n, P = .ok n → k + n ≤ l.length := fun n hn => by
          have := part_le 25 false (l.drop k) n (by rw [hP, hn])
          rw [List.length_drop] at this
          omega
        have Hst := hide hst
        have Hpt := hide hpt
        clear hst hdr hc hx hx0 hsp e1 hpt hP
        cases P with
        | more =>
          unfold Rs.out at Hpt
          go_wp2_with fail
          refine (Hx.out _).mono ?_
          rintro en w2 ⟨rfl, rfl⟩
          go_wp2_with fail
          refine Hpt.out.mono ?_
          rintro en w3 ⟨rfl, hg3, _⟩
          refine And.intro rfl (And.intro ?_ (And.intro (only_trans HG.out hg3) ?_))
          · rw [← HR.out, Hst.out]; rfl
          · rintro ⟨n, hn⟩; rw [← HR.out, Hst.out] at hn; cases hn
        | deep a =>
          unfold Rs.out at Hpt
          go_wp2_with fail
          refine (Hx.out _).mono ?_
          rintro en w2 ⟨rfl, rfl⟩
          go_wp2_with fail
          refine Hpt.out.mono ?_
          rintro en w3 ⟨rfl, hg3, _⟩
          refine And.intro rfl (And.intro ?_ (And.intro (only_trans HG.out hg3) ?_))
          · rw [← HR.out, Hst.out]; simp [Rs.add, Rs.out]
          · rintro ⟨n, hn⟩; rw [← HR.out, Hst.out] at hn; cases hn
        | ok n =>
          have hn := hpl n rfl
          have hdd : (l.drop (k + 1)).drop (n - 1) = l.drop (k + max n 1) := by rw [List.drop_drop]; congr 1; omega
          have hst2 := Hst.out
          simp only [hdd] at hst2
          have Hst2 := hide hst2
          clear hst2 hdd hpl
          unfold Rs.out at Hpt
          go_wp2_with fail
          refine (Hx.out _).mono ?_
          rintro en w2 ⟨rfl, rfl⟩
          go_wp2_with fail
          refine Hpt.out.mono ?_
          rintro en w3 ⟨rfl, hg3, hok3⟩
          have HA3 := hide (hok3 n rfl)
          have HG3 := hide (only_trans HG.out hg3)
          clear hg3 hok3
          go_wp2_with (first | (refine wpList_max ((k + max n 1 : Nat) : Int) ((k : Int) + n) ((k : Int) + 1) rfl rfl (by omega) ?_))
          go_roundw
          case rel => exact ⟨k + max n 1, by go_num, by omega, HA3.out, HG3.out, by rw [← HR.out, Hst2.out, Rs.add_add]⟩
          case measure => simp [intOf]; omega
    · have q0 : decide ((k : Int) < (l.length : Int)) = false := decide_eq_false (by omega)
      have hR : R = .ok k := by
        have := HR.out
        rw [List.drop_eq_nil_of_le (by omega), word_nil] at this
        exact this.symm
      subst hR
      go_wp2_with fail
      refine bodyPost_ret (results_tmp (t := 4) rfl _ _ _) rfl ⟨by simp [Rs.out], HG.out, fun _ => HA.out⟩

end Go.Proofs.Ytgpfjcogaheopaa.Lx
