/- The reader: sums; what a part is, as plain functions. -/
import Derived.Test.YtnamfafpdlieeaaB
set_option linter.all false
namespace Go.Proofs.Ytnamfafpdlieeaa
open Go.RowKit
set_option maxRecDepth 100000

/-- Behind the end of a reckoning. -/
def sumsR : Nat → List UInt8 → Rs
  | _, [] => .more
  | o, b :: r => if b = 40 then (sumsR (o + 1) r).add 1 else if b ≠ 41 then (sumsR o r).add 1 else if 0 < o then (sumsR (o - 1) r).add 1 else if r.take 1 = [41] then .ok 2 else (sumsR o r).add 1

set_option maxHeartbeats 2000000 in
theorem sums_any (rb d i : Nat) (l : List UInt8) (w : World) (h : RAt w rb l d) (hi : i ≤ l.length) (hl : l.length ≤ 1000000) :
    Calls Try.prog 32 #[.pointer (some ⟨rb, 0, none⟩), .int .i64 i] w fun e w' => e = (sumsR 0 (l.drop i)).out i l.length ∧ w' = w := by
  have Hm := hide (more_any rb d l w h)
  have Hat := hide (fun k hk => at_any rb d k l [41, 41] w h hk hl (by decide))
  unfold sv at Hat
  have c0 := h.c0
  have hlt := Blk.lt h
  have h1 := sz l
  obtain ⟨R, hR⟩ : ∃ R, (sumsR 0 (l.drop i)).add i = R := ⟨_, rfl⟩
  have hout : (sumsR 0 (l.drop i)).out i l.length = R.out 0 l.length := by
    rw [← hR]; cases sumsR 0 (l.drop i) <;> simp [Rs.add, Rs.out]
  rw [hout]
  have HR0 := hide hR
  clear hR hout h
  go_enter Try.func32, Try.ntmps32
  go_wp2_with fail
  go_loopw [1, 5] (fun v u wr => ∃ k o : Nat, v = .int .i64 k ∧ u = .int .i64 o ∧ k ≤ l.length ∧ o ≤ k ∧ (sumsR o (l.drop k)).add k = R ∧ wr = w) (fun v _ _ => l.length + 1 - (intOf v).toNat)
  case atStart => exact ⟨i, 0, rfl, rfl, hi, Nat.zero_le _, HR0.out, rfl⟩
  case round =>
    obtain ⟨k, o, rfl, rfl, hk, hok, hres, rfl⟩ := hrel
    have HR := hide hres
    clear hres
    by_cases hlt2 : k < l.length
    · have q0 : decide ((k : Int) < (l.length : Int)) = true := by simp; omega
      have hat := str_at' l k hlt2
      have hib : (0 : Int) ≤ k ∧ (k : Int) < (l.length : Int) := by omega
      have hdr := drop_at hlt2
      obtain ⟨b, hb⟩ : ∃ b, l[k] = b := ⟨_, rfl⟩
      rw [hb] at hat hdr
      by_cases h40 : b = 40
      · subst h40
        have Hst := hide (show sumsR o (l.drop k) = (sumsR (o + 1) (l.drop (k + 1))).add 1 by rw [hdr]; rfl)
        clear hdr hb
        go_wp2_with fail
        go_roundw
        case rel => exact ⟨k + 1, o + 1, by go_num, by go_num, by omega, by omega, by rw [← HR.out, Hst.out, Rs.add_add], trivial⟩
        case measure => simp [intOf]; omega
      have q40 : ((b.toNat : Int) == 40) = false := byte_ne h40
      by_cases h41 : b = 41
      · subst h41
        by_cases ho : 0 < o
        · have Hst := hide (show sumsR o (l.drop k) = (sumsR (o - 1) (l.drop (k + 1))).add 1 by rw [hdr]; show (if (41 : UInt8) = 40 then _ else if (41 : UInt8) ≠ 41 then _ else if 0 < o then _ else _) = _; rw [if_neg (by decide), if_neg (by decide), if_pos ho])
          have qo : decide ((0 : Int) < (o : Int)) = true := by simp; omega
          obtain ⟨o2, rfl⟩ : ∃ o2, o = o2 + 1 := ⟨o - 1, by omega⟩
          clear hdr hb
          go_wp2_with fail
          go_roundw
          case rel => exact ⟨k + 1, o2, by go_num, by go_num, by omega, by omega, by rw [← HR.out, Hst.out, Rs.add_add]; rfl, trivial⟩
          case measure => simp [intOf]; omega
        · obtain rfl : o = 0 := by omega
          have hat2 := Hat.out k (by omega)
          have htk : (l.drop k).take 2 = 41 :: (l.drop (k + 1)).take 1 := by rw [hdr]; rfl
          have hdec : decide ((l.drop k).take [(41 : UInt8), 41].length = [41, 41]) = decide ((l.drop (k + 1)).take 1 = [41]) := by
            show decide ((l.drop k).take 2 = [41, 41]) = _
            rw [htk]; simp
          rw [hdec] at hat2
          by_cases h2 : (l.drop (k + 1)).take 1 = [41]
          · have Hst := hide (show sumsR 0 (l.drop k) = .ok 2 by rw [hdr]; show (if (41 : UInt8) = 40 then _ else if (41 : UInt8) ≠ 41 then _ else if 0 < 0 then _ else if (l.drop (k + 1)).take 1 = [41] then _ else _) = _; rw [if_neg (by decide), if_neg (by decide), if_neg (by decide), if_pos h2])
            rw [decide_eq_true h2] at hat2
            have Hat2 := hide hat2
            clear hdr hb hat2 htk hdec h2
            go_wp2_with fail
            refine Hat2.out.mono ?_
            rintro e w2 ⟨rfl, rfl⟩
            go_wp2_with fail
            go_ret
            refine ⟨?_, rfl⟩
            rw [← HR.out, Hst.out]
            simp [Rs.add, Rs.out]
          · have Hst := hide (show sumsR 0 (l.drop k) = (sumsR 0 (l.drop (k + 1))).add 1 by rw [hdr]; show (if (41 : UInt8) = 40 then _ else if (41 : UInt8) ≠ 41 then _ else if 0 < 0 then _ else if (l.drop (k + 1)).take 1 = [41] then _ else _) = _; rw [if_neg (by decide), if_neg (by decide), if_neg (by decide), if_neg h2])
            rw [decide_eq_false h2] at hat2
            have Hat2 := hide hat2
            clear hdr hb hat2 htk hdec h2
            go_wp2_with fail
            refine Hat2.out.mono ?_
            rintro e w2 ⟨rfl, rfl⟩
            go_wp2_with fail
            go_roundw
            case rel => exact ⟨k + 1, 0, by go_num, rfl, by omega, by omega, by rw [← HR.out, Hst.out, Rs.add_add], trivial⟩
            case measure => simp [intOf]; omega
      · have q41 : ((b.toNat : Int) == 41) = false := byte_ne h41
        have q41' : ((b.toNat : Int) != 41) = true := by simp only [bne, q41]; rfl
        have Hst := hide (show sumsR o (l.drop k) = (sumsR o (l.drop (k + 1))).add 1 by rw [hdr]; show (if b = 40 then _ else if b ≠ 41 then _ else _) = _; rw [if_neg h40, if_pos h41])
        clear hdr hb h40 h41
        go_wp2_with fail
        go_roundw
        case rel => exact ⟨k + 1, o, by go_num, rfl, by omega, by omega, by rw [← HR.out, Hst.out, Rs.add_add], trivial⟩
        case measure => simp [intOf]; omega
    · have q0 : decide ((k : Int) < (l.length : Int)) = false := by simp; omega
      have hR : R = .more := by
        have := HR.out
        rw [List.drop_eq_nil_of_le (by omega)] at this
        cases o <;> exact this.symm
      subst hR
      go_wp2_with fail
      refine Hm.out.mono ?_
      rintro e w1 ⟨rfl, rfl⟩
      exact post_panic rfl ⟨rfl, rfl⟩

/-! ### parts -/
/-- Does a byte begin no part there? -/
def isIn (plain : List UInt8) (c : UInt8) : Bool := decide (0 ≤ Lib.indexByte plain c)
/-- Through parts up to what ends them. -/
def withinR (pf : List UInt8 → Rs) (e : UInt8) (plain : List UInt8) (o : Nat) (t : List UInt8) : Rs :=
  match t with
  | [] => .more
  | c :: r =>
    if c = e then (if o = 0 then .ok 1 else (withinR pf e plain (o - 1) r).add 1)
    else if e = 41 ∧ c = 40 then (withinR pf e plain (o + 1) r).add 1
    else if isIn plain c = true then (withinR pf e plain o r).add 1
    else match pf (c :: r) with
      | .more => .more
      | .deep a => .deep a
      | .ok n => (withinR pf e plain o (r.drop (n - 1))).add (max n 1)
termination_by t.length
decreasing_by
  all_goals simp
  all_goals omega
theorem within_nil (pf : List UInt8 → Rs) (e : UInt8) (plain : List UInt8) (o : Nat) : withinR pf e plain o [] = .more := by rw [withinR]
theorem within_cons (pf : List UInt8 → Rs) (e : UInt8) (plain : List UInt8) (o : Nat) (c : UInt8) (r : List UInt8) : withinR pf e plain o (c :: r) = if c = e then (if o = 0 then .ok 1 else (withinR pf e plain (o - 1) r).add 1)
    else if e = 41 ∧ c = 40 then (withinR pf e plain (o + 1) r).add 1
    else if isIn plain c = true then (withinR pf e plain o r).add 1
    else match pf (c :: r) with
      | .more => .more
      | .deep a => .deep a
      | .ok n => (withinR pf e plain o (r.drop (n - 1))).add (max n 1) := by rw [withinR]
/-- Does a part begin here? -/
def begs (q : Bool) (t : List UInt8) : Bool := decide (t.take 1 = [92]) || decide (t.take 1 = [96]) || decide (t.take 2 = [36, 40]) || decide (t.take 2 = [36, 123]) || (!q && (decide (t.take 1 = [39]) || decide (t.take 1 = [34])))
def partR : Nat → Bool → List UInt8 → Rs
  | 0, q, t => if begs q t = true then .deep 0 else .ok 0
  | lv + 1, q, t =>
    if begs q t = true then
      if t.take 1 = [92] then (if t.length < 2 then .more else .ok 2)
      else if t.take 1 = [96] then (untilR 96 true (t.drop 1)).add 1
      else if t.take 1 = [39] then (untilR 39 false (t.drop 1)).add 1
      else if t.take 1 = [34] then (withinR (partR lv true) 34 [39] 0 (t.drop 1)).add 1
      else if t.take 3 = [36, 40, 40] then (sumsR 0 (t.drop 3)).add 3
      else if t.take 2 = [36, 40] then (withinR (partR lv false) 41 [] 0 (t.drop 2)).add 2
      else if q = true then (withinR (partR lv true) 125 [39] 0 (t.drop 2)).add 2
      else (withinR (partR lv false) 125 [] 0 (t.drop 2)).add 2
    else .ok 0

end Go.Proofs.Ytnamfafpdlieeaa
