/- Quote and Plain, the program's. -/
import Derived.Test.YtphjafidencdeaaC
import Derived.Test.YtphjafidencdeaaK
import Derived.Lib.Bytealg
import Derived.Lib.Walk
namespace Go.Proofs.Ytphjafidencdeaa
open Go.RowKit
set_option maxRecDepth 100000

theorem str_at' (l : List UInt8) (i : Nat) (h : i < l.length) : (ByteArray.mk l.toArray)[i]'(by rw [sz]; exact h) = l[i] := by
  show l.toArray[i] = l[i]
  simp
theorem idx32 (s : ByteArray) (c : Int) (w : World) :
    Calls Try.prog 32 #[.string s, .int .u8 c] w fun e w' => e = .returned (.int .i64 (Lib.indexByte s.data.toList c.toNat.toUInt8)) ∧ w' = w := by
  go_enter Try.func32, Try.ntmps32
  go_wp2
  rw [run_callFunc_extern Try.func35 (by kernel_rfl) (by kernel_rfl) (by kernel_rfl) (e := Extern.BytealgIndexByte.indexByte) (by kernel_rfl), Lib.run_indexByteString]
  simp only [Result.andThen]
  rw [Oper.upon_value]
  go_wp2
  go_ret
  exact ⟨rfl, rfl⟩
theorem idx23 (s : ByteArray) (c : Int) (w : World) :
    Calls Try.prog 23 #[.string s, .int .u8 c] w fun e w' => e = .returned (.int .i64 (Lib.indexByte s.data.toList c.toNat.toUInt8)) ∧ w' = w := by
  have H := hide (idx32 s c)
  go_enter Try.func23, Try.ntmps23
  go_wp2_with fail
  refine (H.out _).mono ?_
  rintro e w1 ⟨rfl, rfl⟩
  go_wp2
  go_ret
  exact ⟨rfl, rfl⟩

/-- A byte that means more than itself. -/
def special (c : UInt8) : Bool := decide (0 ≤ Lib.indexByte [42, 63, 91, 93, 33, 45, 92] c)
def quote1 (c : UInt8) : List UInt8 := if special c then [92, c] else [c]
def quoteF (s : List UInt8) : List UInt8 := s.flatMap quote1
theorem quoteF_len (s : List UInt8) : (quoteF s).length ≤ 2 * s.length := by
  induction s with
  | nil => exact Nat.le_refl _
  | cons c r ih =>
    have h : quoteF (c :: r) = quote1 c ++ quoteF r := rfl
    have h1 : (quote1 c).length ≤ 2 := by unfold quote1; split <;> simp
    rw [h, List.length_append, List.length_cons]
    omega
theorem quoteF_app (s t : List UInt8) : quoteF (s ++ t) = quoteF s ++ quoteF t := by simp [quoteF]
theorem take_next {s : List UInt8} {i : Nat} (h : i < s.length) : s.take (i + 1) = s.take i ++ [s[i]] := by
  rw [List.take_succ_eq_append_getElem h]

set_option maxHeartbeats 4000000 in
theorem quote_any (s : List UInt8) (w : World) (hs : s.length ≤ 1000000) : Calls Try.prog 12 #[sv s] w fun e w' => e = .returned (sv (quoteF s)) ∧ w.grownBy w' none := by
  have h1 := sz s
  unfold sv
  have Hw := hide (fun bs c w' h1 h2 h3 => b_write w.heap.size w.heap.size bs c w' h1 h2 h3)
  have Hs := hide (fun l w' h1 h2 => b_string w.heap.size w.heap.size l w' h1 h2)
  go_enter Try.func12, Try.ntmps12
  go_wp2_with fail
  go_loopw [7] (fun v wr => ∃ i : Nat, v = .int .i64 i ∧ i ≤ s.length ∧ Lib.IsBuilderF 49 5 w.heap.size w.heap.size (Lib.byteCells (quoteF (s.take i))) wr ∧ Below w.heap.size w wr) (fun v _ => s.length - (intOf v).toNat)
  case atStart => exact ⟨0, rfl, Nat.zero_le _, Lib.IsBuilderF.of (Lib.fresh_isBuilder 49 5 w), (Below.refl _ w).alloc (Nat.le_refl _) _⟩
  case round =>
    obtain ⟨i, rfl, hi, hb, hbw⟩ := hrel
    have HB := hide hb
    have HBw := hide hbw
    have hsz := hbw.size
    have hql := quoteF_len (s.take i)
    rw [List.length_take] at hql
    clear hb hbw
    by_cases hlt : i < s.length
    · have q0 : decide ((i : Int) < (s.length : Int)) = true := by simp; omega
      have hib : (0 : Int) ≤ i ∧ (i : Int) < (s.length : Int) := by omega
      have hat := str_at' s i hlt
      obtain ⟨c, hc⟩ : ∃ c, s[i] = c := ⟨_, rfl⟩
      rw [hc] at hat
      have hx := idx23 ⟨#[42, 63, 91, 93, 33, 45, 92]⟩ c.toNat
      have e1 : ((c.toNat : Int).toNat.toUInt8) = c := by simp
      rw [e1] at hx
      obtain ⟨x, hx0⟩ : ∃ x, Lib.indexByte (ByteArray.mk #[42, 63, 91, 93, 33, 45, 92]).data.toList c = x := ⟨_, rfl⟩
      rw [hx0] at hx
      have hsp : special c = decide (0 ≤ x) := by rw [← hx0]; rfl
      have htk := take_next hlt
      rw [hc] at htk
      have hnx : quoteF (s.take (i + 1)) = quoteF (s.take i) ++ quote1 c := by rw [htk, quoteF_app]; simp [quoteF]
      have Hx := hide hx
      have Hnx := hide hnx
      clear hx htk hnx hc e1 hx0
      by_cases h0 : 0 ≤ x
      · have q1 : decide ((0 : Int) ≤ x) = true := by simpa using h0
        have hq1 : quote1 c = [92] ++ [c] := by unfold quote1; rw [hsp, q1]; rfl
        have Hq1 := hide hq1
        clear hsp hq1
        go_wp2_with fail
        refine (Hx.out _).mono ?_
        rintro e w1 ⟨rfl, rfl⟩
        go_wp2_with fail
        refine (Hw.out _ 92 _ HB.out (by rw [Lib.byteCells_length]; omega) (by omega)).mono ?_
        rintro e w2 ⟨rfl, h2, b2, _⟩
        have hsz2 := b2.size
        have HB2 := hide h2
        have Hb2 := hide b2
        clear h2 b2
        go_wp2_with fail
        refine (Hw.out _ c.toNat _ (.inr HB2.out) (by rw [List.length_append, Lib.byteCells_length]; simp; omega) (by omega)).mono ?_
        rintro e w3 ⟨rfl, h3, b3, _⟩
        have HB3 := hide h3
        have Hb3 := hide b3
        clear h3 b3
        go_wp2
        go_roundw
        case rel =>
          refine ⟨i + 1, by go_num, by omega, ?_, (HBw.out.trans Hb2.out).trans Hb3.out⟩
          rw [Hnx.out, Hq1.out, ← List.append_assoc, Lib.byteCells_append, Lib.byteCells_append]
          exact .inr HB3.out
        case measure => simp [intOf]; omega
      · have q1 : decide ((0 : Int) ≤ x) = false := by simpa using h0
        have hq1 : quote1 c = [c] := by unfold quote1; rw [hsp, q1]; rfl
        have Hq1 := hide hq1
        clear hsp hq1
        go_wp2_with fail
        refine (Hx.out _).mono ?_
        rintro e w1 ⟨rfl, rfl⟩
        go_wp2_with fail
        refine (Hw.out _ c.toNat _ HB.out (by rw [Lib.byteCells_length]; omega) (by omega)).mono ?_
        rintro e w3 ⟨rfl, h3, b3, _⟩
        have HB3 := hide h3
        have Hb3 := hide b3
        clear h3 b3
        go_wp2
        go_roundw
        case rel =>
          refine ⟨i + 1, by go_num, by omega, ?_, HBw.out.trans Hb3.out⟩
          rw [Hnx.out, Hq1.out, Lib.byteCells_append]
          exact .inr HB3.out
        case measure => simp [intOf]; omega
    · have q0 : decide ((i : Int) < (s.length : Int)) = false := by simp; omega
      have he : s.take i = s := List.take_of_length_le (by omega)
      rw [he] at HB
      go_wp2_with fail
      refine (Hs.out _ _ HB.out (by omega)).mono ?_
      rintro e w1 ⟨rfl, _, b1, _⟩
      go_wp2
      go_ret
      exact ⟨rfl, none_of_below (HBw.out.trans b1)⟩

/-- A pattern without what quotes. -/
def plainF : List UInt8 → List UInt8
  | [] => []
  | [c] => [c]
  | c :: d :: r => if c = 92 then d :: plainF r else c :: plainF (d :: r)
theorem plainF_step {l : List UInt8} (h : l ≠ []) : plainF l = (quo l).1 :: plainF (l.drop (quo l).2) := by
  match l, h with
  | [c], _ => rfl
  | c :: d :: r, _ =>
    show (if c = 92 then d :: plainF r else c :: plainF (d :: r)) = _
    by_cases hc : c = 92
    · have e : quo (c :: d :: r) = (d, 2) := by simp [quo, hc]
      rw [if_pos hc, e]; rfl
    · have e : quo (c :: d :: r) = (c, 1) := by simp [quo, hc]
      rw [if_neg hc, e]; rfl
theorem plainF_len : ∀ l : List UInt8, (plainF l).length ≤ l.length
  | [] => Nat.le_refl _
  | [c] => Nat.le_refl _
  | c :: d :: r => by
    show (if c = 92 then d :: plainF r else c :: plainF (d :: r)).length ≤ r.length + 1 + 1
    have h1 := plainF_len r
    have h2 := plainF_len (d :: r)
    rw [List.length_cons] at h2
    split
    · rw [List.length_cons]; omega
    · rw [List.length_cons]; omega
def lenV (v : Value) : Nat := match v with
  | .string s => s.size
  | _ => 0

set_option maxHeartbeats 4000000 in
theorem plain_any (p : List UInt8) (w : World) (hp : p.length ≤ 1000000) : Calls Try.prog 15 #[sv p] w fun e w' => e = .returned (sv (plainF p)) ∧ w.grownBy w' none := by
  unfold sv
  have Hw := hide (fun bs c w' h1 h2 h3 => b_write w.heap.size w.heap.size bs c w' h1 h2 h3)
  have Hs := hide (fun l w' h1 h2 => b_string w.heap.size w.heap.size l w' h1 h2)
  go_enter Try.func15, Try.ntmps15
  go_wp2_with fail
  go_loopw [0] (fun v wr => ∃ acc l : List UInt8, v = .string ⟨l.toArray⟩ ∧ acc.length + l.length ≤ p.length ∧ Lib.IsBuilderF 49 5 w.heap.size w.heap.size (Lib.byteCells acc) wr ∧ Below w.heap.size w wr ∧ acc ++ plainF l = plainF p) (fun v _ => lenV v)
  case atStart => exact ⟨[], p, rfl, by simp, Lib.IsBuilderF.of (Lib.fresh_isBuilder 49 5 w), (Below.refl _ w).alloc (Nat.le_refl _) _, rfl⟩
  case round =>
    obtain ⟨acc, l, rfl, hl, hb, hbw, hpl⟩ := hrel
    have HB := hide hb
    have HBw := hide hbw
    have Hpl := hide hpl
    have hsz := hbw.size
    clear hb hbw hpl
    by_cases h0 : l = []
    · subst h0
      go_wp2_with fail
      refine (Hs.out _ _ HB.out (by omega)).mono ?_
      rintro e w1 ⟨rfl, _, b1, _⟩
      go_wp2
      go_ret
      have := Hpl.out
      rw [show plainF [] = [] from rfl, List.append_nil] at this
      rw [this]
      exact ⟨rfl, none_of_below (HBw.out.trans b1)⟩
    · have he : l.isEmpty = false := by simpa using h0
      have hq : ((ByteArray.mk l.toArray) == ByteArray.mk #[]) = false := by
        have := sv_beq l []
        rw [this, beq_eq_false_iff_ne]
        exact h0
      have hne : ((ByteArray.mk l.toArray) != ByteArray.mk #[]) = true := by simp only [bne, hq]; rfl
      have Hq := hide (quoted_any l wr h0 (by omega))
      have hq1 := quo_pos h0
      have hq2 := quo_len l
      have hst := plainF_step h0
      obtain ⟨c, hc⟩ : ∃ c, (quo l).1 = c := ⟨_, rfl⟩
      obtain ⟨k, hk⟩ : ∃ k, (quo l).2 = k := ⟨_, rfl⟩
      unfold quoV sv at Hq
      rw [hc, hk] at Hq hst
      rw [hk] at hq1 hq2
      have Hst := hide hst
      have h1 := sz l
      have hext := ext_drop l k l.length rfl
      have hib : (0 : Int) ≤ k ∧ (k : Int) ≤ (l.length : Int) := by omega
      clear hst hc hk h0
      go_wp2_with fail
      refine Hq.out.mono ?_
      rintro e w1 ⟨rfl, rfl⟩
      go_wp2_with fail
      refine (Hw.out _ c.toNat _ HB.out (by rw [Lib.byteCells_length]; omega) (by omega)).mono ?_
      rintro e w3 ⟨rfl, h3, b3, _⟩
      have HB3 := hide h3
      have Hb3 := hide b3
      clear h3 b3
      go_wp2
      go_roundw
      case rel =>
        refine ⟨acc ++ [c], l.drop k, rfl, by rw [List.length_append, List.length_drop]; simp; omega, ?_, HBw.out.trans Hb3.out, ?_⟩
        · rw [Lib.byteCells_append]
          exact .inr HB3.out
        · rw [List.append_assoc]
          have := Hpl.out
          rw [Hst.out] at this
          exact this
      case measure =>
        unfold lenV
        simp only [sz, List.length_drop]
        omega

end Go.Proofs.Ytphjafidencdeaa
