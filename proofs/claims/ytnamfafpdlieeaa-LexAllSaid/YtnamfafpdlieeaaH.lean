/- The reader: blank. -/
import Derived.Test.YtnamfafpdlieeaaG
set_option linter.all false
namespace Go.Proofs.Ytnamfafpdlieeaa
open Go.RowKit
set_option maxRecDepth 100000

/-- How many bytes are let by. -/
def blankF (t : List UInt8) : Nat :=
  match t with
  | [] => 0
  | c :: r =>
    if c = 32 ∨ c = 9 then 1 + blankF r
    else if (c :: r).take 2 = [92, 10] then 2 + blankF (r.drop 1)
    else if c = 35 then ((c :: r).takeWhile (· != 10)).length
    else 0
termination_by t.length
decreasing_by
  all_goals simp
  all_goals omega
theorem blank_nil : blankF [] = 0 := by rw [blankF]
theorem blank_cons (c : UInt8) (r : List UInt8) : blankF (c :: r) = if c = 32 ∨ c = 9 then 1 + blankF r
    else if (c :: r).take 2 = [92, 10] then 2 + blankF (r.drop 1)
    else if c = 35 then ((c :: r).takeWhile (· != 10)).length
    else 0 := by rw [blankF]
theorem idx_while (t : List UInt8) : (Lib.indexByte t 10 < 0 → (t.takeWhile (· != 10)).length = t.length) ∧ (0 ≤ Lib.indexByte t 10 → ((t.takeWhile (· != 10)).length : Int) = Lib.indexByte t 10 ∧ (t.drop (t.takeWhile (· != 10)).length).head? = some 10) := by
  induction t with
  | nil => exact ⟨fun _ => rfl, fun h => absurd h (by decide)⟩
  | cons b l ih =>
    have hu : Lib.indexByte (b :: l) 10 = if b == 10 then 0 else if Lib.indexByte l 10 == -1 then -1 else Lib.indexByte l 10 + 1 := rfl
    have hge := Lib.indexByte_ge l 10
    rw [hu]
    by_cases hb : b = 10
    · subst hb
      exact ⟨fun h => absurd h (by simp), fun _ => ⟨rfl, rfl⟩⟩
    · have e1 : (b == 10) = false := by rw [beq_eq_false_iff_ne]; exact hb
      have e2 : (b != 10) = true := by simp only [bne, e1]; rfl
      rw [show List.takeWhile (fun x : UInt8 => x != 10) (b :: l) = b :: l.takeWhile (fun x => x != 10) from by simp [List.takeWhile_cons, e2], e1, List.length_cons, List.length_cons]
      by_cases h1 : Lib.indexByte l 10 = -1
      · have e3 : (Lib.indexByte l 10 == -1) = true := by rw [beq_iff_eq]; exact h1
        rw [e3]
        exact ⟨fun _ => by rw [ih.1 (by omega)], fun h => absurd h (by simp)⟩
      · have e3 : (Lib.indexByte l 10 == -1) = false := by rw [beq_eq_false_iff_ne]; exact h1
        rw [e3]
        obtain ⟨i1, i2⟩ := ih.2 (by omega)
        refine ⟨fun h => ?_, fun _ => ⟨?_, ?_⟩⟩
        · exfalso
          have : Lib.indexByte l 10 + 1 < 0 := h
          omega
        · show (((l.takeWhile (· != 10)).length + 1 : Nat) : Int) = Lib.indexByte l 10 + 1
          omega
        · rw [List.drop_succ_cons]; exact i2
theorem blank_lf {t : List UInt8} (h : t.head? = some 10) : blankF t = 0 := by
  cases t with
  | nil => rw [blank_nil]
  | cons c r =>
    injection h with h
    subst h
    rw [blank_cons, if_neg (by decide), if_neg, if_neg (by decide)]
    intro e
    cases r with
    | nil => cases e
    | cons d r => injection e with e _; exact absurd e (by decide)
theorem blank_le : ∀ (L : Nat) (t : List UInt8), t.length = L → blankF t ≤ t.length := by
  intro L
  induction L using Nat.strongRecOn with
  | ind L ih =>
    intro t hL
    match t, hL with
    | [], _ => rw [blank_nil]; exact Nat.zero_le _
    | c :: r, hL =>
      rw [List.length_cons] at hL
      rw [blank_cons, List.length_cons]
      split
      · have := ih _ (by omega) r rfl; omega
      · split
        · rename_i h2
          have h3 := take_len h2
          have := ih _ (by rw [List.length_drop]; omega) (r.drop 1) rfl
          rw [List.length_drop] at this
          simp at h3
          omega
        · split
          · have := (List.takeWhile_prefix (fun x : UInt8 => x != 10) (l := c :: r)).length_le
            rw [List.length_cons] at this
            exact this
          · exact Nat.zero_le _

set_option maxHeartbeats 2000000 in
theorem blank_any (rb d i : Nat) (l : List UInt8) (w : World) (h : RAt w rb l d) (hi : i ≤ l.length) (hl : l.length ≤ 1000000) :
    Calls Try.prog 19 #[.pointer (some ⟨rb, 0, none⟩), .int .i64 i] w fun e w' => e = .returned (.int .i64 ((i : Int) + blankF (l.drop i))) ∧ w' = w := by
  have Hat := hide (fun k hk => at_any rb d k l [92, 10] w h hk hl (by decide))
  unfold sv at Hat
  have Hidx := hide (fun (t : List UInt8) w' => idx26 ⟨t.toArray⟩ 10 w')
  have c0 := h.c0
  have hlt := Blk.lt h
  have h1 := sz l
  have hext : ∀ n, (ByteArray.mk l.toArray).extract n l.length = ⟨(l.drop n).toArray⟩ := fun n => ext_drop l n _ rfl
  obtain ⟨R, hR⟩ : ∃ R, i + blankF (l.drop i) = R := ⟨_, rfl⟩
  have hout : (i : Int) + blankF (l.drop i) = R := by omega
  rw [hout]
  have HR0 := hide hR
  clear hR hout h
  go_enter Try.func19, Try.ntmps19
  go_wp2_with fail
  go_loopw [1] (fun v wr => ∃ k : Nat, v = .int .i64 k ∧ k ≤ l.length ∧ k + blankF (l.drop k) = R ∧ wr = w) (fun v _ => l.length + 1 - (intOf v).toNat)
  case atStart => exact ⟨i, rfl, hi, HR0.out, rfl⟩
  case round =>
    obtain ⟨k, rfl, hk, hres, rfl⟩ := hrel
    have HR := hide hres
    clear hres
    by_cases hlt2 : k < l.length
    · have q0 : decide ((k : Int) < (l.length : Int)) = true := decide_eq_true (by omega)
      have hat := str_at' l k hlt2
      have hib : (0 : Int) ≤ k ∧ (k : Int) < (l.length : Int) := by omega
      have hib2 : (0 : Int) ≤ k ∧ (k : Int) ≤ (l.length : Int) := by omega
      have hdr := drop_at hlt2
      obtain ⟨c, hc⟩ : ∃ c, l[k] = c := ⟨_, rfl⟩
      rw [hc] at hat hdr
      have hst := blank_cons c (l.drop (k + 1))
      rw [← hdr] at hst
      have hHat := Hat.out k (by omega)
      have hdd : (l.drop (k + 1)).drop 1 = l.drop (k + 2) := by rw [List.drop_drop]
      by_cases hb : c = 32 ∨ c = 9
      · rw [if_pos hb] at hst
        have Hst := hide hst
        clear hst hdr hc hHat
        rcases hb with rfl | rfl
        all_goals
          go_wp2_with fail
          go_roundw
          case rel => exact ⟨k + 1, by go_num, by omega, by rw [← HR.out, Hst.out]; omega, trivial⟩
          case measure => simp [intOf]; omega
      rw [if_neg hb] at hst
      have n1 : ((c.toNat : Int) == 32) = false := byte_ne (d := 32) (fun e => hb (.inl e))
      have n2 : ((c.toNat : Int) == 9) = false := byte_ne (d := 9) (fun e => hb (.inr e))
      by_cases h2 : (l.drop k).take 2 = [92, 10]
      · rw [if_pos h2, hdd] at hst
        have h3 := take_len h2
        rw [List.length_drop] at h3
        simp at h3
        have hd2 : decide ((l.drop k).take [(92 : UInt8), 10].length = [92, 10]) = true := decide_eq_true h2
        rw [hd2] at hHat
        have HHat := hide hHat
        have Hst := hide hst
        clear hst hdr hc hHat hb h2 hd2
        go_wp2_with fail
        refine HHat.out.mono ?_
        rintro e w2 ⟨rfl, rfl⟩
        go_wp2_with fail
        go_roundw
        case rel => exact ⟨k + 2, by go_num, by omega, by rw [← HR.out, Hst.out]; omega, trivial⟩
        case measure => simp [intOf]; omega
      rw [if_neg h2] at hst
      have hd2 : decide ((l.drop k).take [(92 : UInt8), 10].length = [92, 10]) = false := decide_eq_false h2
      rw [hd2] at hHat
      have HHat := hide hHat
      by_cases h35 : c = 35
      · rw [if_pos h35] at hst
        subst h35
        have hw := idx_while (l.drop k)
        have hwl := (List.takeWhile_prefix (fun x : UInt8 => x != 10) (l := l.drop k)).length_le
        rw [List.length_drop] at hwl
        have hx := fun w' => Hidx.out (l.drop k) w'
        have e1 : ((10 : Int).toNat.toUInt8) = 10 := rfl
        rw [e1] at hx
        obtain ⟨x, hx0⟩ : ∃ x, Lib.indexByte (ByteArray.mk (l.drop k).toArray).data.toList 10 = x := ⟨_, rfl⟩
        rw [hx0] at hx
        have hx1 : Lib.indexByte (l.drop k) 10 = x := by rw [← hx0]
        rw [hx1] at hw
        obtain ⟨n, hn⟩ : ∃ n, ((l.drop k).takeWhile (· != 10)).length = n := ⟨_, rfl⟩
        rw [hn] at hw hst hwl
        have Hx := hide hx
        by_cases h0 : x < 0
        · have q3 : decide (x < 0) = true := decide_eq_true h0
          have hn2 := hw.1 h0
          rw [List.length_drop] at hn2
          have Hfin := hide (show R = l.length by rw [← HR.out, hst]; omega)
          clear hst hdr hc hHat hb h2 hd2 hw hx hx0 hx1 hn
          go_wp2_with fail
          refine HHat.out.mono ?_
          rintro e w2 ⟨rfl, rfl⟩
          go_wp2_with fail
          refine (Hx.out _).mono ?_
          rintro e w2 ⟨rfl, rfl⟩
          go_wp2_with fail
          go_ret
          exact ⟨by rw [Hfin.out]; rfl, rfl⟩
        · have q3 : decide (x < 0) = false := decide_eq_false h0
          obtain ⟨hn2, hhd⟩ := hw.2 (by omega)
          have hbl := blank_lf hhd
          rw [List.drop_drop] at hbl
          obtain rfl : x = n := hn2.symm
          have Hfin := hide (show k + n + blankF (l.drop (k + n)) = R by rw [hbl, ← HR.out, hst]; rfl)
          have hn1 : 1 ≤ n := by
            rw [← hn, hdr, show List.takeWhile (fun x : UInt8 => x != 10) (35 :: l.drop (k + 1)) = 35 :: (l.drop (k + 1)).takeWhile (fun x => x != 10) from by simp [List.takeWhile_cons], List.length_cons]
            omega
          clear hst hdr hc hHat hb h2 hd2 hw hx hx0 hx1 hn hhd hbl
          go_wp2_with fail
          refine HHat.out.mono ?_
          rintro e w2 ⟨rfl, rfl⟩
          go_wp2_with fail
          refine (Hx.out _).mono ?_
          rintro e w2 ⟨rfl, rfl⟩
          go_wp2_with fail
          go_roundw
          case rel => exact ⟨k + n, by go_num, by omega, Hfin.out, trivial⟩
          case measure => simp [intOf]; omega
      · rw [if_neg h35] at hst
        have n3 : ((c.toNat : Int) == 35) = false := byte_ne (d := 35) h35
        have Hfin := hide (show R = k by rw [← HR.out, hst]; omega)
        clear hst hdr hc hHat hb h2 hd2 h35
        go_wp2_with fail
        refine HHat.out.mono ?_
        rintro e w2 ⟨rfl, rfl⟩
        go_wp2_with fail
        go_ret
        exact ⟨by rw [Hfin.out]; rfl, rfl⟩
    · have q0 : decide ((k : Int) < (l.length : Int)) = false := decide_eq_false (by omega)
      have Hfin := hide (show R = k by rw [← HR.out, List.drop_eq_nil_of_le (by omega), blank_nil]; omega)
      go_wp2_with fail
      go_ret
      exact ⟨by rw [Hfin.out]; rfl, rfl⟩

end Go.Proofs.Ytnamfafpdlieeaa
