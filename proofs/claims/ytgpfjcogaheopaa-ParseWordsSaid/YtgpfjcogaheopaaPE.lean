/- The parser's small functions, further: reserved, named, redirects, compounds, begins, wrong. -/
import Derived.Test.YtgpfjcogaheopaaPD
import Derived.BigQuiet
set_option linter.all false
namespace Go.Proofs.Ytgpfjcogaheopaa
open Go.RowKit Lx
set_option maxRecDepth 100000

theorem post_panicP {P : Program} {fn : Func} {R : Ending → World → Prop} {a : Act} {w : World} {chain : List PanicEntry} (hd : a.defers = []) (h : R (.panicked chain) w) : bodyPost P fn R (.panic chain) a w := by
  first
    | exact ⟨hd, h⟩
    | exact h
    | exact ⟨h, hd⟩
set_option maxHeartbeats 4000000 in
theorem reserved_any (s : List UInt8) (w : World) : Calls Try.prog 58 #[sv s] w fun e w' => e = .returned (.bool (resB s)) ∧ w.grownBy w' none := by
  unfold sv
  by_cases h0 : s = [33]
  · subst h0
    go_enter Try.func58, Try.ntmps58
    go_wp2_with fail
    go_ret
    exact ⟨ret_bool (a := true) (by decide), only_refl w none⟩
  have b0 : (s == [33]) = false := beq_eq_false_iff_ne.2 h0
  by_cases h1 : s = [123]
  · subst h1
    go_enter Try.func58, Try.ntmps58
    go_wp2_with fail
    go_ret
    exact ⟨ret_bool (a := true) (by decide), only_refl w none⟩
  have b1 : (s == [123]) = false := beq_eq_false_iff_ne.2 h1
  by_cases h2 : s = [125]
  · subst h2
    go_enter Try.func58, Try.ntmps58
    go_wp2_with fail
    go_ret
    exact ⟨ret_bool (a := true) (by decide), only_refl w none⟩
  have b2 : (s == [125]) = false := beq_eq_false_iff_ne.2 h2
  by_cases h3 : s = [99, 97, 115, 101]
  · subst h3
    go_enter Try.func58, Try.ntmps58
    go_wp2_with fail
    go_ret
    exact ⟨ret_bool (a := true) (by decide), only_refl w none⟩
  have b3 : (s == [99, 97, 115, 101]) = false := beq_eq_false_iff_ne.2 h3
  by_cases h4 : s = [100, 111]
  · subst h4
    go_enter Try.func58, Try.ntmps58
    go_wp2_with fail
    go_ret
    exact ⟨ret_bool (a := true) (by decide), only_refl w none⟩
  have b4 : (s == [100, 111]) = false := beq_eq_false_iff_ne.2 h4
  by_cases h5 : s = [100, 111, 110, 101]
  · subst h5
    go_enter Try.func58, Try.ntmps58
    go_wp2_with fail
    go_ret
    exact ⟨ret_bool (a := true) (by decide), only_refl w none⟩
  have b5 : (s == [100, 111, 110, 101]) = false := beq_eq_false_iff_ne.2 h5
  by_cases h6 : s = [101, 108, 105, 102]
  · subst h6
    go_enter Try.func58, Try.ntmps58
    go_wp2_with fail
    go_ret
    exact ⟨ret_bool (a := true) (by decide), only_refl w none⟩
  have b6 : (s == [101, 108, 105, 102]) = false := beq_eq_false_iff_ne.2 h6
  by_cases h7 : s = [101, 108, 115, 101]
  · subst h7
    go_enter Try.func58, Try.ntmps58
    go_wp2_with fail
    go_ret
    exact ⟨ret_bool (a := true) (by decide), only_refl w none⟩
  have b7 : (s == [101, 108, 115, 101]) = false := beq_eq_false_iff_ne.2 h7
  by_cases h8 : s = [101, 115, 97, 99]
  · subst h8
    go_enter Try.func58, Try.ntmps58
    go_wp2_with fail
    go_ret
    exact ⟨ret_bool (a := true) (by decide), only_refl w none⟩
  have b8 : (s == [101, 115, 97, 99]) = false := beq_eq_false_iff_ne.2 h8
  by_cases h9 : s = [102, 105]
  · subst h9
    go_enter Try.func58, Try.ntmps58
    go_wp2_with fail
    go_ret
    exact ⟨ret_bool (a := true) (by decide), only_refl w none⟩
  have b9 : (s == [102, 105]) = false := beq_eq_false_iff_ne.2 h9
  by_cases h10 : s = [102, 111, 114]
  · subst h10
    go_enter Try.func58, Try.ntmps58
    go_wp2_with fail
    go_ret
    exact ⟨ret_bool (a := true) (by decide), only_refl w none⟩
  have b10 : (s == [102, 111, 114]) = false := beq_eq_false_iff_ne.2 h10
  by_cases h11 : s = [105, 102]
  · subst h11
    go_enter Try.func58, Try.ntmps58
    go_wp2_with fail
    go_ret
    exact ⟨ret_bool (a := true) (by decide), only_refl w none⟩
  have b11 : (s == [105, 102]) = false := beq_eq_false_iff_ne.2 h11
  by_cases h12 : s = [105, 110]
  · subst h12
    go_enter Try.func58, Try.ntmps58
    go_wp2_with fail
    go_ret
    exact ⟨ret_bool (a := true) (by decide), only_refl w none⟩
  have b12 : (s == [105, 110]) = false := beq_eq_false_iff_ne.2 h12
  by_cases h13 : s = [116, 104, 101, 110]
  · subst h13
    go_enter Try.func58, Try.ntmps58
    go_wp2_with fail
    go_ret
    exact ⟨ret_bool (a := true) (by decide), only_refl w none⟩
  have b13 : (s == [116, 104, 101, 110]) = false := beq_eq_false_iff_ne.2 h13
  by_cases h14 : s = [117, 110, 116, 105, 108]
  · subst h14
    go_enter Try.func58, Try.ntmps58
    go_wp2_with fail
    go_ret
    exact ⟨ret_bool (a := true) (by decide), only_refl w none⟩
  have b14 : (s == [117, 110, 116, 105, 108]) = false := beq_eq_false_iff_ne.2 h14
  by_cases h15 : s = [119, 104, 105, 108, 101]
  · subst h15
    go_enter Try.func58, Try.ntmps58
    go_wp2_with fail
    go_ret
    exact ⟨ret_bool (a := true) (by decide), only_refl w none⟩
  have b15 : (s == [119, 104, 105, 108, 101]) = false := beq_eq_false_iff_ne.2 h15
  have hno : resB s = false := by
    unfold resB resW
    simp only [List.contains_cons, List.contains_nil, Bool.or_false]
    simp only [wBang, wOpen, wClose, wCase, wDo, wDone, wElif, wElse, wEsac, wFi, wFor, wIf, wIn, wThen, wUntil, wWhile, b0, b1, b2, b3, b4, b5, b6, b7, b8, b9, b10, b11, b12, b13, b14, b15, Bool.or_false]
  have HN := hide hno
  clear hno
  go_enter Try.func58, Try.ntmps58
  go_wp2_with fail
  go_ret
  exact ⟨ret_bool (a := false) (by rw [HN.out]), only_refl w none⟩

/-- A slice of texts. -/
def StrL (w : World) (a : Option Addr) (ss : List (List UInt8)) : Prop := ∀ i (h : i < ss.length), ∃ b off, a = some ⟨b, off, none⟩ ∧ b < w.heap.size ∧ w.cell? ⟨b, off + i, none⟩ = some (sv ss[i])
def IxPost (ss : List (List UInt8)) (s : List UInt8) (w : World) (e : Ending) (w' : World) : Prop := ∃ n : Int, e = .returned (.int .i64 n) ∧ decide (0 ≤ n) = ss.contains s ∧ w' = w
set_option maxHeartbeats 2000000 in
theorem index_any (ss : List (List UInt8)) (s : List UInt8) (a : Option Addr) (cap : Nat) (w : World) (h1 : StrL w a ss) (hl : ss.length ≤ 1000000) :
    Calls Try.prog 83 #[.slice a ss.length cap, sv s] w (IxPost ss s w) := by
  have HA := hide h1
  clear h1
  unfold sv
  go_enter Try.func83, Try.ntmps83
  go_wp2_with fail
  go_loop [8] (fun v8 => ∃ k : Nat, v8 = .int .i64 k ∧ k ≤ ss.length ∧ ∀ i (hi : i < ss.length), i < k → ss[i] ≠ s) (fun v8 => ss.length - (intOf v8).toNat)
  case atStart => exact ⟨0, rfl, Nat.zero_le _, fun i _ h => absurd h (by omega)⟩
  case round =>
    obtain ⟨k, rfl, hk, hno⟩ := hrel
    have HNO := hide hno
    clear hno
    by_cases hlt : k < ss.length
    · have q0 : decide ((k : Int) < (ss.length : Int)) = true := decide_eq_true (by omega)
      have hib : (0 : Int) ≤ k ∧ (k : Int) < (ss.length : Int) := by omega
      obtain ⟨b1, o1, rfl, hb1, p1⟩ := HA.out k hlt
      by_cases he : ss[k] = s
      · have HIN := hide (show decide ((0 : Int) ≤ (k : Int)) = ss.contains s by rw [decide_eq_true (by omega)]; symm; rw [List.contains_iff_mem]; exact he ▸ List.getElem_mem hlt)
        rw [he] at p1
        unfold sv at p1
        have qs : (s == s) = true := by simp
        clear he
        go_wp2_with fail
        go_ret
        exact ⟨(k : Int), rfl, HIN.out, rfl⟩
      · have HN1 := hide (fun i (hi : i < ss.length) (h : i < k + 1) => (if e : i = k then (by subst e; exact he) else HNO.out i hi (by omega) : ss[i] ≠ s))
        have qs : (s == ss[k]) = false := beq_eq_false_iff_ne.2 (fun e => he e.symm)
        obtain ⟨x, hx⟩ : ∃ x, ss[k] = x := ⟨_, rfl⟩
        rw [hx] at p1 qs
        unfold sv at p1
        clear hx he
        go_wp2_with fail
        go_round
        case rel => exact ⟨k + 1, by go_num, by omega, HN1.out⟩
        case measure => simp [intOf]; omega
    · obtain rfl : k = ss.length := by omega
      have q0 : decide ((ss.length : Int) < (ss.length : Int)) = false := decide_eq_false (by omega)
      have HNI := hide (show decide ((0 : Int) ≤ -1) = ss.contains s by
        rw [show decide ((0 : Int) ≤ -1) = false from rfl]
        symm
        rw [← Bool.not_eq_true, List.contains_iff_mem]
        intro hm
        obtain ⟨i, hi, he⟩ := List.getElem_of_mem hm
        exact HNO.out i hi hi he)
      go_wp2_with fail
      go_ret
      exact ⟨-1, rfl, HNI.out, rfl⟩
set_option maxHeartbeats 1000000 in
theorem contains_any (ss : List (List UInt8)) (s : List UInt8) (a : Option Addr) (cap : Nat) (w : World) (h1 : StrL w a ss) (hl : ss.length ≤ 1000000) :
    Calls Try.prog 66 #[.slice a ss.length cap, sv s] w fun e w' => e = .returned (.bool (ss.contains s)) ∧ w' = w := by
  have Hi := hide (index_any ss s a cap w h1 hl)
  clear h1
  unfold sv at Hi ⊢
  obtain ⟨B, hB⟩ : ∃ B, ss.contains s = B := ⟨_, rfl⟩
  unfold IxPost at Hi
  rw [hB] at Hi ⊢
  clear hB
  go_enter Try.func66, Try.ntmps66
  go_wp2_with fail
  refine Hi.out.mono ?_
  rintro e w1 ⟨n, rfl, hn, rfl⟩
  have HN := hide hn
  clear hn
  go_wp2_with fail
  go_ret
  exact ⟨ret_bool HN.out, rfl⟩
def tokV (t : Tok) : Value := .agg #[.int .i64 t.k, sv t.t, .int .i64 t.a]
set_option maxHeartbeats 4000000 in
theorem compounds_any (t : Tok) (w : World) : Calls Try.prog 56 #[tokV t] w fun e w' => e = .returned (.bool (cmpB t)) ∧ w.grownBy w' none := by
  obtain ⟨tk, s, ta⟩ := t
  have HC := hide (show cmpB ⟨tk, s, ta⟩ = ((tk == 2 && s == sPar) || (tk == 1 && cmpW.contains s)) from rfl)
  unfold tokV sv
  by_cases h0 : s = [40]
  · subst h0
    by_cases hk : tk = 2
    · subst hk
      go_enter Try.func56, Try.ntmps56
      go_wp2_with fail
      go_ret
      exact ⟨ret_bool (a := true) (by rw [HC.out]; rfl), only_alloc (only_refl w none) _⟩
    · have q : ((tk : Int) == 2) = false := by rw [beq_eq_false_iff_ne]; omega
      have HQ := hide (show (tk == 2) = false by rw [beq_eq_false_iff_ne]; exact hk)
      have HC2 := hide (show ((tk == 2 && [40] == sPar) || (tk == 1 && cmpW.contains [40])) = false by rw [show cmpW.contains [40] = false from rfl, HQ.out]; simp)
      go_enter Try.func56, Try.ntmps56
      go_wp2_with fail
      go_ret
      exact ⟨ret_bool (a := false) (by rw [HC.out, HC2.out]), only_alloc (only_refl w none) _⟩
  have b0 : (s == [40]) = false := beq_eq_false_iff_ne.2 h0
  by_cases h1 : s = [123]
  · subst h1
    by_cases hk : tk = 1
    · subst hk
      go_enter Try.func56, Try.ntmps56
      go_wp2_with fail
      go_ret
      exact ⟨ret_bool (a := true) (by rw [HC.out]; rfl), only_alloc (only_refl w none) _⟩
    · have q : ((tk : Int) == 1) = false := by rw [beq_eq_false_iff_ne]; omega
      have HQ := hide (show (tk == 1) = false by rw [beq_eq_false_iff_ne]; exact hk)
      have HC2 := hide (show ((tk == 2 && [123] == sPar) || (tk == 1 && cmpW.contains [123])) = false by rw [show ([123] == sPar) = false from rfl, HQ.out]; simp)
      go_enter Try.func56, Try.ntmps56
      go_wp2_with fail
      go_ret
      exact ⟨ret_bool (a := false) (by rw [HC.out, HC2.out]), only_alloc (only_refl w none) _⟩
  have b1 : (s == [123]) = false := beq_eq_false_iff_ne.2 h1
  by_cases h2 : s = [105, 102]
  · subst h2
    by_cases hk : tk = 1
    · subst hk
      go_enter Try.func56, Try.ntmps56
      go_wp2_with fail
      go_ret
      exact ⟨ret_bool (a := true) (by rw [HC.out]; rfl), only_alloc (only_refl w none) _⟩
    · have q : ((tk : Int) == 1) = false := by rw [beq_eq_false_iff_ne]; omega
      have HQ := hide (show (tk == 1) = false by rw [beq_eq_false_iff_ne]; exact hk)
      have HC2 := hide (show ((tk == 2 && [105, 102] == sPar) || (tk == 1 && cmpW.contains [105, 102])) = false by rw [show ([105, 102] == sPar) = false from rfl, HQ.out]; simp)
      go_enter Try.func56, Try.ntmps56
      go_wp2_with fail
      go_ret
      exact ⟨ret_bool (a := false) (by rw [HC.out, HC2.out]), only_alloc (only_refl w none) _⟩
  have b2 : (s == [105, 102]) = false := beq_eq_false_iff_ne.2 h2
  by_cases h3 : s = [119, 104, 105, 108, 101]
  · subst h3
    by_cases hk : tk = 1
    · subst hk
      go_enter Try.func56, Try.ntmps56
      go_wp2_with fail
      go_ret
      exact ⟨ret_bool (a := true) (by rw [HC.out]; rfl), only_alloc (only_refl w none) _⟩
    · have q : ((tk : Int) == 1) = false := by rw [beq_eq_false_iff_ne]; omega
      have HQ := hide (show (tk == 1) = false by rw [beq_eq_false_iff_ne]; exact hk)
      have HC2 := hide (show ((tk == 2 && [119, 104, 105, 108, 101] == sPar) || (tk == 1 && cmpW.contains [119, 104, 105, 108, 101])) = false by rw [show ([119, 104, 105, 108, 101] == sPar) = false from rfl, HQ.out]; simp)
      go_enter Try.func56, Try.ntmps56
      go_wp2_with fail
      go_ret
      exact ⟨ret_bool (a := false) (by rw [HC.out, HC2.out]), only_alloc (only_refl w none) _⟩
  have b3 : (s == [119, 104, 105, 108, 101]) = false := beq_eq_false_iff_ne.2 h3
  by_cases h4 : s = [117, 110, 116, 105, 108]
  · subst h4
    by_cases hk : tk = 1
    · subst hk
      go_enter Try.func56, Try.ntmps56
      go_wp2_with fail
      go_ret
      exact ⟨ret_bool (a := true) (by rw [HC.out]; rfl), only_alloc (only_refl w none) _⟩
    · have q : ((tk : Int) == 1) = false := by rw [beq_eq_false_iff_ne]; omega
      have HQ := hide (show (tk == 1) = false by rw [beq_eq_false_iff_ne]; exact hk)
      have HC2 := hide (show ((tk == 2 && [117, 110, 116, 105, 108] == sPar) || (tk == 1 && cmpW.contains [117, 110, 116, 105, 108])) = false by rw [show ([117, 110, 116, 105, 108] == sPar) = false from rfl, HQ.out]; simp)
      go_enter Try.func56, Try.ntmps56
      go_wp2_with fail
      go_ret
      exact ⟨ret_bool (a := false) (by rw [HC.out, HC2.out]), only_alloc (only_refl w none) _⟩
  have b4 : (s == [117, 110, 116, 105, 108]) = false := beq_eq_false_iff_ne.2 h4
  by_cases h5 : s = [102, 111, 114]
  · subst h5
    by_cases hk : tk = 1
    · subst hk
      go_enter Try.func56, Try.ntmps56
      go_wp2_with fail
      go_ret
      exact ⟨ret_bool (a := true) (by rw [HC.out]; rfl), only_alloc (only_refl w none) _⟩
    · have q : ((tk : Int) == 1) = false := by rw [beq_eq_false_iff_ne]; omega
      have HQ := hide (show (tk == 1) = false by rw [beq_eq_false_iff_ne]; exact hk)
      have HC2 := hide (show ((tk == 2 && [102, 111, 114] == sPar) || (tk == 1 && cmpW.contains [102, 111, 114])) = false by rw [show ([102, 111, 114] == sPar) = false from rfl, HQ.out]; simp)
      go_enter Try.func56, Try.ntmps56
      go_wp2_with fail
      go_ret
      exact ⟨ret_bool (a := false) (by rw [HC.out, HC2.out]), only_alloc (only_refl w none) _⟩
  have b5 : (s == [102, 111, 114]) = false := beq_eq_false_iff_ne.2 h5
  by_cases h6 : s = [99, 97, 115, 101]
  · subst h6
    by_cases hk : tk = 1
    · subst hk
      go_enter Try.func56, Try.ntmps56
      go_wp2_with fail
      go_ret
      exact ⟨ret_bool (a := true) (by rw [HC.out]; rfl), only_alloc (only_refl w none) _⟩
    · have q : ((tk : Int) == 1) = false := by rw [beq_eq_false_iff_ne]; omega
      have HQ := hide (show (tk == 1) = false by rw [beq_eq_false_iff_ne]; exact hk)
      have HC2 := hide (show ((tk == 2 && [99, 97, 115, 101] == sPar) || (tk == 1 && cmpW.contains [99, 97, 115, 101])) = false by rw [show ([99, 97, 115, 101] == sPar) = false from rfl, HQ.out]; simp)
      go_enter Try.func56, Try.ntmps56
      go_wp2_with fail
      go_ret
      exact ⟨ret_bool (a := false) (by rw [HC.out, HC2.out]), only_alloc (only_refl w none) _⟩
  have b6 : (s == [99, 97, 115, 101]) = false := beq_eq_false_iff_ne.2 h6
  have hno : ((tk == 2 && s == sPar) || (tk == 1 && cmpW.contains s)) = false := by
    unfold cmpW
    simp only [List.contains_cons, List.contains_nil, Bool.or_false]
    simp only [wOpen, wIf, wWhile, wUntil, wFor, wCase, sPar, b0, b1, b2, b3, b4, b5, b6, Bool.and_false, Bool.or_false]
  have HN := hide hno
  clear hno
  go_enter Try.func56, Try.ntmps56
  go_wp2_with fail
  go_ret
  exact ⟨ret_bool (a := false) (by rw [HC.out, HN.out]), only_alloc (only_refl w none) _⟩
set_option maxHeartbeats 1000000 in
theorem wrong_any (av : Nat → Prop) (base : Nat → Prop) (rb d : Nat) (vt vn : Value) (t : Tok) (r : List Tok) (ns : List Nd) (w : World) (h : RAt av base w rb vt vn (t :: r) ns d) :
    Calls Try.prog 24 #[.pointer (some ⟨rb, 0, none⟩)] w fun e w' => e = .panicked [pfault t.a (if t.k = 4 then 23 else 17)] ∧ w.grownBy w' none := by
  obtain ⟨t0, r0, g, off, cap, he, rfl, hc, hg, c0, c1, c2⟩ := h.head
  injection he with he1 he2
  subst he1 he2
  obtain ⟨d0, d1, d2⟩ := h.cells
  have lb := Blk.lt h.blk
  have hib : (0 : Int) < (((t :: r).length : Nat) : Int) := by simp only [List.length_cons]; omega
  obtain ⟨L, hL⟩ : ∃ L, (t :: r).length = L := ⟨_, rfl⟩
  rw [hL] at d0 hib hc
  clear h hL
  obtain ⟨tk, tt, ta⟩ := t
  simp only [] at c0 c1 c2
  unfold pfault
  by_cases hk : tk = 4
  · subst hk
    go_enter Try.func24, Try.ntmps24
    go_wp2_with fail
    exact post_panicP rfl ⟨rfl, only_alloc (only_refl w none) _⟩
  · have q : ((tk : Int) == 4) = false := by rw [beq_eq_false_iff_ne]; omega
    go_enter Try.func24, Try.ntmps24
    go_wp2_with fail
    exact post_panicP rfl ⟨by simp only [hk, if_false], only_alloc (only_refl w none) _⟩

end Go.Proofs.Ytgpfjcogaheopaa
