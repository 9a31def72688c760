/- A quoted text is one word. -/
import Derived.Test.YtdcfpklohleoiaaDoorAGP
import Derived.Test.YtdcfpklohleoiaaDoorXJ
namespace Go.Proofs.YtdcfpklohleoiaaDoor
open Go.RowKit

theorem until_plain : ∀ (p r : List UInt8), (∀ c ∈ p, c ≠ 39) → Lx.untilR 39 false (p ++ 39 :: r) = .ok (p.length + 1)
  | [], r, _ => by
    rw [List.nil_append, Lx.until_hit (by intro h; cases h.1) rfl]
    rfl
  | c :: p, r, h => by
    rw [List.cons_append, Lx.until_no (by intro h; cases h.1) (h c (List.mem_cons_self ..)), until_plain p r (fun d hd => h d (List.mem_cons_of_mem _ hd))]
    show Lx.Rs.ok _ = _
    congr 1
    simp only [List.length_cons]
    omega
theorem part_quote (p r : List UInt8) (h : ∀ c ∈ p, c ≠ 39) : Lx.partR 25 false (39 :: (p ++ 39 :: r)) = .ok (p.length + 2) := by
  unfold Lx.partR
  rw [if_pos (by unfold Lx.begs; simp), if_neg (by simp), if_neg (by simp), if_pos (by simp), List.drop_one, List.tail_cons, until_plain p r h]
  show Lx.Rs.ok _ = _
  congr 1
  omega
theorem part_bs (c : UInt8) (r : List UInt8) : Lx.partR 25 false (92 :: c :: r) = .ok 2 := by
  unfold Lx.partR
  rw [if_pos (by unfold Lx.begs; simp), if_pos (by simp), if_neg (by simp)]
theorem stop39 : Lx.isIn Lx.stopB 39 = false := by decide +kernel
theorem stop92 : Lx.isIn Lx.stopB 92 = false := by decide +kernel
theorem word_quote : ∀ (s p : List UInt8), (∀ c ∈ p, c ≠ 39) → Lx.wordR (39 :: (p ++ (qR s ++ [39]))) = .ok (p.length + (qR s).length + 2)
  | [], p, h => by
    show Lx.wordR (39 :: (p ++ 39 :: [])) = _
    rw [Lx.word_cons, if_neg (by rw [stop39]; decide), part_quote p [] h]
    simp only []
    have h1 : (p ++ [39]).drop (p.length + 2 - 1) = [] := List.drop_eq_nil_of_le (by simp)
    rw [h1, Lx.word_nil]
    show Lx.Rs.ok _ = _
    congr 1
  | c :: s, p, h => by
    by_cases hc : c = 39
    · subst hc
      have hq : qR (39 :: s) = [39, 92, 39, 39] ++ qR s := rfl
      rw [hq]
      show Lx.wordR (39 :: (p ++ 39 :: (92 :: 39 :: 39 :: (qR s ++ [39])))) = _
      rw [Lx.word_cons, if_neg (by rw [stop39]; decide), part_quote p _ h]
      simp only []
      have h1 : (p ++ 39 :: (92 :: 39 :: 39 :: (qR s ++ [39]))).drop (p.length + 2 - 1) = 92 :: 39 :: 39 :: (qR s ++ [39]) := by
        rw [show p.length + 2 - 1 = p.length + 1 by omega, List.drop_append]
        simp
      rw [h1, Lx.word_cons, if_neg (by rw [stop92]; decide), part_bs]
      simp only []
      have h2 : (39 :: 39 :: (qR s ++ [39])).drop (2 - 1) = 39 :: ([] ++ (qR s ++ [39])) := rfl
      rw [h2, word_quote s [] (fun d hd => by cases hd)]
      show Lx.Rs.ok _ = _
      congr 1
      simp only [List.length_nil, List.length_append, List.length_cons]
      omega
    · have hq : qR (c :: s) = c :: qR s := by
        show qc c ++ qR s = _
        unfold qc
        rw [if_neg hc]
        rfl
      rw [hq]
      have := word_quote s (p ++ [c]) (fun d hd => by
        rcases List.mem_append.1 hd with hd | hd
        · exact h d hd
        · rw [List.mem_singleton.1 hd]; exact hc)
      rw [List.append_assoc] at this
      rw [show p ++ (c :: qR s ++ [39]) = p ++ ([c] ++ (qR s ++ [39])) from rfl, this]
      congr 1
      simp only [List.length_append, List.length_cons, List.length_nil]
      omega
theorem sign39 (r : List UInt8) : Lx.signF (39 :: r) = [] := by
  refine Lx.sign_none fun m hm => ?_
  have hall : ∀ s ∈ Lx.sgs, s.length ≠ 0 ∧ s.head? ≠ some 39 := by decide
  have h1 := hall _ (List.getElem_mem hm)
  unfold Lx.hasSign
  refine decide_eq_false fun e => ?_
  obtain ⟨n, hn⟩ : ∃ n, (Lx.sgs[m]).length = n + 1 := ⟨(Lx.sgs[m]).length - 1, by omega⟩
  rw [hn, List.take_succ_cons] at e
  exact h1.2 (by rw [← e]; rfl)
theorem next_quote (s : List UInt8) : Lx.nextF (quoteF s) = .tok 1 (quoteF s) := by
  have hw := word_quote s [] (fun d hd => by cases hd)
  have hq : quoteF s = 39 :: ([] ++ (qR s ++ [39])) := rfl
  unfold Lx.nextF
  rw [hq, if_neg (by rw [sign39]; simp), hw]
  simp only []
  have hio : Lx.ioB (39 :: ([] ++ (qR s ++ [39]))) (([] : List UInt8).length + (qR s).length + 2) = false := by
    unfold Lx.ioB
    refine decide_eq_false fun e => ?_
    have := e.1
    omega
  rw [hio, List.take_of_length_le (by simp)]
  rfl
theorem quote_len2 (s : List UInt8) : (quoteF s).length ≤ 4 * s.length + 2 := by
  have := qR_len s
  unfold quoteF
  simp only [List.length_cons, List.length_append, List.length_nil]
  omega
theorem all_quote (s : List UInt8) (hs : s.length ≤ 800) : Lx.allF (quoteF s) = .ok [⟨1, quoteF s, 0⟩, ⟨4, [], (quoteF s).length⟩] := by
  have hl := quote_len2 s
  have h0 : Lx.blankF (quoteF s) = 0 := by
    unfold quoteF
    rw [Lx.blank_cons, if_neg (by decide), if_neg (by simp), if_neg (by decide)]
  have hpos : 0 < (quoteF s).length := by unfold quoteF; simp
  unfold Lx.allF
  rw [if_neg (by omega), h0]
  unfold Lx.allGo
  rw [if_pos hpos, if_neg (by simp), List.drop_zero, next_quote]
  simp only [Nat.zero_add, List.nil_append]
  rw [List.drop_eq_nil_of_le (Nat.le_refl _), Lx.blank_nil, Nat.add_zero]
  obtain ⟨n, hn⟩ : ∃ n, (quoteF s).length = n + 1 := ⟨(quoteF s).length - 1, by omega⟩
  have : Lx.allGo (quoteF s) (quoteF s).length (quoteF s).length [⟨1, quoteF s, 0⟩] = .ok [⟨1, quoteF s, 0⟩] := by
    conv => lhs; arg 2; rw [hn]
    unfold Lx.allGo
    rw [if_neg (by omega)]
  rw [this]
  rfl

end Go.Proofs.YtdcfpklohleoiaaDoor
