/- The reference's one and Type; both terminals side by side; a step on both. -/
import Derived.Test.YtpabcopkecgphaaT
namespace Go.Proofs.Ytpabcopkecgphaa
open Go.RowKit

theorem rone_any {b : Nat} {S : Nat → Prop} {st : TS} {w : World} (h : RefIs w b S st) (hi : st.Inv) (c : UInt8) (hsc : st.screen.length + 800 ≤ 1099511620000) :
    Calls Try.prog 36 #[.pointer (some ⟨b, 0, none⟩), .int .u8 c.toNat] w fun e w' => e = .returned (.tuple #[]) ∧ RefTo w w' b S (st.one c) := by
  have N : ∀ m : Nat, c.toNat ≠ m → ((c.toNat : Int) == (m : Int)) = false := fun m hm => neI (by omega)
  have E : ∀ m : Nat, c.toNat = m → ((c.toNat : Int) == (m : Int)) = true := fun m hm => eqI (by omega)
  by_cases e1 : c.toNat = 8 ∨ c.toNat = 127
  · rw [one_rub e1]
    refine rone_back h hi c hsc (N 10 (by omega)) (N 13 (by omega)) (N 4 (by omega)) ?_
    rcases e1 with e1 | e1
    · exact .inl (E 8 e1)
    · exact .inr ⟨N 8 (by omega), E 127 e1⟩
  by_cases e2 : c.toNat = 21
  · rw [one_kill e2]
    exact rone_kill h hi c hsc (N 10 (by omega)) (N 13 (by omega)) (N 4 (by omega)) (N 8 (by omega)) (N 127 (by omega)) (E 21 e2)
  by_cases e3 : c.toNat = 4 ∧ st.typed ≠ []
  · rw [one_end e3.1 e3.2]
    exact rone_end h hi c hsc e3.2 (N 10 (by omega)) (N 13 (by omega)) (E 4 e3.1)
  have hfeed : c.toNat = 10 ∨ c.toNat = 13 → (((c.toNat : Int) == 10) = true) ∨ (((c.toNat : Int) == 10) = false ∧ ((c.toNat : Int) == 13) = true) := by
    intro e
    rcases e with e | e
    · exact .inl (E 10 e)
    · exact .inr ⟨N 10 (by omega), E 13 e⟩
  have hshown : shown c = true → (((c.toNat : Int) == 9) = true) ∨ (((c.toNat : Int) == 9) = false ∧ (32 : Int) ≤ (c.toNat : Int) ∧ (c.toNat : Int) ≤ 126) := by
    intro e
    by_cases h9 : c.toNat = 9
    · exact .inl (E 9 h9)
    · have := shown_facts e
      exact .inr ⟨N 9 h9, by omega, by omega⟩
  have hother : ¬ shown c = true → ((c.toNat : Int) == 9) = false ∧ (¬ (32 : Int) ≤ (c.toNat : Int) ∨ ((32 : Int) ≤ (c.toNat : Int) ∧ ¬ (c.toNat : Int) ≤ 126)) := by
    intro e
    simp only [shown, Bool.or_eq_true, Bool.and_eq_true, beq_iff_eq, decide_eq_true_eq] at e
    exact ⟨N 9 (by omega), by omega⟩
  by_cases hr : st.room = false
  · rw [one_full e1 e2 e3 hr]
    by_cases e5 : c.toNat = 10 ∨ c.toNat = 13
    · exact rone_full h hi c hsc hr (hfeed e5)
    by_cases e4 : c.toNat = 4
    · exact rone_end1 h hi c hsc (Classical.byContradiction fun ht => e3 ⟨e4, ht⟩) hr (N 10 (by omega)) (N 13 (by omega)) (E 4 e4)
    by_cases e6 : shown c = true
    · exact rone_put_full h hi c hsc hr (N 10 (by omega)) (N 13 (by omega)) (N 4 (by omega)) (N 8 (by omega)) (N 127 (by omega)) (N 21 (by omega)) (hshown e6)
    · obtain ⟨q7, hq⟩ := hother e6
      exact rone_other h hi c hsc (N 10 (by omega)) (N 13 (by omega)) (N 4 (by omega)) (N 8 (by omega)) (N 127 (by omega)) (N 21 (by omega)) q7 hq
  have hr : st.room = true := by simpa using hr
  by_cases e4 : c.toNat = 4
  · have ht : st.typed = [] := Classical.byContradiction fun ht => e3 ⟨e4, ht⟩
    rw [one_end0 e4 ht hr]
    exact rone_end0 h hi c hsc ht hr (N 10 (by omega)) (N 13 (by omega)) (E 4 e4)
  by_cases e5 : c.toNat = 10 ∨ c.toNat = 13
  · rw [one_feed e5 hr]
    exact rone_feed h hi c hsc hr (hfeed e5)
  by_cases e6 : shown c = true
  · by_cases hl : st.typed.length < 256
    · rw [one_put e1 e2 e4 e5 hr e6 hl]
      exact rone_put h hi c hsc hr hl (N 10 (by omega)) (N 13 (by omega)) (N 4 (by omega)) (N 8 (by omega)) (N 127 (by omega)) (N 21 (by omega)) (hshown e6)
    · rw [one_more e1 e2 e4 e5 hr e6 hl]
      exact rone_put_long h hi c hsc hr hl (N 10 (by omega)) (N 13 (by omega)) (N 4 (by omega)) (N 8 (by omega)) (N 127 (by omega)) (N 21 (by omega)) (hshown e6)
  · rw [one_other e1 e2 e4 e5 hr e6]
    obtain ⟨q7, hq⟩ := hother e6
    exact rone_other h hi c hsc (N 10 (by omega)) (N 13 (by omega)) (N 4 (by omega)) (N 8 (by omega)) (N 127 (by omega)) (N 21 (by omega)) q7 hq

set_option maxHeartbeats 1000000 in
theorem rtype_any {b : Nat} {S : Nat → Prop} {st : TS} {w : World} (h : RefIs w b S st) (hi : st.Inv) (s : ByteArray) (hs : s.size ≤ 4096) (hsc : st.screen.length + 800 * s.size ≤ 1099511610000) :
    Calls Try.prog 27 #[.pointer (some ⟨b, 0, none⟩), .string s] w fun e w' => e = .returned (.tuple #[]) ∧ RefTo w w' b S (st.type s.data.toList) := by
  have H := hide h
  have Hi := hide hi
  clear h hi
  go_enter Try.func27, Try.ntmps27
  go_wp2_with fail
  go_loopw [4] (fun v wr => ∃ k : Nat, v = .int .i64 k ∧ k ≤ s.size ∧ RefTo w wr b S (st.type (s.data.toList.take k))) (fun v _ => s.size - (intOf v).toNat)
  case atStart => exact ⟨0, rfl, by omega, RefTo.refl H.out⟩
  case round =>
    obtain ⟨k, rfl, hk, hT⟩ := hrel
    by_cases hlt : k < s.size
    · obtain ⟨st1, hst1⟩ : ∃ st1, st1 = st.type (s.data.toList.take k) := ⟨_, rfl⟩
      have hi1 : st1.Inv := hst1 ▸ type_inv Hi.out _
      have hs1 : st1.screen.length ≤ st.screen.length + 800 * k := by
        rw [hst1]
        have := type_screen Hi.out (s.data.toList.take k)
        rw [List.length_take] at this
        omega
      have hnext : st.type (s.data.toList.take (k + 1)) = st1.one s[k] := by
        rw [hst1, ← type_one]
        congr 1
        rw [List.take_succ_eq_append_getElem (by simpa using hlt)]
        rfl
      rw [← hst1] at hT
      obtain ⟨S1, h1, h2, h3⟩ := hT
      have H1 := hide h1
      have H2 := hide h2
      have H3 := hide h3
      have Hi1 := hide hi1
      have Hnext := hide hnext
      have hs2 : st1.screen.length + 800 ≤ 1099511620000 := by omega
      clear h1 h2 h3 hi1 hnext hst1 hs1
      go_wp2_with fail
      go_at_call 36
      refine (rone_any H1.out Hi1.out s[k] hs2).mono ?_
      rintro e w2 ⟨rfl, hT⟩
      have HT := hide (RefTo.then H2.out H3.out hT)
      clear hT
      go_wp2
      go_roundw
      case rel => exact ⟨k + 1, by go_num, by omega, by rw [Hnext.out]; exact HT.out⟩
      case measure => simp [intOf]; omega
    · have hks : s.data.toList.take k = s.data.toList := List.take_of_length_le (by have : s.data.toList.length = s.size := rfl; omega)
      rw [hks] at hT
      have HT := hide hT
      clear hT hks
      go_wp2
      go_returns
      exact ⟨rfl, HT.out⟩

/-! ### both -/
def Mix (w0 w : World) (bt br : Nat) (s1 s2 : TS) : Prop := ∃ S T, TtyIs w bt S s1 ∧ RefIs w br T s2 ∧ (∀ k, S k → ¬ T k) ∧ (∀ k, S k → w0.heap.size ≤ k) ∧ (∀ k, T k → w0.heap.size ≤ k) ∧ w0.grownBy w none
theorem chg_none {w0 w w' : World} {S : Nat → Prop} (hg : w0.grownBy w none) (hS : ∀ k, S k → w0.heap.size ≤ k) (hc : Chg S w w') : w0.grownBy w' none :=
  ⟨hc.os.trans hg.os, hc.tape.trans hg.tape, hc.output.trans hg.output, Nat.le_trans hg.size hc.size, fun i hi _ => (hc.block i (Nat.lt_of_lt_of_le hi hg.size) (fun e => by have := hS i e; omega)).trans (hg.block i hi (by simp))⟩
section
variable {w0 w w' : World} {bt br : Nat} {s1 s2 s3 : TS}
theorem Mix.tty (h : Mix w0 w bt br s1 s2) {f : FuncId} {args : Array Value} {v : Value} (c : ∀ S, TtyIs w bt S s1 → Calls Try.prog f args w fun e w' => e = .returned v ∧ TtyTo w w' bt S s3) :
    Calls Try.prog f args w fun e w' => e = .returned v ∧ Mix w0 w' bt br s3 s2 := by
  obtain ⟨S, T, h1, h2, h3, h4, h5, h6⟩ := h
  refine (c S h1).mono ?_
  rintro e w' ⟨rfl, S', k1, k2, k3⟩
  have hlt : ∀ k, T k → k < w.heap.size := fun k hk => h2.lt hk
  refine ⟨rfl, S', T, k1, h2.chg k3 (fun k hk hs => h3 k hs hk), fun k hk ht => ?_, fun k hk => ?_, h5, chg_none h6 h4 k3⟩
  · rcases k2 k hk with h | h
    · exact h3 k h ht
    · have := hlt k ht; omega
  · rcases k2 k hk with h | h
    · exact h4 k h
    · exact Nat.le_trans h6.size h
theorem Mix.ref (h : Mix w0 w bt br s1 s2) {f : FuncId} {args : Array Value} {v : Value} (c : ∀ T, RefIs w br T s2 → Calls Try.prog f args w fun e w' => e = .returned v ∧ RefTo w w' br T s3) :
    Calls Try.prog f args w fun e w' => e = .returned v ∧ Mix w0 w' bt br s1 s3 := by
  obtain ⟨S, T, h1, h2, h3, h4, h5, h6⟩ := h
  refine (c T h2).mono ?_
  rintro e w' ⟨rfl, T', k1, k2, k3⟩
  have hlt : ∀ k, S k → k < w.heap.size := fun k hk => h1.lt hk
  refine ⟨rfl, S, T', h1.chg k3 (fun k hk ht => h3 k hk ht), k1, fun k hk ht => ?_, h4, fun k hk => ?_, chg_none h6 h5 k3⟩
  · rcases k2 k ht with h | h
    · exact h3 k hk h
    · have := hlt k hk; omega
  · rcases k2 k hk with h | h
    · exact h5 k h
    · exact Nat.le_trans h6.size h
theorem Mix.gr (h : Mix w0 w bt br s1 s2) (hg : w.grownBy w' none) : Mix w0 w' bt br s1 s2 := by
  obtain ⟨S, T, h1, h2, h3, h4, h5, h6⟩ := h
  have hc : Chg nobody w w' := Chg.of_grown hg (fun _ e => by cases e)
  exact ⟨S, T, h1.chg hc (fun _ _ e => e), h2.chg hc (fun _ _ e => e), h3, h4, h5, only_trans h6 hg⟩
theorem Mix.grown (h : Mix w0 w bt br s1 s2) : w0.grownBy w none := by obtain ⟨S, T, h1, h2, h3, h4, h5, h6⟩ := h; exact h6
theorem Mix.cells (h : Mix w0 w bt br s1 s2) : w.cell? ⟨br, 2, none⟩ = some (.bool s2.silent) ∧ w.cell? ⟨br, 3, none⟩ = some (.string ⟨s2.screen.toArray⟩) := by
  obtain ⟨S, T, h1, h2, h3, h4, h5, h6⟩ := h
  obtain ⟨a, cap, c0, c1, c2, c3⟩ := h2.cells
  exact ⟨c2, c3⟩
end

end Go.Proofs.Ytpabcopkecgphaa
