/- Typing of bytes that are shown: what a line of them makes of a terminal that is empty. Plain Lean. -/
import Derived.Test.YtpabcopkecgphaaH
namespace Go.Proofs.Ytpabcopkecgphaa
open Go.RowKit

def allShown (l : List UInt8) : Prop := ∀ c ∈ l, shown c = true

theorem shown_facts {c : UInt8} (h : shown c = true) : c.toNat = 9 ∨ (32 ≤ c.toNat ∧ c.toNat ≤ 126) := by
  simp only [shown, Bool.or_eq_true, Bool.and_eq_true, beq_iff_eq, decide_eq_true_eq] at h
  exact h

theorem type_cons (s : TS) (c : UInt8) (r : List UInt8) : s.type (c :: r) = (s.one c).type r := rfl
theorem type_nil (s : TS) : s.type [] = s := rfl

theorem type_shown (l : List UInt8) : ∀ s : TS, s.lines = [] → allShown l → s.typed.length + l.length ≤ 256 → s.type l = TS.show { s with typed := s.typed ++ l } l := by
  induction l with
  | nil =>
    intro s _ _ _
    rw [type_nil]
    cases s with
    | mk a b c d => cases c <;> simp [TS.show]
  | cons c r ih =>
    intro s hl hs hlen
    have hc := shown_facts (hs c (List.mem_cons_self ..))
    simp only [List.length_cons] at hlen
    rw [type_cons, one_put (by omega) (by omega) (by omega) (by omega) (by unfold TS.room; rw [hl]; simp [waitOf]; omega) (hs c (List.mem_cons_self ..)) (by omega)]
    rw [ih _ (by exact hl) (fun x hx => hs x (List.mem_cons_of_mem _ hx)) (by simp [TS.put]; omega)]
    unfold TS.put TS.show
    cases s with
    | mk a b c d => cases c <;> simp

theorem type_line (l sc : List UInt8) (e : UInt8) (he : e.toNat = 10 ∨ e.toNat = 13) (hs : allShown l) (hlen : l.length ≤ 256) :
    (⟨[], [], false, sc⟩ : TS).type (l ++ [e]) = ⟨[l ++ [10]], [], false, sc ++ l ++ [10]⟩ := by
  rw [type_append, type_shown l _ rfl hs (by simpa using hlen), type_cons, type_nil, one_feed he (by unfold TS.room; simp [waitOf]; omega)]
  simp [TS.feed, TS.come, TS.show]

theorem type_endl (l sc : List UInt8) (e : UInt8) (he : e.toNat = 4) (hs : allShown l) (hlen : l.length ≤ 256) :
    (⟨[], [], false, sc⟩ : TS).type (l ++ [e]) = ⟨[l], [], false, sc ++ l⟩ := by
  rw [type_append, type_shown l _ rfl hs (by simpa using hlen), type_cons, type_nil]
  cases l with
  | nil => rw [one_end0 he rfl (by unfold TS.room; simp [waitOf])]; simp [TS.come, TS.show]
  | cons c r => rw [one_end he (by simp [TS.show])]; simp [TS.come, TS.show]

theorem type_kill (l m sc : List UInt8) (x e : UInt8) (hx : x.toNat = 21) (he : e.toNat = 10) (hs : allShown l) (hm : allShown m) (hlen : l.length ≤ 256) (hlm : m.length ≤ 256) :
    (⟨[], [], false, sc⟩ : TS).type (l ++ [x] ++ m ++ [e]) = ⟨[m ++ [10]], [], false, sc ++ l ++ (List.replicate l.length bsb).flatten ++ m ++ [10]⟩ := by
  have h0 : (⟨[], [], false, sc⟩ : TS).type (l ++ [x]) = ⟨[], [], false, sc ++ l ++ (List.replicate l.length bsb).flatten⟩ := by
    rw [type_append, type_shown l _ rfl hs (by simpa using hlen), type_cons, type_nil, one_kill hx]
    simp [TS.kill, TS.show]
  rw [List.append_assoc, type_append, h0]
  exact type_line m _ e (.inl he) hm hlm

theorem rd_one (x sc : List UInt8) (n : Int) (hn : 1 ≤ n) (hx : (x.length : Int) ≤ n) :
    (⟨[x], [], false, sc⟩ : TS).rdS n = x ∧ (⟨[x], [], false, sc⟩ : TS).rdOk n = true ∧ (⟨[x], [], false, sc⟩ : TS).rd n = ⟨[], [], false, sc⟩ := by
  have h1 : ¬ n < 1 := by omega
  have h2 : ¬ n < x.length := by omega
  refine ⟨?_, ?_, ?_⟩
  · simp [TS.rdS, h1, h2]
  · simp [TS.rdOk, h1]
  · simp [TS.rd, h1, h2]
theorem rd_zero (sc : List UInt8) (n : Int) (hn : 1 ≤ n) :
    (⟨[], [], false, sc⟩ : TS).rdS n = [] ∧ (⟨[], [], false, sc⟩ : TS).rdOk n = false ∧ (⟨[], [], false, sc⟩ : TS).rd n = ⟨[], [], false, sc⟩ := by
  have h1 : ¬ n < 1 := by omega
  refine ⟨?_, ?_, ?_⟩
  · simp [TS.rdS]
  · simp [TS.rdOk]
  · simp [TS.rd, h1]

/-! ### the contracts over a terminal that is empty, in the strings of the laws -/
def em (sc : ByteArray) : TS := ⟨[], [], false, sc.data.toList⟩
def li (x sc : ByteArray) : TS := ⟨[x.data.toList], [], false, sc.data.toList⟩
def ShownS (s : ByteArray) : Prop := allShown s.data.toList

theorem invE (sc : ByteArray) : (em sc).Inv := ⟨by simp [em, waitOf], by simp [em]⟩
theorem invL (x sc : ByteArray) (h : x.size ≤ 1000) : (li x sc).Inv := ⟨by
  have : x.data.toList.length = x.size := rfl
  simp only [li, waitOf, List.length_nil]; omega, by simp [li]⟩

section
variable {w0 w : World} {b : Nat}
theorem type_lineF {sc : ByteArray} (h : Fresh w0 w b (em sc)) (s e : ByteArray) (he : e = ⟨#[10]⟩ ∨ e = ⟨#[13]⟩) (hs : ShownS s) (hl : s.size ≤ 200) (hsc : sc.size ≤ 1000000000) :
    Calls Try.prog 11 #[.pointer (some ⟨b, 0, none⟩), .string (s ++ e)] w fun e' w' => e' = .returned (.tuple #[]) ∧ Fresh w0 w' b (li (s ++ ⟨#[10]⟩) (sc ++ s ++ ⟨#[10]⟩)) := by
  have hel : e.size = 1 := by rcases he with rfl | rfl <;> rfl
  refine (typeF h (invE _) (s ++ e) (by rw [ByteArray.size_append]; omega) (by rw [ByteArray.size_append]; show sc.size + _ ≤ _; omega)).mono ?_
  rintro e' w' ⟨rfl, h'⟩
  refine ⟨rfl, ?_⟩
  have h1 : (em sc).type (s ++ e).data.toList = li (s ++ ⟨#[10]⟩) (sc ++ s ++ ⟨#[10]⟩) := by
    unfold em li
    simp only [ByteArray.data_append, Array.toList_append]
    rcases he with rfl | rfl
    · exact type_line _ _ 10 (.inl rfl) hs (by show s.size ≤ _; omega)
    · exact type_line _ _ 13 (.inr rfl) hs (by show s.size ≤ _; omega)
  rw [← h1]
  exact h'
theorem type_endF {sc : ByteArray} (h : Fresh w0 w b (em sc)) (s e : ByteArray) (he : e = ⟨#[4]⟩) (hs : ShownS s) (hl : s.size ≤ 200) (hsc : sc.size ≤ 1000000000) :
    Calls Try.prog 11 #[.pointer (some ⟨b, 0, none⟩), .string (s ++ e)] w fun e' w' => e' = .returned (.tuple #[]) ∧ Fresh w0 w' b (li s (sc ++ s)) := by
  have hel : e.size = 1 := by rw [he]; rfl
  refine (typeF h (invE _) (s ++ e) (by rw [ByteArray.size_append]; omega) (by rw [ByteArray.size_append]; show sc.size + _ ≤ _; omega)).mono ?_
  rintro e' w' ⟨rfl, h'⟩
  refine ⟨rfl, ?_⟩
  have h1 : (em sc).type (s ++ e).data.toList = li s (sc ++ s) := by
    unfold em li
    simp only [ByteArray.data_append, Array.toList_append]
    rw [he]
    exact type_endl _ _ 4 rfl hs (by show s.size ≤ _; omega)
  rw [← h1]
  exact h'
theorem arr_back (x : ByteArray) : (⟨x.data.toList.toArray⟩ : ByteArray) = x := by cases x; simp
theorem read_lineF {x sc : ByteArray} (h : Fresh w0 w b (li x sc)) (n : Int) (hn : 1 ≤ n) (hx : (x.size : Int) ≤ n) (hx2 : x.size ≤ 1000) :
    Calls Try.prog 12 #[.pointer (some ⟨b, 0, none⟩), .int .i64 n] w fun e' w' => e' = .returned (.tuple #[.string x, .bool true]) ∧ Fresh w0 w' b (em sc) := by
  refine (readF h (invL x sc hx2) n).mono ?_
  obtain ⟨h1, h2, h3⟩ := rd_one x.data.toList sc.data.toList n hn hx
  unfold li
  rw [h1, h2, h3, arr_back]
  exact fun _ _ h => h
theorem read_noneF {sc : ByteArray} (h : Fresh w0 w b (em sc)) (n : Int) (hn : 1 ≤ n) :
    Calls Try.prog 12 #[.pointer (some ⟨b, 0, none⟩), .int .i64 n] w fun e' w' => e' = .returned (.tuple #[.string ⟨#[]⟩, .bool false]) ∧ Fresh w0 w' b (em sc) := by
  refine (readF h (invE sc) n).mono ?_
  obtain ⟨h1, h2, h3⟩ := rd_zero sc.data.toList n hn
  unfold em
  rw [h1, h2, h3]
  exact fun _ _ h => h
theorem screen_eF {sc : ByteArray} (h : Fresh w0 w b (em sc)) :
    Calls Try.prog 13 #[.pointer (some ⟨b, 0, none⟩)] w fun e' w' => e' = .returned (.string sc) ∧ Fresh w0 w' b (em sc) := by
  refine (screenF h).mono ?_
  unfold em
  rw [arr_back]
  exact fun _ _ h => h
theorem newEF (hg : w0.grownBy w none) : Calls Try.prog 10 #[] w fun e w' => e = .returned (.pointer (some ⟨w.heap.size, 0, none⟩)) ∧ Fresh w0 w' w.heap.size (em ⟨#[]⟩) :=
  (newF hg).mono fun _ _ h => ⟨h.1, h.2⟩
end

end Go.Proofs.Ytpabcopkecgphaa
