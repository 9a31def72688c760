/- Silent terminals; reading byte by byte: plain facts, and contracts in the words of TtyHides and TtyBounds. -/
import Derived.Test.YtpabcopkecgphaaJ
namespace Go.Proofs.Ytpabcopkecgphaa
open Go.RowKit

theorem one_silent_eq (s : TS) (c : UInt8) : (s.one c).silent = s.silent := by
  unfold TS.one
  split
  · exact rub_silent s
  split
  · rfl
  split
  · rfl
  split
  · rfl
  split
  · rfl
  split
  · rfl
  split
  · split <;> rfl
  · rfl
theorem type_silent_eq (l : List UInt8) : ∀ s : TS, (s.type l).silent = s.silent := by
  induction l with
  | nil => intro s; rfl
  | cons c r ih => intro s; rw [type_cons, ih, one_silent_eq]
theorem one_hidden {s : TS} (h : s.silent = true) (c : UInt8) : (s.one c).screen = s.screen ∨ (s.one c).screen = s.screen ++ [10] := by
  unfold TS.one
  split
  · left
    unfold TS.rub TS.show
    split <;> simp [h]
  split
  · left; simp [TS.kill, TS.show, h]
  split
  · left; rfl
  split
  · left; rfl
  split
  · left; rfl
  split
  · right; rfl
  split
  · split
    · left; simp [TS.put, TS.show, h]
    · left; rfl
  · left; rfl
theorem type_hidden (l : List UInt8) : ∀ s : TS, s.silent = true → ∃ n, n ≤ l.length ∧ (s.type l).screen = s.screen ++ List.replicate n 10 := by
  induction l with
  | nil => intro s _; exact ⟨0, by simp, by simp [type_nil]⟩
  | cons c r ih =>
    intro s h
    obtain ⟨n, hn, e⟩ := ih (s.one c) (by rw [one_silent_eq, h])
    rw [type_cons, e]
    rcases one_hidden h c with h1 | h1
    · exact ⟨n, by simp; omega, by rw [h1]⟩
    · refine ⟨n + 1, by simp; omega, ?_⟩
      rw [h1, List.append_assoc, List.replicate_succ]
      rfl

theorem echo_off (s : TS) (h : s.silent = false) : s.echo false = ⟨[], [], true, s.screen⟩ := by
  unfold TS.echo
  rw [h]
  rfl
theorem echo_on (s : TS) (h : s.silent = true) : s.echo true = ⟨[], [], false, s.screen⟩ := by
  unfold TS.echo
  rw [h]
  rfl
theorem rd_silent (s : TS) (n : Int) : (s.rd n).silent = s.silent ∧ (s.rd n).screen = s.screen ∧ (s.rd n).typed = s.typed := by
  unfold TS.rd
  split
  · exact ⟨rfl, rfl, rfl⟩
  · cases s.lines <;> exact ⟨rfl, rfl, rfl⟩

theorem rd1 (s : TS) (h : s.lines ≠ []) : waitOf (s.rd 1).lines + 1 = waitOf s.lines ∧ (s.rdS 1).length ≤ 1 ∧ s.rdOk 1 = true := by
  cases hl : s.lines with
  | nil => exact absurd hl h
  | cons x r =>
    have h1 : ¬ ((1 : Int) < 1) := by omega
    by_cases h2 : (1 : Int) < x.length
    · have hr : (s.rd 1).lines = x.drop 1 :: r := by simp [TS.rd, hl, h2]
      have hs : s.rdS 1 = x.take 1 := by simp [TS.rdS, hl, h2]
      refine ⟨?_, ?_, by simp [TS.rdOk, hl]⟩
      · rw [hr]; simp only [waitOf, List.length_drop]; omega
      · rw [hs, List.length_take]; omega
    · have hr : (s.rd 1).lines = r := by simp [TS.rd, hl, h2]
      have hs : s.rdS 1 = x := by simp [TS.rdS, hl, h2]
      refine ⟨?_, ?_, by simp [TS.rdOk, hl]⟩
      · rw [hr]; simp only [waitOf]; omega
      · rw [hs]; omega
theorem rd1_none (s : TS) (h : s.lines = []) : s.rdOk 1 = false ∧ waitOf s.lines = 0 := by simp [TS.rdOk, h, waitOf]

/-- What waits is nought, or a line waits. -/
theorem lines_cases (s : TS) : (s.lines = [] ∧ waitOf s.lines = 0) ∨ (s.lines ≠ [] ∧ 0 < waitOf s.lines) := by
  cases hl : s.lines with
  | nil => left; exact ⟨rfl, rfl⟩
  | cons x r => right; exact ⟨by simp, by simp only [waitOf]; omega⟩

def Short (m : Nat) (w : World) (e : Ending) (w' : World) : Prop := ∃ T : ByteArray, e = .returned (.string T) ∧ T.size ≤ m ∧ w = w'

set_option maxHeartbeats 400000 in
theorem short_any (s : ByteArray) (hs : s.size ≤ maxLen) (m : Nat) (hm : m ≤ 100000) (w : World) : Calls Try.prog 15 #[.string s, .int .i64 m] w (Short m w) := by
  unfold maxLen at hs
  by_cases h : m < s.size
  · go_enter Try.func15, Try.ntmps15
    go_wp2
    go_ret
    exact ⟨_, rfl, by rw [ByteArray.size_extract]; omega, rfl⟩
  · go_enter Try.func15, Try.ntmps15
    go_wp2
    go_ret
    exact ⟨_, rfl, by omega, rfl⟩

/-! ### the silent terminal of TtyHides -/
def tenS (now was : ByteArray) : Prop := ∃ n, now.data.toList = was.data.toList ++ List.replicate n 10
structure Dark (was : ByteArray) (m : Nat) (st : TS) : Prop where
  inv : st.Inv
  s : st.silent = true
  x : ∃ n, n ≤ m ∧ st.screen = was.data.toList ++ List.replicate n 10

theorem Dark.len {was : ByteArray} {m : Nat} {st : TS} (h : Dark was m st) : st.screen.length ≤ was.size + m := by
  obtain ⟨n, hn, e⟩ := h.x
  rw [e, List.length_append, List.length_replicate]
  show was.size + n ≤ _
  omega
theorem Dark.type {was : ByteArray} {m : Nat} {st : TS} (h : Dark was m st) (l : List UInt8) : Dark was (m + l.length) (st.type l) := by
  obtain ⟨n, hn, e⟩ := h.x
  obtain ⟨n2, h2, e2⟩ := type_hidden l st h.s
  refine ⟨type_inv h.inv l, by rw [type_silent_eq, h.s], n + n2, by omega, ?_⟩
  rw [e2, e, List.append_assoc, List.replicate_append_replicate]
theorem Dark.rd {was : ByteArray} {m : Nat} {st : TS} (h : Dark was m st) (n : Int) : Dark was m (st.rd n) := by
  obtain ⟨h1, h2, _⟩ := rd_silent st n
  exact ⟨rd_inv h.inv n, by rw [h1, h.s], by rw [h2]; exact h.x⟩
theorem Dark.mono {was : ByteArray} {m m' : Nat} {st : TS} (h : Dark was m st) (hm : m ≤ m') : Dark was m' st := by
  obtain ⟨n, hn, e⟩ := h.x
  exact ⟨h.inv, h.s, n, by omega, e⟩

section
variable {w0 w : World} {b : Nat}
def DarkF (w0 w : World) (b : Nat) (was : ByteArray) (m : Nat) : Prop := ∃ st, Fresh w0 w b st ∧ Dark was m st
theorem DarkF.mono {was : ByteArray} {m m' : Nat} (h : DarkF w0 w b was m) (hm : m ≤ m') : DarkF w0 w b was m' := by
  obtain ⟨st, h1, h2⟩ := h
  exact ⟨st, h1, h2.mono hm⟩
theorem DarkF.grown {was : ByteArray} {m : Nat} (h : DarkF w0 w b was m) : w0.grownBy w none := by
  obtain ⟨st, h1, h2⟩ := h
  exact h1.grown
theorem DarkF.other {w' : World} {was : ByteArray} {m : Nat} (h : DarkF w0 w b was m) (hg : w.grownBy w' none) : DarkF w0 w' b was m := by
  obtain ⟨st, h1, h2⟩ := h
  exact ⟨st, h1.other hg, h2⟩

def Typed0 (w0 : World) (b : Nat) (n : Nat) (e : Ending) (w' : World) : Prop := e = .returned (.tuple #[]) ∧ ∃ st, Fresh w0 w' b st ∧ st.silent = false ∧ st.screen.length ≤ n
theorem hide_type (h : Fresh w0 w b (em ⟨#[]⟩)) (s : ByteArray) (hs : s.size ≤ 3000) :
    Calls Try.prog 11 #[.pointer (some ⟨b, 0, none⟩), .string s] w (Typed0 w0 b 2400000) := by
  refine (typeF h (invE _) s (by omega) (by show 0 + _ ≤ _; omega)).mono ?_
  rintro e' w' ⟨rfl, h'⟩
  refine ⟨rfl, _, h', by rw [type_silent_eq]; rfl, ?_⟩
  have := type_screen (invE ⟨#[]⟩) s.data.toList
  have hl : s.data.toList.length = s.size := rfl
  have h0 : (em ⟨#[]⟩).screen.length = 0 := rfl
  omega
theorem hide_off {st : TS} (h : Fresh w0 w b st) (hs : st.silent = false) :
    Calls Try.prog 16 #[.pointer (some ⟨b, 0, none⟩), .bool false] w fun e w' => e = .returned (.tuple #[]) ∧ Fresh w0 w' b ⟨[], [], true, st.screen⟩ := by
  refine (echoF h false).mono ?_
  rw [echo_off st hs]
  exact fun _ _ h => h
def ScreenIs (w0 : World) (b : Nat) (n : Nat) (e : Ending) (w' : World) : Prop := ∃ was : ByteArray, e = .returned (.string was) ∧ was.size ≤ n ∧ Fresh w0 w' b ⟨[], [], true, was.data.toList⟩
theorem hide_was {sc : List UInt8} {n : Nat} (h : Fresh w0 w b ⟨[], [], true, sc⟩) (hn : sc.length ≤ n) :
    Calls Try.prog 13 #[.pointer (some ⟨b, 0, none⟩)] w (ScreenIs w0 b n) := by
  refine (screenF h).mono ?_
  rintro e' w' ⟨rfl, h'⟩
  exact ⟨⟨sc.toArray⟩, rfl, by simpa [ByteArray.size] using hn, h'⟩
theorem hide_type2 {was : ByteArray} {m : Nat} (h : DarkF w0 w b was m) (hw : was.size ≤ 2400000) (hm : m ≤ 100000) (s : ByteArray) (hs : s.size ≤ 500) :
    Calls Try.prog 11 #[.pointer (some ⟨b, 0, none⟩), .string s] w fun e w' => e = .returned (.tuple #[]) ∧ DarkF w0 w' b was (m + 500) := by
  obtain ⟨st, h1, h2⟩ := h
  have hl := h2.len
  refine (typeF h1 h2.inv s (by omega) (by omega)).mono ?_
  rintro e' w' ⟨rfl, h'⟩
  exact ⟨rfl, _, h', (h2.type s.data.toList).mono (by have hl : s.data.toList.length = s.size := rfl; omega)⟩
def AnyRead (Q : World → Prop) (e : Ending) (w' : World) : Prop := ∃ (t : ByteArray) (ok : Bool), e = .returned (.tuple #[.string t, .bool ok]) ∧ Q w'
theorem hide_read {was : ByteArray} {m : Nat} (h : DarkF w0 w b was m) (n : Int) :
    Calls Try.prog 12 #[.pointer (some ⟨b, 0, none⟩), .int .i64 n] w (AnyRead fun w' => DarkF w0 w' b was m) := by
  obtain ⟨st, h1, h2⟩ := h
  refine (readF h1 h2.inv n).mono ?_
  rintro e' w' ⟨rfl, h'⟩
  exact ⟨_, _, rfl, _, h', h2.rd n⟩

/-- What is shown at the end. -/
structure NowIs (was now : ByteArray) : Prop where
  le : was.size ≤ now.size
  le2 : now.size ≤ 3000000
  head : now.extract 0 was.size = was
  tail : ∀ i (h : i < now.size), was.size ≤ i → now[i] = 10
def ScreenNow (w0 : World) (b : Nat) (was : ByteArray) (e : Ending) (w' : World) : Prop := ∃ now : ByteArray, e = .returned (.string now) ∧ NowIs was now ∧ ∃ st, Fresh w0 w' b st ∧ st.silent = true ∧ st.screen = now.data.toList
theorem hide_now {was : ByteArray} {m : Nat} (h : DarkF w0 w b was m) (hw : was.size ≤ 2400000) (hm : m ≤ 100000) :
    Calls Try.prog 13 #[.pointer (some ⟨b, 0, none⟩)] w (ScreenNow w0 b was) := by
  obtain ⟨st, h1, h2⟩ := h
  have hl := h2.len
  obtain ⟨n, hn, e⟩ := h2.x
  refine (screenF h1).mono ?_
  rintro e' w' ⟨rfl, h'⟩
  have hw0 : was.data.toList.length = was.size := rfl
  have hlen : (ByteArray.mk st.screen.toArray).size = was.size + n := by
    show st.screen.toArray.size = _
    rw [List.size_toArray, e, List.length_append, List.length_replicate, hw0]
  refine ⟨⟨st.screen.toArray⟩, rfl, ⟨by omega, by omega, ?_, ?_⟩, st, h', h2.s, by simp⟩
  · apply ByteArray.ext
    rw [ByteArray.data_extract]
    apply Array.ext'
    rw [Array.toList_extract, List.extract_eq_take_drop]
    show ((st.screen.toArray.toList).drop 0).take (was.size - 0) = _
    rw [List.drop_zero, Nat.sub_zero, e]
    show List.take was.size (was.data.toList ++ List.replicate n 10) = _
    exact List.take_left' hw0
  · intro i hi hwi
    show st.screen.toArray[i] = 10
    rw [List.getElem_toArray]
    have : st.screen[i]? = some 10 := by
      rw [e, List.getElem?_append_right (by omega), List.getElem?_replicate, if_pos (by omega)]
    exact (List.getElem?_eq_some_iff.1 this).2
theorem hide_on {st : TS} {now : ByteArray} (h : Fresh w0 w b st) (hs : st.silent = true) (hn : st.screen = now.data.toList) :
    Calls Try.prog 16 #[.pointer (some ⟨b, 0, none⟩), .bool true] w fun e w' => e = .returned (.tuple #[]) ∧ Fresh w0 w' b (em now) := by
  refine (echoF h true).mono ?_
  rw [echo_on st hs, hn]
  exact fun _ _ h => h
theorem unread_em {sc : ByteArray} (h : Fresh w0 w b (em sc)) :
    Calls Try.prog 17 #[.pointer (some ⟨b, 0, none⟩)] w fun e w' => e = .returned (.tuple #[.int .i64 0, .int .i64 0]) ∧ Fresh w0 w' b (em sc) := unreadF h
theorem unread_off {was : ByteArray} (h : Fresh w0 w b ⟨[], [], true, was.data.toList⟩) :
    Calls Try.prog 17 #[.pointer (some ⟨b, 0, none⟩)] w fun e w' => e = .returned (.tuple #[.int .i64 0, .int .i64 0]) ∧ DarkF w0 w' b was 0 := by
  refine (unreadF h).mono ?_
  rintro e' w' ⟨rfl, h'⟩
  exact ⟨rfl, _, h', ⟨by simp [waitOf], by simp⟩, rfl, 0, by omega, by simp⟩
end

end Go.Proofs.Ytpabcopkecgphaa
