/- What a byte that is typed makes of the terminal. -/
import Derived.Test.YtpabcopkecgphaaE
import Derived.Deep.LoopGhost
namespace Go.Proofs.Ytpabcopkecgphaa
open Go.RowKit

def TS.kill (s : TS) : TS := TS.show { s with typed := [] } (List.replicate s.typed.length bsb).flatten
def TS.put (s : TS) (c : UInt8) : TS := TS.show { s with typed := s.typed ++ [c] } [c]
def TS.feed (s : TS) : TS := { s.come (s.typed ++ [10]) with screen := s.screen ++ [10] }
def TS.room (s : TS) : Bool := decide (waitOf s.lines + s.typed.length < 1024)
def shown (c : UInt8) : Bool := c.toNat == 9 || (decide (32 ≤ c.toNat) && decide (c.toNat ≤ 126))
def TS.one (s : TS) (c : UInt8) : TS :=
  if c.toNat = 8 ∨ c.toNat = 127 then s.rub
  else if c.toNat = 21 then s.kill
  else if c.toNat = 4 ∧ s.typed ≠ [] then s.come s.typed
  else if s.room = false then s
  else if c.toNat = 4 then s.come []
  else if c.toNat = 10 ∨ c.toNat = 13 then s.feed
  else if shown c = true then if s.typed.length < 256 then s.put c else s
  else s
def TS.type (s : TS) (l : List UInt8) : TS := l.foldl TS.one s

structure TS.Inv (s : TS) : Prop where
  a : waitOf s.lines + s.typed.length ≤ 1024
  b : s.typed.length ≤ 256

@[simp] theorem show_lines (s : TS) (l : List UInt8) : (s.show l).lines = s.lines := rfl
@[simp] theorem show_typed (s : TS) (l : List UInt8) : (s.show l).typed = s.typed := rfl
@[simp] theorem show_silent (s : TS) (l : List UInt8) : (s.show l).silent = s.silent := rfl
theorem show_screen (s : TS) (l : List UInt8) : (s.show l).screen.length ≤ s.screen.length + l.length := by
  unfold TS.show
  cases s.silent <;> simp
theorem flat_len (n : Nat) : (List.replicate n bsb).flatten.length = 3 * n := by
  induction n with
  | zero => rfl
  | succ n ih => rw [List.replicate_succ, List.flatten_cons, List.length_append, ih]; simp [bsb]; omega
theorem rub_lines (s : TS) : s.rub.lines = s.lines := by unfold TS.rub; split <;> rfl
theorem rub_typed (s : TS) : s.rub.typed = s.typed.dropLast := by
  unfold TS.rub
  split
  · rename_i h; rw [h]; rfl
  · rfl
theorem rub_silent (s : TS) : s.rub.silent = s.silent := by unfold TS.rub; split <;> rfl
theorem rub_screen (s : TS) : s.rub.screen.length ≤ s.screen.length + 3 := by
  unfold TS.rub
  split
  · omega
  · exact show_screen { s with typed := s.typed.dropLast } bsb
theorem kill_screen (s : TS) : s.kill.screen.length ≤ s.screen.length + 3 * s.typed.length := by
  have := show_screen { s with typed := [] } (List.replicate s.typed.length bsb).flatten
  rw [flat_len] at this
  exact this
theorem rub_kill (s : TS) (h : s.typed ≠ []) : s.rub.kill = s.kill := by
  have hl : s.typed.length = s.typed.dropLast.length + 1 := by
    have := List.length_pos_iff.2 h
    rw [List.length_dropLast]
    omega
  unfold TS.kill
  rw [rub_typed, hl, List.replicate_succ, List.flatten_cons]
  unfold TS.rub
  rw [if_neg h]
  unfold TS.show
  cases s.silent <;> simp
theorem kill_nil (s : TS) (h : s.typed = []) : s.kill = s := by
  unfold TS.kill TS.show
  cases s
  simp only at h
  subst h
  simp

theorem one_inv {s : TS} (h : s.Inv) (c : UInt8) : (s.one c).Inv := by
  obtain ⟨ha, hb⟩ := h
  unfold TS.one
  split
  · exact ⟨by rw [rub_lines, rub_typed, List.length_dropLast]; omega, by rw [rub_typed, List.length_dropLast]; omega⟩
  split
  · exact ⟨by simp only [TS.kill, show_lines, show_typed, List.length_nil]; omega, by simp only [TS.kill, show_typed, List.length_nil]; omega⟩
  split
  · rename_i h
    have := List.length_pos_iff.2 h.2
    exact ⟨by simp only [TS.come, waitOf_append, List.length_nil]; omega, by simp [TS.come]⟩
  split
  · exact ⟨ha, hb⟩
  rename_i hr
  simp only [TS.room, decide_eq_false_iff_not, Nat.not_lt, Nat.not_le] at hr
  split
  · exact ⟨by simp only [TS.come, waitOf_append, List.length_nil]; omega, by simp [TS.come]⟩
  split
  · exact ⟨by simp only [TS.feed, TS.come, waitOf_append, List.length_nil, List.length_append, List.length_cons]; omega, by simp [TS.feed, TS.come]⟩
  split
  · split
    · exact ⟨by simp only [TS.put, show_lines, show_typed, List.length_append, List.length_cons, List.length_nil]; omega, by simp only [TS.put, show_typed, List.length_append, List.length_cons, List.length_nil]; omega⟩
    · exact ⟨ha, hb⟩
  · exact ⟨ha, hb⟩

theorem one_screen {s : TS} (h : s.Inv) (c : UInt8) : (s.one c).screen.length ≤ s.screen.length + 800 := by
  obtain ⟨ha, hb⟩ := h
  unfold TS.one
  split
  · have := rub_screen s; omega
  split
  · have := kill_screen s; omega
  split
  · simp [TS.come]
  split
  · omega
  split
  · simp [TS.come]
  split
  · simp [TS.feed]
  split
  · split
    · have := show_screen { s with typed := s.typed ++ [c] } [c]
      simp only [List.length_cons, List.length_nil] at this
      unfold TS.put
      omega
    · omega
  · omega

theorem type_append (s : TS) (l m : List UInt8) : s.type (l ++ m) = (s.type l).type m := by unfold TS.type; rw [List.foldl_append]
theorem type_one (s : TS) (l : List UInt8) (c : UInt8) : s.type (l ++ [c]) = (s.type l).one c := by rw [type_append]; rfl
theorem type_inv {s : TS} (h : s.Inv) (l : List UInt8) : (s.type l).Inv := by
  induction l generalizing s with
  | nil => exact h
  | cons c r ih => exact ih (one_inv h c)
theorem type_screen {s : TS} (h : s.Inv) (l : List UInt8) : (s.type l).screen.length ≤ s.screen.length + 800 * l.length := by
  induction l generalizing s with
  | nil => simp [TS.type]
  | cons c r ih =>
    have h1 := ih (one_inv h c)
    have h2 := one_screen h c
    simp only [List.length_cons]
    exact Nat.le_trans h1 (by omega)

theorem TtyIs.drewN {w : World} {b : Nat} {S : Nat → Prop} {st : TS} (h : TtyIs w b S st) (n : Nat) : TtyIs (w.drewN n) b S st := by
  obtain ⟨lv, tv, bv, pa, h, rfl⟩ := h
  exact ⟨lv, tv, bv, pa, ⟨h.blk, ⟨h.parts.ol, h.parts.ot, h.parts.ob, h.parts.nl, h.parts.nt, h.parts.nb, h.parts.lt, h.parts.lb, h.parts.tb, h.parts.e⟩, h.p⟩, rfl⟩
theorem TtyTo.drewN {w : World} {b : Nat} {S : Nat → Prop} {st : TS} (h : TtyIs w b S st) (n : Nat) : TtyTo w (w.drewN n) b S st :=
  ⟨S, h.drewN n, fun _ hk => .inl hk, (Chg.refl _ w).drewN n⟩
/-- From a later world on. -/
theorem TtyTo.sub {w w1 w2 : World} {b : Nat} {S S1 : Nat → Prop} {st2 : TS} (h : ∀ k, S1 k → S k ∨ w.heap.size ≤ k) (hc : Chg S w w1) (n : Nat) (k : TtyTo (w1.drewN n) w2 b S1 st2) : TtyTo w w2 b S st2 :=
  TtyTo.then h (hc.drewN n) k

theorem rubs_any {b : Nat} {S : Nat → Prop} {st : TS} {w : World} (h : TtyIs w b S st) (hlen : st.screen.length + 3 ≤ 1099511627776) :
    Calls Try.prog 21 #[.pointer (some ⟨b, 0, none⟩)] w fun e w' => e = .returned (.bool (!st.typed.isEmpty)) ∧ TtyTo w w' b S st.rub := by
  by_cases ht : st.typed = []
  · refine (rubs_none h ht).mono ?_
    rintro e w' ⟨rfl, rfl⟩
    refine ⟨by rw [ht]; rfl, ?_⟩
    rw [show st.rub = st from by unfold TS.rub; rw [if_pos ht]]
    exact TtyTo.refl h
  · refine (rubs_some h ht hlen).mono ?_
    rintro e w' ⟨rfl, h'⟩
    refine ⟨by cases hh : st.typed with | nil => exact absurd hh ht | cons _ _ => rfl, h'⟩

end Go.Proofs.Ytpabcopkecgphaa
