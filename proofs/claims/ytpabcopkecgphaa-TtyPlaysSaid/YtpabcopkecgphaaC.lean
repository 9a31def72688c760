/- Walks: shows, Write, Screen, Echoes, Unread, drop, Echo, Clear, New. -/
import Derived.Test.YtpabcopkecgphaaB
namespace Go.Proofs.Ytpabcopkecgphaa
open Go.RowKit

def TS.show (s : TS) (l : List UInt8) : TS := { s with screen := if s.silent then s.screen else s.screen ++ l }
def TS.drop (s : TS) : TS := { s with lines := [], typed := [] }
def TS.echo (s : TS) (on : Bool) : TS := if on == s.silent then { s.drop with silent := !on } else { s with silent := !on }
def TS.clear (s : TS) : TS := { s.drop with silent := false }
def ts0 : TS := ⟨[], [], false, []⟩

set_option maxHeartbeats 400000 in
theorem write_any {b : Nat} {S : Nat → Prop} {st : TS} {w : World} (h : TtyIs w b S st) (s : ByteArray) (hlen : st.screen.length + s.size ≤ 1099511627776) :
    Calls Try.prog 29 #[.pointer (some ⟨b, 0, none⟩), .string s] w fun e w' => e = .returned (.tuple #[]) ∧ TtyTo w w' b S { st with screen := st.screen ++ s.data.toList } := by
  have H := hide h
  clear h
  go_enter Try.func29, Try.ntmps29
  go_wp2_with fail
  go_at_call 35
  refine (writeString_any H.out s hlen).mono ?_
  rintro e w1 ⟨rfl, h1⟩
  have H1 := hide h1
  clear h1
  go_wp2
  go_returns
  exact ⟨rfl, H1.out⟩

set_option maxHeartbeats 400000 in
theorem shows_any {b : Nat} {S : Nat → Prop} {st : TS} {w : World} (h : TtyIs w b S st) (s : ByteArray) (hlen : st.screen.length + s.size ≤ 1099511627776) :
    Calls Try.prog 24 #[.pointer (some ⟨b, 0, none⟩), .string s] w fun e w' => e = .returned (.tuple #[]) ∧ TtyTo w w' b S (st.show s.data.toList) := by
  obtain ⟨c2, -⟩ : w.cell? ⟨b, 2, none⟩ = some (.bool st.silent) ∧ True := by
    obtain ⟨lv, tv, bv, pa, h, rfl⟩ := h
    exact ⟨h.blk.cell 2, trivial⟩
  have H := hide h
  clear h
  cases hs : st.silent
  · rw [hs] at c2
    have Hs := hide hs
    clear hs
    go_enter Try.func24, Try.ntmps24
    go_wp2_with fail
    go_at_call 35
    refine (writeString_any H.out s hlen).mono ?_
    rintro e w1 ⟨rfl, h1⟩
    have H1 := hide h1
    clear h1
    go_wp2
    go_returns
    refine ⟨rfl, ?_⟩
    rw [show st.show s.data.toList = { st with screen := st.screen ++ s.data.toList } from by unfold TS.show; simp [Hs.out]]
    exact H1.out
  · rw [hs] at c2
    have Hs := hide hs
    clear hs
    go_enter Try.func24, Try.ntmps24
    go_wp2
    go_returns
    refine ⟨rfl, ?_⟩
    rw [show st.show s.data.toList = st from by have h2 := Hs.out; cases st; simp only at h2; subst h2; rfl]
    exact TtyTo.refl H.out

set_option maxHeartbeats 400000 in
theorem screen_any {b : Nat} {S : Nat → Prop} {st : TS} {w : World} (h : TtyIs w b S st) :
    Calls Try.prog 13 #[.pointer (some ⟨b, 0, none⟩)] w fun e w' => e = .returned (.string ⟨st.screen.toArray⟩) ∧ TtyTo w w' b S st := by
  have H := hide h
  clear h
  go_enter Try.func13, Try.ntmps13
  go_wp2_with fail
  go_at_call 25
  refine (string_any H.out).mono ?_
  rintro e w1 ⟨rfl, h1⟩
  have H1 := hide h1
  clear h1
  go_wp2
  go_ret
  exact ⟨rfl, H1.out⟩

set_option maxHeartbeats 400000 in
theorem echoes_any {b : Nat} {S : Nat → Prop} {st : TS} {w : World} (h : TtyIs w b S st) :
    Calls Try.prog 20 #[.pointer (some ⟨b, 0, none⟩)] w fun e w' => e = .returned (.bool (!st.silent)) ∧ w' = w := by
  obtain ⟨c2, -⟩ : w.cell? ⟨b, 2, none⟩ = some (.bool st.silent) ∧ True := by
    obtain ⟨lv, tv, bv, pa, h, rfl⟩ := h
    exact ⟨h.blk.cell 2, trivial⟩
  clear h
  go_enter Try.func20, Try.ntmps20
  go_wp2
  go_ret
  exact ⟨rfl, rfl⟩

set_option maxHeartbeats 400000 in
theorem unread_any {b : Nat} {S : Nat → Prop} {st : TS} {w : World} (h : TtyIs w b S st) :
    Calls Try.prog 17 #[.pointer (some ⟨b, 0, none⟩)] w fun e w' => e = .returned (.tuple #[.int .i64 (waitOf st.lines : Nat), .int .i64 (st.typed.length : Nat)]) ∧ TtyTo w w' b S st := by
  obtain ⟨lv, tv, bv, pa, h, rfl⟩ := h
  obtain ⟨a, cap, rfl, _, _⟩ := h.parts.ot.form
  obtain ⟨⟨c0, c1, c2, c3, c4, c5⟩, -⟩ := h.blk.c6
  have H := hide h
  clear h
  go_enter Try.func17, Try.ntmps17
  go_wp2
  go_quiet (fail)
  go_wp2
  go_ret2
  refine ⟨rfl, ?_⟩
  have h := H.out
  exact TtyTo.mk ⟨h.blk, ⟨h.parts.ol, h.parts.ot, h.parts.ob, h.parts.nl, h.parts.nt, h.parts.nb, h.parts.lt, h.parts.lb, h.parts.tb, h.parts.e⟩, h.p⟩ ((Chg.refl _ w).drewN _) (fun k hk => .inl hk)

set_option maxHeartbeats 400000 in
theorem drop_any {b : Nat} {S : Nat → Prop} {st : TS} {w : World} (h : TtyIs w b S st) :
    Calls Try.prog 26 #[.pointer (some ⟨b, 0, none⟩)] w fun e w' => e = .returned (.tuple #[]) ∧ TtyTo w w' b S st.drop := by
  obtain ⟨lv, tv, bv, pa, h, rfl⟩ := h
  obtain ⟨⟨c0, c1, c2, c3, c4, c5⟩, z0, z1, z2, z3, z4, z5⟩ := h.blk.c6
  have H := hide h
  clear h
  go_enter Try.func26, Try.ntmps26
  go_wp2
  go_returns
  refine ⟨rfl, ?_⟩
  have h := H.out
  have hp := ((h.parts.far 0 (.slice none 0 0)).far 1 (.slice none 0 0)).far 5 (.int .i64 0)
  exact TtyTo.mk (lv' := .slice none 0 0) (tv' := .slice none 0 0) (bv' := bv) ⟨((h.blk.set_ 0 (.slice none 0 0)).set_ 1 (.slice none 0 0)).set_ 5 (.int .i64 0),
    ⟨Own.nil _ _ _ _, Own.nil _ _ _ _, hp.ob, by simp [Value.ownBlock], by simp [Value.ownBlock], hp.nb, by simp [Value.ownBlock], by simp [Value.ownBlock], by simp [Value.ownBlock], hp.e⟩, h.p⟩
    ((((Chg.refl (tOwn b lv tv bv) w).setCell (p := ⟨b, 0, none⟩) (.inl (.inl rfl)) _).setCell (p := ⟨b, 1, none⟩) (.inl (.inl rfl)) _).setCell (p := ⟨b, 5, none⟩) (.inl (.inl rfl)) _)
    (fun k hk => .inl (by rcases hk with hk | hk | hk <;> first | exact .inr (.inr hk) | simp [Value.ownBlock] at hk))

/-- A store of 'silent'. -/
theorem TtyTo.silent {b : Nat} {S : Nat → Prop} {st : TS} {w : World} (h : TtyIs w b S st) (x : Bool) : TtyTo w (w.setCell ⟨b, 2, none⟩ (.bool x)) b S { st with silent := x } := by
  obtain ⟨lv, tv, bv, pa, h, rfl⟩ := h
  have hp := h.parts.far 2 (.bool x)
  exact TtyTo.mk ⟨h.blk.set_ 2 (.bool x), ⟨hp.ol, hp.ot, hp.ob, hp.nl, hp.nt, hp.nb, hp.lt, hp.lb, hp.tb, hp.e⟩, h.p⟩ ((Chg.refl (tOwn b lv tv bv) w).setCell (p := ⟨b, 2, none⟩) (.inl (.inl rfl)) _) (fun k hk => .inl hk)

theorem TtyIs.c2 {b : Nat} {S : Nat → Prop} {st : TS} {w : World} (h : TtyIs w b S st) : w.cell? ⟨b, 2, none⟩ = some (.bool st.silent) ∧ w.frozen? ⟨b, 2, none⟩ = false := by
  obtain ⟨lv, tv, bv, pa, h, rfl⟩ := h
  exact ⟨h.blk.cell 2, h.blk.frozen 2⟩

set_option maxHeartbeats 400000 in
theorem clear_any {b : Nat} {S : Nat → Prop} {st : TS} {w : World} (h : TtyIs w b S st) :
    Calls Try.prog 32 #[.pointer (some ⟨b, 0, none⟩)] w fun e w' => e = .returned (.tuple #[]) ∧ TtyTo w w' b S st.clear := by
  have H := hide h
  clear h
  go_enter Try.func32, Try.ntmps32
  go_wp2_with fail
  go_at_call 26
  refine (drop_any H.out).mono ?_
  rintro e w1 ⟨rfl, h1⟩
  obtain ⟨c2, z2⟩ : w1.cell? ⟨b, 2, none⟩ = some (.bool st.drop.silent) ∧ w1.frozen? ⟨b, 2, none⟩ = false := by
    obtain ⟨S1, h, _⟩ := h1
    exact h.c2
  have H1 := hide h1
  clear h1
  go_wp2
  go_returns
  exact ⟨rfl, H1.out.trans fun S1 h => TtyTo.silent h false⟩

set_option maxHeartbeats 400000 in
theorem echo_any {b : Nat} {S : Nat → Prop} {st : TS} {w : World} (h : TtyIs w b S st) (on : Bool) :
    Calls Try.prog 16 #[.pointer (some ⟨b, 0, none⟩), .bool on] w fun e w' => e = .returned (.tuple #[]) ∧ TtyTo w w' b S (st.echo on) := by
  obtain ⟨c2, z2⟩ := h.c2
  have H := hide h
  clear h
  cases he : (on == st.silent)
  · have He := hide he
    go_enter Try.func16, Try.ntmps16
    go_wp2
    go_returns
    refine ⟨rfl, ?_⟩
    unfold TS.echo
    rw [He.out]
    exact TtyTo.silent H.out _
  · have He := hide he
    go_enter Try.func16, Try.ntmps16
    go_wp2_with fail
    go_at_call 26
    refine (drop_any H.out).mono ?_
    rintro e w1 ⟨rfl, h1⟩
    obtain ⟨d2, y2⟩ : w1.cell? ⟨b, 2, none⟩ = some (.bool st.drop.silent) ∧ w1.frozen? ⟨b, 2, none⟩ = false := by
      obtain ⟨S1, h, _⟩ := h1
      exact h.c2
    have H1 := hide h1
    clear h1
    go_wp2
    go_returns
    refine ⟨rfl, ?_⟩
    unfold TS.echo
    rw [He.out]
    exact H1.out.trans fun S1 h => TtyTo.silent h _

theorem new_is (w : World) : TtyIs (w.alloc (.cells #[.slice none 0 0, .slice none 0 0, .bool false, .pointer none, .slice none 0 0, .int .i64 0] 55)) w.heap.size (one_ w.heap.size) ts0 := by
  refine ⟨.slice none 0 0, .slice none 0 0, .slice none 0 0, none, ⟨Blk.new w 55 _, ⟨Own.nil _ _ _ _, Own.nil _ _ _ _, Own.nil _ _ _ _, ?_, ?_, ?_, ?_, ?_, ?_, fun _ => rfl⟩, .inl rfl⟩, ?_⟩
  any_goals (simp [Value.ownBlock]; done)
  funext k
  simp [tOwn, one_, Value.ownBlock]

set_option maxHeartbeats 400000 in
theorem new_any (w : World) :
    Calls Try.prog 10 #[] w fun e w' => e = .returned (.pointer (some ⟨w.heap.size, 0, none⟩)) ∧ w' = w.alloc (.cells #[.slice none 0 0, .slice none 0 0, .bool false, .pointer none, .slice none 0 0, .int .i64 0] 55) := by
  go_enter Try.func10, Try.ntmps10
  go_wp2
  go_ret
  exact ⟨rfl, rfl⟩

end Go.Proofs.Ytpabcopkecgphaa
