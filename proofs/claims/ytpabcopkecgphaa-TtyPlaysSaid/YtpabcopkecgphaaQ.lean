/- The reference's terminal: what lies in memory; Write, Echo, Clear, Unread, full, back. -/
import Derived.Test.YtpabcopkecgphaaN
import Derived.Test.YtpabcopkecgphaaStep
namespace Go.Proofs.Ytpabcopkecgphaa
open Go.RowKit

def rcells (l : List (List UInt8)) : List Value := l.flatMap fun s => [.string ⟨s.toArray⟩, .bool s.isEmpty]
theorem rcells_append (a b : List (List UInt8)) : rcells (a ++ b) = rcells a ++ rcells b := by simp [rcells]
theorem rcells_length (l : List (List UInt8)) : (rcells l).length = l.length * 2 := by
  induction l with
  | nil => rfl
  | cons x r ih => simp only [rcells, List.flatMap_cons, List.length_append, List.length_cons, List.length_nil] at ih ⊢; omega
theorem rcells_drop (x : List UInt8) (r : List (List UInt8)) : (rcells (x :: r)).drop 2 = rcells r := rfl
theorem rcells_get (l : List (List UInt8)) : ∀ (k : Nat) (hk : k < l.length), (rcells l)[k * 2]? = some (.string ⟨l[k].toArray⟩) ∧ (rcells l)[k * 2 + 1]? = some (.bool l[k].isEmpty) := by
  induction l with
  | nil => intro k hk; simp at hk
  | cons x r ih =>
    intro k hk
    cases k with
    | zero => exact ⟨rfl, rfl⟩
    | succ k =>
      obtain ⟨h1, h2⟩ := ih k (by simpa using hk)
      have e : ∀ j, (rcells (x :: r))[j + 2]? = (rcells r)[j]? := fun j => rfl
      rw [show (k + 1) * 2 = k * 2 + 2 by omega, show k * 2 + 2 + 1 = k * 2 + 1 + 2 by omega, e, e]
      exact ⟨h1, h2⟩

structure RefAt (w : World) (b : Nat) (lv : Value) (st : TS) : Prop where
  blk : Blk w b 46 #[lv, .string ⟨st.typed.toArray⟩, .bool st.silent, .string ⟨st.screen.toArray⟩]
  own : Own w 60 2 lv st.lines.length (rcells st.lines) 0
  n : lv.ownBlock ≠ some b
def rOwn (b : Nat) (lv : Value) : Nat → Prop := fun k => k = b ∨ lv.ownBlock = some k
def RefIs (w : World) (b : Nat) (S : Nat → Prop) (st : TS) : Prop := ∃ lv, RefAt w b lv st ∧ S = rOwn b lv
def RefTo (w w' : World) (b : Nat) (S : Nat → Prop) (st' : TS) : Prop := ∃ S', RefIs w' b S' st' ∧ (∀ k, S' k → S k ∨ w.heap.size ≤ k) ∧ Chg S w w'

section
variable {w w' w1 w2 : World} {b : Nat} {lv : Value} {st st1 st2 : TS} {S : Nat → Prop}
theorem RefIs.lt (h : RefIs w b S st) {k : Nat} (hk : S k) : k < w.heap.size := by
  obtain ⟨lv, h, rfl⟩ := h
  rcases hk with rfl | hk
  · exact h.blk.lt
  · exact h.own.lt hk
theorem RefIs.chg {T : Nat → Prop} (h : RefIs w b S st) (hc : Chg T w w') (hd : ∀ k, S k → ¬ T k) : RefIs w' b S st := by
  obtain ⟨lv, h, rfl⟩ := h
  exact ⟨lv, ⟨h.blk.chg hc (hd b (.inl rfl)), h.own.chg hc fun k hk => hd k (.inr hk), h.n⟩, rfl⟩
theorem RefIs.drewN (h : RefIs w b S st) (n : Nat) : RefIs (w.drewN n) b S st := h.chg ((Chg.refl nobody w).drewN n) (fun _ _ e => e)
theorem RefTo.refl (h : RefIs w b S st) : RefTo w w b S st := ⟨S, h, fun _ hk => .inl hk, Chg.refl _ _⟩
theorem RefTo.drewN (h : RefIs w b S st) (n : Nat) : RefTo w (w.drewN n) b S st := ⟨S, h.drewN n, fun _ hk => .inl hk, (Chg.refl _ w).drewN n⟩
theorem RefTo.then {S1 : Nat → Prop} (h2 : ∀ k, S1 k → S k ∨ w.heap.size ≤ k) (h3 : Chg S w w1) (k : RefTo w1 w2 b S1 st2) : RefTo w w2 b S st2 := by
  obtain ⟨S2, k1, k2, k3⟩ := k
  refine ⟨S2, k1, fun i hi => ?_, h3.trans k3 fun i hi hs => (h2 i hs).elim id (fun h => absurd h (by omega))⟩
  rcases k2 i hi with hi | hi
  · exact h2 i hi
  · exact .inr (Nat.le_trans h3.size hi)
theorem RefTo.trans (h : RefTo w w1 b S st1) (k : ∀ S1, RefIs w1 b S1 st1 → RefTo w1 w2 b S1 st2) : RefTo w w2 b S st2 := by
  obtain ⟨S1, h1, h2, h3⟩ := h
  exact RefTo.then h2 h3 (k S1 h1)
theorem RefTo.mk {lv' : Value} (h' : RefAt w' b lv' st1) (hc : Chg (rOwn b lv) w w') (hn : ∀ k, lv'.ownBlock = some k → lv.ownBlock = some k ∨ w.heap.size ≤ k) : RefTo w w' b (rOwn b lv) st1 := by
  refine ⟨_, ⟨lv', h', rfl⟩, fun k hk => ?_, hc⟩
  rcases hk with rfl | hk
  · exact .inl (.inl rfl)
  · exact (hn k hk).imp .inr id
/-- A store into the block itself. -/
theorem RefAt.set (h : RefAt w b lv st) (i : Nat) (u : Value) (st1 : TS) (hl : st1.lines = st.lines) (hb : (#[lv, .string ⟨st.typed.toArray⟩, .bool st.silent, .string ⟨st.screen.toArray⟩] : Array Value).setIfInBounds i u = #[lv, .string ⟨st1.typed.toArray⟩, .bool st1.silent, .string ⟨st1.screen.toArray⟩]) :
    RefAt (w.setCell ⟨b, i, none⟩ u) b lv st1 := by
  refine ⟨hb ▸ h.blk.set_ i u, ?_, h.n⟩
  rw [hl]
  exact h.own.far h.n u
theorem RefTo.set (h : RefIs w b S st) (i : Nat) (u : Value) (st1 : TS) (hl : st1.lines = st.lines) (hb : ∀ lv : Value, (#[lv, .string ⟨st.typed.toArray⟩, .bool st.silent, .string ⟨st.screen.toArray⟩] : Array Value).setIfInBounds i u = #[lv, .string ⟨st1.typed.toArray⟩, .bool st1.silent, .string ⟨st1.screen.toArray⟩]) :
    RefTo w (w.setCell ⟨b, i, none⟩ u) b S st1 := by
  obtain ⟨lv, h, rfl⟩ := h
  exact RefTo.mk (h.set i u st1 hl (hb lv)) ((Chg.refl (rOwn b lv) w).setCell (p := ⟨b, i, none⟩) (.inl (.inl rfl)) u) (fun k hk => .inl hk)
theorem RefIs.cells (h : RefIs w b S st) : ∃ a cap, w.cell? ⟨b, 0, none⟩ = some (.slice a st.lines.length cap) ∧ w.cell? ⟨b, 1, none⟩ = some (.string ⟨st.typed.toArray⟩) ∧ w.cell? ⟨b, 2, none⟩ = some (.bool st.silent) ∧ w.cell? ⟨b, 3, none⟩ = some (.string ⟨st.screen.toArray⟩) := by
  obtain ⟨lv, h, rfl⟩ := h
  obtain ⟨a, cap, rfl, _, _⟩ := h.own.form
  exact ⟨a, cap, h.blk.cell 0, h.blk.cell 1, h.blk.cell 2, h.blk.cell 3⟩
theorem RefIs.free (h : RefIs w b S st) : w.frozen? ⟨b, 0, none⟩ = false ∧ w.frozen? ⟨b, 1, none⟩ = false ∧ w.frozen? ⟨b, 2, none⟩ = false ∧ w.frozen? ⟨b, 3, none⟩ = false := by
  obtain ⟨lv, h, rfl⟩ := h
  exact ⟨h.blk.frozen 0, h.blk.frozen 1, h.blk.frozen 2, h.blk.frozen 3⟩
end

theorem arr_size (a : List UInt8) : (ByteArray.mk a.toArray).size = a.length := by simp [ByteArray.size]
theorem arr_app (a : List UInt8) (s : ByteArray) : (⟨a.toArray⟩ : ByteArray) ++ s = ⟨(a ++ s.data.toList).toArray⟩ := by apply ByteArray.ext; simp

set_option maxHeartbeats 400000 in
theorem rwrite_any {b : Nat} {S : Nat → Prop} {st : TS} {w : World} (h : RefIs w b S st) (s : ByteArray) (hlen : st.screen.length + s.size ≤ 1099511627776) :
    Calls Try.prog 30 #[.pointer (some ⟨b, 0, none⟩), .string s] w fun e w' => e = .returned (.tuple #[]) ∧ RefTo w w' b S { st with screen := st.screen ++ s.data.toList } := by
  obtain ⟨a, cap, c0, c1, c2, c3⟩ := h.cells
  obtain ⟨z0, z1, z2, z3⟩ := h.free
  have hz : (ByteArray.mk st.screen.toArray).size ≤ 1099511627776 := by rw [arr_size]; omega
  have hz2 : (ByteArray.mk st.screen.toArray).size + s.size ≤ 1099511627776 := by rw [arr_size]; exact hlen
  have H := hide h
  clear h
  go_enter Try.func30, Try.ntmps30
  go_wp2
  go_returns
  refine ⟨rfl, ?_⟩
  rw [arr_app]
  exact RefTo.set H.out 3 _ _ rfl (fun _ => rfl)

set_option maxHeartbeats 400000 in
theorem rclear_any {b : Nat} {S : Nat → Prop} {st : TS} {w : World} (h : RefIs w b S st) :
    Calls Try.prog 33 #[.pointer (some ⟨b, 0, none⟩)] w fun e w' => e = .returned (.tuple #[]) ∧ RefTo w w' b S st.clear := by
  obtain ⟨a, cap, c0, c1, c2, c3⟩ := h.cells
  obtain ⟨z0, z1, z2, z3⟩ := h.free
  have H := hide h
  clear h
  go_enter Try.func33, Try.ntmps33
  go_wp2
  go_returns
  refine ⟨rfl, ?_⟩
  obtain ⟨lv, h, rfl⟩ := H.out
  exact RefTo.mk (lv' := .slice none 0 0) ⟨((h.blk.set_ 0 _).set_ 1 _).set_ 2 _, Own.nil _ _ _ _, by simp [Value.ownBlock]⟩
    ((((Chg.refl (rOwn b lv) w).setCell (p := ⟨b, 0, none⟩) (.inl (.inl rfl)) _).setCell (p := ⟨b, 1, none⟩) (.inl (.inl rfl)) _).setCell (p := ⟨b, 2, none⟩) (.inl (.inl rfl)) _) (fun k hk => by simp [Value.ownBlock] at hk)

set_option maxHeartbeats 400000 in
theorem recho_any {b : Nat} {S : Nat → Prop} {st : TS} {w : World} (h : RefIs w b S st) (on : Bool) :
    Calls Try.prog 31 #[.pointer (some ⟨b, 0, none⟩), .bool on] w fun e w' => e = .returned (.tuple #[]) ∧ RefTo w w' b S (st.echo on) := by
  obtain ⟨a, cap, c0, c1, c2, c3⟩ := h.cells
  obtain ⟨z0, z1, z2, z3⟩ := h.free
  have H := hide h
  clear h
  cases he : (on == st.silent)
  · have He := hide he
    go_enter Try.func31, Try.ntmps31
    go_wp2
    go_returns
    refine ⟨rfl, ?_⟩
    unfold TS.echo
    rw [He.out]
    exact RefTo.set H.out 2 _ _ rfl (fun _ => rfl)
  · have He := hide he
    go_enter Try.func31, Try.ntmps31
    go_wp2
    go_returns
    refine ⟨rfl, ?_⟩
    unfold TS.echo
    rw [He.out]
    obtain ⟨lv, h, rfl⟩ := H.out
    exact RefTo.mk (lv' := .slice none 0 0) ⟨((h.blk.set_ 0 _).set_ 1 _).set_ 2 _, Own.nil _ _ _ _, by simp [Value.ownBlock]⟩
      ((((Chg.refl (rOwn b lv) w).setCell (p := ⟨b, 0, none⟩) (.inl (.inl rfl)) _).setCell (p := ⟨b, 1, none⟩) (.inl (.inl rfl)) _).setCell (p := ⟨b, 2, none⟩) (.inl (.inl rfl)) _) (fun k hk => by simp [Value.ownBlock] at hk)

theorem waitOf_take (l : List (List UInt8)) (k : Nat) (hk : k < l.length) : waitOf (l.take (k + 1)) = waitOf (l.take k) + max 1 l[k].length := by
  rw [List.take_succ_eq_append_getElem hk, waitOf_append]

set_option maxHeartbeats 1000000 in
theorem runread_any {b : Nat} {S : Nat → Prop} {st : TS} {w : World} (h : RefIs w b S st) (hi : st.Inv) :
    Calls Try.prog 19 #[.pointer (some ⟨b, 0, none⟩)] w fun e w' => e = .returned (.tuple #[.int .i64 (waitOf st.lines : Nat), .int .i64 (st.typed.length : Nat)]) ∧ RefTo w w' b S st := by
  obtain ⟨a, cap, c0, c1, c2, c3⟩ := h.cells
  have hcell : ∀ k (hk : k < st.lines.length), ∃ g off, a = some ⟨g, off, none⟩ ∧ w.cell? ⟨g, off + k * 2, none⟩ = some (.string ⟨st.lines[k].toArray⟩) ∧ w.cell? ⟨g, off + k * 2 + 1, none⟩ = some (.bool st.lines[k].isEmpty) := by
    intro k hk
    obtain ⟨lv, h, rfl⟩ := h
    obtain ⟨g, off, cap', rfl, _, _, _, hc⟩ := h.own.some_ (by omega)
    have hx := h.blk.cell 0
    rw [c0] at hx
    have hx2 : Value.slice a st.lines.length cap = .slice (some ⟨g, off, none⟩) st.lines.length cap' := by simpa using hx
    injection hx2 with e1 _ _
    obtain ⟨r1, r2⟩ := rcells_get st.lines k hk
    exact ⟨g, off, e1, (hc (k * 2) (by omega)).trans r1, (hc (k * 2 + 1) (by omega)).trans r2⟩
  have hwa := hi.a
  have hll := len_le_wait st.lines
  have Hcell := hide hcell
  have H := hide h
  clear h hcell hi
  obtain ⟨L, hL⟩ : ∃ L : Nat, L = st.lines.length := ⟨_, rfl⟩
  rw [← hL] at c0
  have hL2 : L ≤ 1024 := by omega
  have HL := hide hL
  have Hwa := hide hwa
  clear hwa hll hL
  go_enter Try.func19, Try.ntmps19
  go_wp2_with fail
  go_loop [4, 5] (fun vn v => ∃ k n : Nat, v = .int .i64 k ∧ vn = .int .i64 n ∧ k ≤ L ∧ n ≤ 1024 ∧ Hid (n = waitOf (st.lines.take k))) (fun _ v => L - (intOf v).toNat)
  case atStart => exact ⟨0, 0, rfl, rfl, by omega, by omega, hide (by simp [waitOf])⟩
  case round =>
    obtain ⟨k, n, rfl, rfl, hk, hn, Hn⟩ := hrel
    by_cases hlt : k < L
    · obtain ⟨g, off, rfl, d0, d1⟩ := Hcell.out k (by rw [← HL.out]; exact hlt)
      have hw1 := waitOf_take st.lines k (by rw [← HL.out]; exact hlt)
      obtain ⟨x, hx⟩ : ∃ x, x = st.lines[k]'(by rw [← HL.out]; exact hlt) := ⟨_, rfl⟩
      rw [← hx] at d0 d1 hw1
      have hsz : (ByteArray.mk x.toArray).size = x.length := by simp [ByteArray.size]
      have hle : waitOf (st.lines.take (k + 1)) ≤ waitOf st.lines := by
        have := List.take_append_drop (k + 1) st.lines
        have h2 : ∀ a b : List (List UInt8), waitOf (a ++ b) = waitOf a + waitOf b := by
          intro a b
          induction a with
          | nil => simp [waitOf]
          | cons x r ih => simp only [List.cons_append, waitOf, ih]; omega
        have h3 := h2 (st.lines.take (k + 1)) (st.lines.drop (k + 1))
        rw [this] at h3
        omega
      have hb : n + max 1 x.length ≤ 1024 := by have := Hn.out; have := Hwa.out; omega
      have Hw1 := hide hw1
      clear hw1 hle hx
      cases x with
      | nil =>
        go_wp2
        go_round
        case rel => exact ⟨k + 1, n + 1, by go_num, by go_num, by omega, by simpa using hb, hide (by rw [Hw1.out, ← Hn.out]; rfl)⟩
        case measure => simp [intOf]; omega
      | cons c r =>
        simp only [List.length_cons] at hb
        have hb2 : n + (r.length + 1) ≤ 1024 := by omega
        have hmx : max 1 (r.length + 1) = r.length + 1 := by omega
        have Hmx := hide hmx
        clear hsz hb hmx
        go_wp2
        go_round
        case rel => exact ⟨k + 1, n + (r.length + 1), by go_num, by go_num, by omega, by omega, hide (by rw [Hw1.out, ← Hn.out]; simp only [List.length_cons]; rw [Hmx.out])⟩
        case measure => simp [intOf]; omega
    · have hk2 : k = L := by omega
      have hnw : n = waitOf st.lines := by rw [Hn.out, hk2, HL.out, List.take_length]
      have Hnw := hide hnw
      have hty : (ByteArray.mk st.typed.toArray).size = st.typed.length := arr_size _
      have Hty := hide hty
      clear hk2 hnw hty
      go_wp2_with fail
      go_quiet (fail)
      go_wp2
      trace_state
      go_ret2
      rw [← Hnw.out]
      exact ⟨rfl, RefTo.drewN H.out _⟩

end Go.Proofs.Ytpabcopkecgphaa
