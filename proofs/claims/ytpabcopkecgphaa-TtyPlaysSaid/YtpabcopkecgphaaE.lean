/- Walks: Read. -/
import Derived.Test.YtpabcopkecgphaaD
namespace Go.Proofs.Ytpabcopkecgphaa
open Go.RowKit

def TS.rdOk (s : TS) (n : Int) : Bool := !(decide (n < 1) || s.lines.isEmpty)
def TS.rdS (s : TS) (n : Int) : List UInt8 := if n < 1 then [] else match s.lines with | [] => [] | x :: _ => if n < x.length then x.take n.toNat else x
def TS.rd (s : TS) (n : Int) : TS := if n < 1 then s else match s.lines with | [] => s | x :: r => { s with lines := if n < x.length then x.drop n.toNat :: r else r }

set_option maxHeartbeats 400000 in
theorem read_neg {b : Nat} {S : Nat → Prop} {st : TS} {w : World} (h : TtyIs w b S st) (n : Int) (hn : n < 1) :
    Calls Try.prog 12 #[.pointer (some ⟨b, 0, none⟩), .int .i64 n] w fun e w' => e = .returned (.tuple #[.string ⟨#[]⟩, .bool false]) ∧ w' = w := by
  obtain ⟨lv, tv, bv, pa, h, rfl⟩ := h
  obtain ⟨a, cap, rfl, _, _⟩ := h.parts.ol.form
  obtain ⟨⟨c0, c1, c2, c3, c4, c5⟩, -⟩ := h.blk.c6
  clear h
  have hb : decide (n < 1) = true := by simpa using hn
  go_enter Try.func12, Try.ntmps12
  go_wp2
  go_ret2
  exact ⟨rfl, rfl⟩

set_option maxHeartbeats 400000 in
theorem read_none {b : Nat} {S : Nat → Prop} {st : TS} {w : World} (h : TtyIs w b S st) (n : Int) (hn : 1 ≤ n) (hl : st.lines = []) :
    Calls Try.prog 12 #[.pointer (some ⟨b, 0, none⟩), .int .i64 n] w fun e w' => e = .returned (.tuple #[.string ⟨#[]⟩, .bool false]) ∧ w' = w := by
  obtain ⟨lv, tv, bv, pa, h, rfl⟩ := h
  obtain ⟨a, cap, rfl, _, _⟩ := h.parts.ol.form
  obtain ⟨⟨c0, c1, c2, c3, c4, c5⟩, -⟩ := h.blk.c6
  rw [hl] at c0
  simp only [List.length_nil] at c0
  clear h
  go_enter Try.func12, Try.ntmps12
  go_wp2
  go_ret2
  exact ⟨rfl, rfl⟩

set_option maxHeartbeats 400000 in
theorem read_all {b : Nat} {S : Nat → Prop} {st : TS} {w : World} (h : TtyIs w b S st) (n : Int) (hn : 1 ≤ n) (x : List UInt8) (r : List (List UInt8)) (hl : st.lines = x :: r) (hx : (x.length : Int) ≤ n) (hw : waitOf st.lines ≤ 4096) :
    Calls Try.prog 12 #[.pointer (some ⟨b, 0, none⟩), .int .i64 n] w fun e w' => e = .returned (.tuple #[.string ⟨x.toArray⟩, .bool true]) ∧ TtyTo w w' b S { st with lines := r } := by
  obtain ⟨lv, tv, bv, pa, h, rfl⟩ := h
  have hlen : st.lines.length = r.length + 1 := by rw [hl]; rfl
  have hll := len_le_wait st.lines
  obtain ⟨g, off, cap, rfl, hnc, hcm, hgl, hcells⟩ := h.parts.ol.some_ (by omega)
  unfold maxLen at hcm
  have x0 : w.cell? ⟨g, off, none⟩ = some (.string ⟨x.toArray⟩) := by
    have := hcells 0 (by omega)
    rw [hl] at this
    exact this
  obtain ⟨⟨c0, c1, c2, c3, c4, c5⟩, z0, z1, z2, z3, z4, z5⟩ := h.blk.c6
  have hw1 : waitOf st.lines = max 1 x.length + waitOf r := by rw [hl]; rfl
  obtain ⟨m, hm⟩ : ∃ m : Nat, m = max 1 x.length := ⟨_, rfl⟩
  have hm1 : waitOf st.lines = m + waitOf r := by rw [hm]; exact hw1
  have hr : waitOf r + m ≤ 4096 := by omega
  rw [hm1] at c5
  rw [hlen] at c0 hnc
  have hxs : (ByteArray.mk x.toArray).size = x.length := by simp [ByteArray.size]
  have H := hide h
  have Hm := hide hm
  have Hm1 := hide hm1
  have Hl := hide hl
  have Hlen := hide hlen
  clear h hm hm1 hl hlen hw1 hcells hw hll
  have e0 : ((r.length : Int) + 1 == 0) = false := by simp; omega
  have e1 : decide (n < 1) = false := by simpa using hn
  go_enter Try.func12, Try.ntmps12
  go_wp2_with ((with_reducible refine wpList_max (m : Int) 1 x.length ?hx ?hy ?hk ?_); (case hx => exact rfl); (case hy => exact rfl); (case hk => have := Hm.out; omega))
  case inl =>
    go_ret2
    refine ⟨rfl, ?_⟩
    have hr0 : r = [] := List.eq_nil_of_length_eq_zero (by omega)
    subst hr0
    rw [show ((m : Int) + (waitOf [] : Int) - (m : Int)) = ((waitOf [] : Nat) : Int) from by omega]
    refine TtyTo.mk (lv' := .slice (some ⟨g, off, none⟩) 0 0) (tv' := tv) (bv' := bv) (pa' := pa) ⟨?_, ?_, H.out.p⟩ (((Chg.refl (tOwn b _ tv bv) w).setCell (p := ⟨b, 0, none⟩) (.inl (.inl rfl)) _).setCell (p := ⟨b, 5, none⟩) (.inl (.inl rfl)) _) (fun k hk => .inl hk)
    · exact (H.out.blk.set_ 0 _).set_ 5 _
    · have hp := H.out.parts
      have hp2 : Parts w b (.slice (some ⟨g, off, none⟩) 0 0) tv bv { st with lines := [] } := ⟨hp.ol.empty, hp.ot, hp.ob, hp.nl, hp.nt, hp.nb, hp.lt, hp.lb, hp.tb, hp.e⟩
      exact (hp2.far 0 _).far 5 _
  case inr =>
    go_ret2
    refine ⟨rfl, ?_⟩
    rw [show ((m : Int) + (waitOf r : Int) - (m : Int)) = ((waitOf r : Nat) : Int) from by omega]
    refine TtyTo.mk (lv' := .slice (some ⟨g, off + 1, none⟩) r.length (cap - 1)) (tv' := tv) (bv' := bv) (pa' := pa) ⟨?_, ?_, H.out.p⟩ (((Chg.refl (tOwn b _ tv bv) w).setCell (p := ⟨b, 0, none⟩) (.inl (.inl rfl)) _).setCell (p := ⟨b, 5, none⟩) (.inl (.inl rfl)) _) (fun k hk => .inl hk)
    · exact (H.out.blk.set_ 0 _).set_ 5 _
    · have hp := H.out.parts
      have ho := (hp.ol.from_ 1 (by have := Hlen.out; omega))
      rw [Hlen.out, Hl.out] at ho
      have ho2 : Own w 9 1 (.slice (some ⟨g, off + 1, none⟩) r.length (cap - 1)) r.length (lcells r) 0 := ho
      have hp2 : Parts w b (.slice (some ⟨g, off + 1, none⟩) r.length (cap - 1)) tv bv { st with lines := r } := ⟨ho2, hp.ot, hp.ob, hp.nl, hp.nt, hp.nb, hp.lt, hp.lb, hp.tb, hp.e⟩
      exact (hp2.far 0 _).far 5 _

theorem ext_take (x : List UInt8) (n : Nat) : (ByteArray.mk x.toArray).extract 0 n = ⟨(x.take n).toArray⟩ := by
  rw [ByteArray.extract_mk]; simp
theorem ext_drop (x : List UInt8) (n : Nat) : (ByteArray.mk x.toArray).extract n x.length = ⟨(x.drop n).toArray⟩ := by
  rw [ByteArray.extract_mk, List.take_of_length_le (by simp)]

set_option maxHeartbeats 400000 in
theorem read_part {b : Nat} {S : Nat → Prop} {st : TS} {w : World} (h : TtyIs w b S st) (n : Nat) (hn : 1 ≤ n) (x : List UInt8) (r : List (List UInt8)) (hl : st.lines = x :: r) (hx : n < x.length) (hw : waitOf st.lines ≤ 4096) :
    Calls Try.prog 12 #[.pointer (some ⟨b, 0, none⟩), .int .i64 n] w fun e w' => e = .returned (.tuple #[.string ⟨(x.take n).toArray⟩, .bool true]) ∧ TtyTo w w' b S { st with lines := x.drop n :: r } := by
  obtain ⟨lv, tv, bv, pa, h, rfl⟩ := h
  have hlen : st.lines.length = r.length + 1 := by rw [hl]; rfl
  have hll := len_le_wait st.lines
  obtain ⟨g, off, cap, rfl, hnc, hcm, hgl, hcells⟩ := h.parts.ol.some_ (by omega)
  unfold maxLen at hcm
  have x0 : w.cell? ⟨g, off, none⟩ = some (.string ⟨x.toArray⟩) := by
    have := hcells 0 (by omega)
    rw [hl] at this
    exact this
  have y0 : w.frozen? ⟨g, off, none⟩ = false := h.parts.ol.frozen0 0
  have hgb : b ≠ g := fun e => h.parts.nl (by rw [e]; rfl)
  obtain ⟨⟨c0, c1, c2, c3, c4, c5⟩, z0, z1, z2, z3, z4, z5⟩ := h.blk.c6
  have hw1 : waitOf st.lines = x.length + waitOf r := by rw [hl, waitOf, Nat.max_eq_right (by omega)]
  rw [hw1] at c5
  rw [hlen] at c0 hnc
  have hxs : (ByteArray.mk x.toArray).size = x.length := by simp [ByteArray.size]
  have h1 : x.length + waitOf r ≤ 4096 := by omega
  have H := hide h
  have Hw1 := hide hw1
  have Hl := hide hl
  have Hlen := hide hlen
  clear h hw1 hl hlen hcells hw hll
  have e0 : ((r.length : Int) + 1 == 0) = false := by simp; omega
  have e1 : decide ((n : Int) < 1) = false := by simp; omega
  have hx' : n ≤ x.length := by omega
  have mixed : Try.prog.follows .mixedOrders = true := by kernel_rfl
  go_enter Try.func12, Try.ntmps12
  go_wp2
  go_region_o
  rw [ext_take, ext_drop]
  generalize hs1 : (ByteArray.mk (x.take n).toArray) = s1
  have hsz : s1.size = n := by rw [← hs1]; simp [ByteArray.size]; omega
  have Hs1 := hide hs1
  clear hs1
  have hb1 : Blk (w.setCell ⟨g, off, none⟩ (.string ⟨(x.drop n).toArray⟩)).drew b 55 _ := (H.out.blk.far (p := ⟨g, off, none⟩) hgb _).drew
  rw [Hw1.out] at hb1
  obtain ⟨⟨d0, d1, d2, d3, d4, d5⟩, u0, u1, u2, u3, u4, u5⟩ := hb1.c6
  clear hb1 c0 c1 c2 c3 c4 c5 x0
  have hn2 : n + waitOf r ≤ 4096 := by omega
  go_wp2_with ((with_reducible refine wpList_max (n : Int) 1 (n : Int) ?hx ?hy ?hk ?_); (case hx => exact rfl); (case hy => exact rfl); (case hk => omega))
  go_ret2
  refine ⟨by rw [Hs1.out]; rfl, ?_⟩
  rw [show ((x.length : Int) + (waitOf r : Int) - (n : Int)) = ((waitOf (x.drop n :: r) : Nat) : Int) from by
    rw [waitOf, List.length_drop, Nat.max_eq_right (by omega)]; omega]
  have hp := H.out.parts
  have ho : Own (w.setCell ⟨g, off, none⟩ (.string ⟨(x.drop n).toArray⟩)) 9 1 (.slice (some ⟨g, off, none⟩) st.lines.length cap) (x.drop n :: r).length (lcells (x.drop n :: r)) 0 := by
    have := hp.ol.set 0 (by have := Hlen.out; omega) (.string ⟨(x.drop n).toArray⟩)
    rw [Hl.out] at this ⊢
    exact this
  have hc : Chg (fun k => (Value.slice (some ⟨g, off, none⟩) st.lines.length cap).ownBlock = some k) w (w.setCell ⟨g, off, none⟩ (.string ⟨(x.drop n).toArray⟩)) :=
    (Chg.refl (fun k => (Value.slice (some ⟨g, off, none⟩) st.lines.length cap).ownBlock = some k) w).setCell (p := ⟨g, off, none⟩) (.inl rfl) _
  have hp2 := (hp.newL (ls := x.drop n :: r) H.out.blk.lt ho hc (fun k hk => .inl hk)).far 5 (.int .i64 ((waitOf (x.drop n :: r) : Nat) : Int))
  exact TtyTo.mk (w' := ((w.setCell ⟨g, off, none⟩ (.string ⟨(x.drop n).toArray⟩)).setCell ⟨b, 5, none⟩ (.int .i64 ((waitOf (x.drop n :: r) : Nat) : Int))).drew) (lv' := .slice (some ⟨g, off, none⟩) st.lines.length cap) (tv' := tv) (bv' := bv) (pa' := pa)
    ⟨(H.out.blk.far (p := ⟨g, off, none⟩) hgb _).set_ 5 _, ⟨hp2.ol, hp2.ot, hp2.ob, hp2.nl, hp2.nt, hp2.nb, hp2.lt, hp2.lb, hp2.tb, hp2.e⟩, H.out.p⟩
    (((hc.mono (T := tOwn b _ tv bv) (fun _ _ e => .inr (.inl e))).setCell (p := ⟨b, 5, none⟩) (.inl (.inl rfl)) _).drew) (fun k hk => .inl hk)

theorem read_any {b : Nat} {S : Nat → Prop} {st : TS} {w : World} (h : TtyIs w b S st) (n : Int) (hw : waitOf st.lines ≤ 4096) :
    Calls Try.prog 12 #[.pointer (some ⟨b, 0, none⟩), .int .i64 n] w fun e w' => e = .returned (.tuple #[.string ⟨(st.rdS n).toArray⟩, .bool (st.rdOk n)]) ∧ TtyTo w w' b S (st.rd n) := by
  by_cases hn : n < 1
  · refine (read_neg h n hn).mono ?_
    rintro e w' ⟨rfl, rfl⟩
    refine ⟨by simp [TS.rdS, TS.rdOk, hn], ?_⟩
    rw [show st.rd n = st from by simp [TS.rd, hn]]
    exact TtyTo.refl h
  · cases hl : st.lines with
    | nil =>
      refine (read_none h n (by omega) hl).mono ?_
      rintro e w' ⟨rfl, rfl⟩
      refine ⟨by simp [TS.rdS, TS.rdOk, hn, hl], ?_⟩
      rw [show st.rd n = st from by simp [TS.rd, hn, hl]]
      exact TtyTo.refl h
    | cons x r =>
      by_cases hx : n < x.length
      · obtain ⟨m, rfl⟩ : ∃ m : Nat, n = m := ⟨n.toNat, by omega⟩
        refine (read_part h m (by omega) x r hl (by omega) hw).mono ?_
        rintro e w' ⟨rfl, h'⟩
        have hx' : m < x.length := by omega
        refine ⟨by simp [TS.rdS, TS.rdOk, hn, hl, hx'], ?_⟩
        rw [show st.rd m = { st with lines := x.drop m :: r } from by simp [TS.rd, hn, hl, hx']]
        exact h'
      · refine (read_all h n (by omega) x r hl (by omega) hw).mono ?_
        rintro e w' ⟨rfl, h'⟩
        refine ⟨by simp [TS.rdS, TS.rdOk, hn, hl, hx], ?_⟩
        rw [show st.rd n = { st with lines := r } from by simp [TS.rd, hn, hl, hx]]
        exact h'

end Go.Proofs.Ytpabcopkecgphaa
