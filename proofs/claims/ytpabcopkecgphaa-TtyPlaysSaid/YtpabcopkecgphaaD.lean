/- Walks: rubs, comes. -/
import Derived.Test.YtpabcopkecgphaaC
namespace Go.Proofs.Ytpabcopkecgphaa
open Go.RowKit

def bsb : List UInt8 := [8, 32, 8]
def TS.rub (s : TS) : TS := if s.typed = [] then s else TS.show { s with typed := s.typed.dropLast } bsb
def TS.come (s : TS) (l : List UInt8) : TS := { s with lines := s.lines ++ [l], typed := [] }

theorem waitOf_append (a : List (List UInt8)) (l : List UInt8) : waitOf (a ++ [l]) = waitOf a + max 1 l.length := by
  induction a with
  | nil => simp [waitOf]
  | cons x r ih => simp [waitOf, ih, Nat.add_assoc]
theorem len_le_wait (a : List (List UInt8)) : a.length ≤ waitOf a := by
  induction a with
  | nil => simp
  | cons x r ih => simp only [List.length_cons, waitOf]; omega

/-- typed cut to its first m bytes. -/
theorem Parts.cut {w : World} {b : Nat} {lv bv : Value} {st : TS} {g off n cap : Nat} (h : Parts w b lv (.slice (some ⟨g, off, none⟩) n cap) bv st) (hn : n = st.typed.length) (m : Nat) (hm : m ≤ n) :
    Parts w b lv (.slice (some ⟨g, off, none⟩) m cap) bv { st with typed := st.typed.take m } := by
  subst hn
  have ho := h.ot.to_ m hm
  refine ⟨h.ol, ?_, h.ob, h.nl, h.nt, h.nb, h.lt, h.lb, h.tb, h.e⟩
  have hl : (st.typed.take m).length = m := by rw [List.length_take]; omega
  rw [Nat.mul_one, bcells_take] at ho
  simpa [hl] using ho

theorem Parts.cut0 {w : World} {b : Nat} {lv bv : Value} {st : TS} {a : Option Addr} {n cap : Nat} (h : Parts w b lv (.slice a n cap) bv st) :
    Parts w b lv (.slice a 0 cap) bv { st with typed := [] } := by
  have hob : (Value.slice a 0 cap).ownBlock = (Value.slice a n cap).ownBlock := by cases a <;> rfl
  refine ⟨h.ol, ?_, h.ob, h.nl, hob ▸ h.nt, h.nb, fun k hk => hob ▸ h.lt k hk, h.lb, fun k hk => h.tb k (hob ▸ hk), h.e⟩
  refine ⟨rfl, ?_⟩
  rcases h.ot.2 with ⟨hv, _⟩ | ⟨g, off, cap', cur, fz, hv, hg, h1, h2, h3, h4, h5⟩
  · injection hv with e1 _ e2
    subst e1 e2
    exact .inl ⟨rfl, rfl⟩
  · injection hv with e1 _ e2
    subst e1 e2
    exact .inr ⟨g, off, cap, cur, fz, rfl, hg, h1, by simp, h3, h4, fun j hj => absurd hj (by simp)⟩

set_option maxHeartbeats 400000 in
theorem rubs_none {b : Nat} {S : Nat → Prop} {st : TS} {w : World} (h : TtyIs w b S st) (ht : st.typed = []) :
    Calls Try.prog 21 #[.pointer (some ⟨b, 0, none⟩)] w fun e w' => e = .returned (.bool false) ∧ w' = w := by
  obtain ⟨lv, tv, bv, pa, h, rfl⟩ := h
  obtain ⟨a, cap, rfl, _, _⟩ := h.parts.ot.form
  obtain ⟨⟨c0, c1, c2, c3, c4, c5⟩, z0, z1, z2, z3, z4, z5⟩ := h.blk.c6
  have hl : st.typed.length = 0 := by rw [ht]; rfl
  rw [hl] at c1
  clear h ht hl
  go_enter Try.func21, Try.ntmps21
  go_wp2
  go_ret
  exact ⟨rfl, rfl⟩

set_option maxHeartbeats 400000 in
theorem rubs_some {b : Nat} {S : Nat → Prop} {st : TS} {w : World} (h : TtyIs w b S st) (ht : st.typed ≠ []) (hlen : st.screen.length + 3 ≤ 1099511627776) :
    Calls Try.prog 21 #[.pointer (some ⟨b, 0, none⟩)] w fun e w' => e = .returned (.bool true) ∧ TtyTo w w' b S st.rub := by
  obtain ⟨lv, tv, bv, pa, h, rfl⟩ := h
  have hl0 : 0 < st.typed.length := List.length_pos_iff.2 ht
  obtain ⟨g, off, cap, rfl, hnc, hcm, _, _⟩ := h.parts.ot.some_ hl0
  obtain ⟨⟨c0, c1, c2, c3, c4, c5⟩, z0, z1, z2, z3, z4, z5⟩ := h.blk.c6
  obtain ⟨n, hn⟩ : ∃ n : Nat, n = st.typed.length := ⟨_, rfl⟩
  rw [← hn] at c1 hnc hl0 h ⊢
  unfold maxLen at hcm
  have hT1 : TtyTo w (w.setCell ⟨b, 1, none⟩ (.slice (some ⟨g, off, none⟩) (n - 1) cap)) b (tOwn b lv (.slice (some ⟨g, off, none⟩) n cap) bv) { st with typed := st.typed.dropLast } := by
    have hp := (h.parts.cut hn (n - 1) (by omega)).far 1 (.slice (some ⟨g, off, none⟩) (n - 1) cap)
    rw [List.dropLast_eq_take, ← hn]
    exact TtyTo.mk ⟨h.blk.set_ 1 _, hp, h.p⟩ ((Chg.refl (tOwn b lv (.slice (some ⟨g, off, none⟩) n cap) bv) w).setCell (p := ⟨b, 1, none⟩) (.inl (.inl rfl)) _) (fun k hk => .inl hk)
  have HT1 := hide hT1
  have Ht := hide ht
  have Hn := hide hn
  clear hT1 h ht hn
  go_enter Try.func21, Try.ntmps21
  go_wp2_with fail
  go_at_call 24
  obtain ⟨S1, h1, h2, h3⟩ := HT1.out
  have H2 := hide h2
  have H3 := hide h3
  clear h2 h3
  refine (shows_any (st := { st with typed := st.typed.dropLast }) (S := S1) ?_ ⟨#[8, 32, 8]⟩ hlen).mono ?_
  · exact h1
  rintro e w1 ⟨rfl, hT⟩
  have HT := hide hT
  clear hT
  go_wp2
  go_ret
  refine ⟨rfl, ?_⟩
  rw [show st.rub = TS.show { st with typed := st.typed.dropLast } bsb from by unfold TS.rub; rw [if_neg Ht.out]]
  exact TtyTo.then H2.out H3.out HT.out

set_option maxHeartbeats 400000 in
theorem comes_any {b : Nat} {S : Nat → Prop} {st : TS} {w : World} (h : TtyIs w b S st) (s : ByteArray) (hs : s.size ≤ 4096) (hw : waitOf st.lines ≤ 4096) :
    Calls Try.prog 22 #[.pointer (some ⟨b, 0, none⟩), .string s] w fun e w' => e = .returned (.tuple #[]) ∧ TtyTo w w' b S (st.come s.data.toList) := by
  obtain ⟨lv, tv, bv, pa, h0, rfl⟩ := h
  have hll := len_le_wait st.lines
  have hk0 : 0 < (1 : Nat) := by omega
  have h : TtyAt (w.alloc (.cells #[.string s] 9)) b lv tv bv pa st := ⟨h0.blk.alloc _, h0.parts.alloc _, h0.p⟩
  have hA : (w.alloc (.cells #[.string s] 9)).cell? ⟨w.heap.size, 0, none⟩ = some (.string s) := World.cell?_alloc_new w _ _ 0
  have hnew : ∀ j u, (lcells [s.data.toList])[j]? = some u → (w.alloc (.cells #[.string s] 9)).cell? ((⟨w.heap.size, 0, none⟩ : Addr).add j) = some u := by
    intro j u hu
    cases j with
    | zero => simp [lcells] at hu; subst hu; exact hA
    | succ j => simp [lcells] at hu
  have hone : ∀ u ∈ lcells [s.data.toList], u.oneCell' = true := by
    intro u hu
    simp [lcells] at hu
    subst hu
    rfl
  obtain ⟨ta, tcap, htv, _, htc⟩ := h0.parts.ot.form
  subst htv
  unfold maxLen at htc
  obtain ⟨⟨c0, c1, c2, c3, c4, c5⟩, z0, z1, z2, z3, z4, z5⟩ := h0.blk.c6
  have H := hide h
  have H0 := hide h0
  clear h h0
  go_enter Try.func22, Try.ntmps22
  go_wp2_with (at_builtin; refine wpList_appAt 9 (.string .empty) 1 16 (by kernel_rfl) info9 rfl lv st.lines.length (lcells st.lines) 0 (.slice (some ⟨w.heap.size, 0, none⟩) 1 1) 1 (lcells [s.data.toList]) rfl rfl H.out.parts.ol (by omega) (Src.ofSlice (e' := 9) _ (by kernel_rfl) _ _ _ _ rfl hnew hone) (by unfold maxLen; omega) (by omega) ?_)
  intro lv' w2 ho hc hn _
  obtain ⟨a', cap', rfl, _, _⟩ := ho.form
  have hb2 := H.out.blk.chg hc (fun e => H.out.parts.nl e)
  have hp2 := H.out.parts.newL (ls := st.lines ++ [s.data.toList]) H.out.blk.lt (by
    rw [show lcells (st.lines ++ [s.data.toList]) = lcells st.lines ++ lcells [s.data.toList] from by simp [lcells], List.length_append]; exact ho) hc hn
  obtain ⟨⟨d0, d1, d2, d3, d4, d5⟩, y0, y1, y2, y3, y4, y5⟩ := hb2.c6
  have Hb2 := hide hb2
  have Hp2 := hide hp2
  have Hc := hide hc
  have Hn := hide hn
  clear hb2 hp2 hc hn ho
  have hmax : max 1 s.size = if s.size < 1 then 1 else s.size := by split <;> omega
  obtain ⟨m, hm⟩ : ∃ m : Nat, m = max 1 s.size := ⟨_, rfl⟩
  have hm2 : m ≤ 4096 := by omega
  have Hm := hide hm
  clear hm hmax
  go_wp2_with ((with_reducible refine wpList_max (m : Int) 1 s.size ?hx ?hy ?hk ?_); (case hx => exact rfl); (case hy => exact rfl); (case hk => have := Hm.out; omega))
  go_returns
  refine ⟨rfl, ?_⟩
  have hw2 : waitOf (st.come s.data.toList).lines = waitOf st.lines + m := by
    rw [show (st.come s.data.toList).lines = st.lines ++ [s.data.toList] from rfl, waitOf_append, Hm.out]
    rfl
  have hp := (((Hp2.out.cut0).far 0 (.slice a' (st.lines.length + 1) cap')).far 5 (.int .i64 ((waitOf st.lines : Int) + m))).far 1 (.slice ta 0 tcap)
  refine TtyTo.mk (w := w) (st1 := st.come s.data.toList) ⟨?_, hp, H0.out.p⟩ (((((Chg.refl _ w).alloc _).trans Hc.out (fun _ _ e => .inr (.inl e))).setCell (p := ⟨b, 0, none⟩) (.inl (.inl rfl)) _).setCell (p := ⟨b, 5, none⟩) (.inl (.inl rfl)) _ |>.setCell (p := ⟨b, 1, none⟩) (.inl (.inl rfl)) _) ?_
  · rw [hw2, Int.natCast_add]
    exact ((Hb2.out.set_ 0 _).set_ 5 _).set_ 1 _
  · rintro k (hk | hk | hk)
    · exact (Hn.out k hk).imp (fun e => .inl e) (fun e => by rw [World.size_alloc] at e; omega)
    · exact .inl (.inr (.inl (by cases ta <;> exact hk)))
    · exact .inl (.inr (.inr hk))

end Go.Proofs.Ytpabcopkecgphaa
