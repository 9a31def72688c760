/- The walk of CredNever. -/
import Derived.Test.YtbmfghcechkncaaLb
namespace Go.Proofs.Ytbmfghcechkncaa
open Go.RowKit

section
variable {w a : World} {g g' : Nat} {t : TypeId} {cs : Array Value}
theorem Blk.set5 {v0 v1 v2 v3 v4 : Value} (h : Blk w g t #[v0, v1, v2, v3, v4]) (u0 u1 u2 u3 u4 : Value) :
    Blk (((((w.setCell ⟨g, 0, none⟩ u0).setCell ⟨g, 1, none⟩ u1).setCell ⟨g, 2, none⟩ u2).setCell ⟨g, 3, none⟩ u3).setCell ⟨g, 4, none⟩ u4) g t #[u0, u1, u2, u3, u4] :=
  ((((h.set_ 0 u0).set_ 1 u1).set_ 2 u2).set_ 3 u3).set_ 4 u4
theorem Blk.far5 (h : Blk w g t cs) (hne : g ≠ g') (u0 u1 u2 u3 u4 : Value) :
    Blk (((((w.setCell ⟨g', 0, none⟩ u0).setCell ⟨g', 1, none⟩ u1).setCell ⟨g', 2, none⟩ u2).setCell ⟨g', 3, none⟩ u3).setCell ⟨g', 4, none⟩ u4) g t cs :=
  ((((h.far (p := ⟨g', 0, none⟩) hne u0).far (p := ⟨g', 1, none⟩) hne u1).far (p := ⟨g', 2, none⟩) hne u2).far (p := ⟨g', 3, none⟩) hne u3).far (p := ⟨g', 4, none⟩) hne u4
theorem none_set5 (h : a.grownBy w none) (hg : a.heap.size ≤ g') (u0 u1 u2 u3 u4 : Value) :
    a.grownBy (((((w.setCell ⟨g', 0, none⟩ u0).setCell ⟨g', 1, none⟩ u1).setCell ⟨g', 2, none⟩ u2).setCell ⟨g', 3, none⟩ u3).setCell ⟨g', 4, none⟩ u4) none :=
  none_setCell (none_setCell (none_setCell (none_setCell (none_setCell h (p := ⟨g', 0, none⟩) hg u0) (p := ⟨g', 1, none⟩) hg u1) (p := ⟨g', 2, none⟩) hg u2) (p := ⟨g', 3, none⟩) hg u3) (p := ⟨g', 4, none⟩) hg u4
end

/-- Neither of the three is 0; the real ids are those. -/
def Inv (u q : Int) (c : Cr) : Prop := c.r = u ∧ c.g = q ∧ c.e ≠ 0 ∧ c.s ≠ 0 ∧ (c.s = c.e ∨ c.e = u)

theorem setuid_inv {u q : Int} (hu : u ≠ 0) {c : Cr} (h : Inv u q c) (a : Int) (hf : (setuidF c a).2 = 0) : Inv u q (setuidF c a).1 := by
  obtain ⟨h1, h2, h3, h4, h5⟩ := h
  have he : (c.e == 0) = false := by simpa using h3
  revert hf
  unfold setuidF
  rw [he]
  cases okTwo c a
  · simp
  · cases hr : (a == c.r)
    · cases hs : (a == c.s)
      · simp
      · simp at hs
        intro _
        simp only [if_true, Bool.false_eq_true, if_false]
        exact ⟨h1, h2, by show a ≠ 0; omega, h4, .inl hs.symm⟩
    · simp at hr
      intro _
      simp only [if_true, Bool.false_eq_true, if_false]
      exact ⟨h1, h2, by show a ≠ 0; omega, h4, .inr (by show a = u; omega)⟩
theorem setgid_inv {u q : Int} {c : Cr} (h : Inv u q c) (a : Int) (hf : (setgidF c a).2 = 0) : Inv u q (setgidF c a).1 := by
  obtain ⟨h1, h2, h3, h4, h5⟩ := h
  have he : (c.e == 0) = false := by simpa using h3
  revert hf
  unfold setgidF
  rw [he]
  cases okTwo c a
  · simp
  · cases hr : (a == c.g)
    · simp
    · intro _
      exact ⟨h1, h2, h3, h4, h5⟩
theorem exec_inv {u q : Int} {c : Cr} (h : Inv u q c) (m o : Int) (hn : (mb m != 0) = true → o ≠ 0) (hf : (execF c m o).2 = 0) : Inv u q (execF c m o).1 := by
  obtain ⟨h1, h2, h3, h4, h5⟩ := h
  revert hf
  unfold execF
  cases okTwo c o
  · simp
  · cases hb : (mb m != 0)
    · intro _; exact ⟨h1, h2, h3, h3, .inl rfl⟩
    · intro _; exact ⟨h1, h2, hn hb, hn hb, .inl rfl⟩

/-- What a step's call leaves. -/
def Step (u q : Int) (w : World) (e : Ending) (w' : World) : Prop :=
  ∃ (c : Cr) (f : Int), (f = 0 → Inv u q c) ∧ e = .returned (.tuple #[.agg #[.int .i64 c.r, .int .i64 c.e, .int .i64 c.s, .int .i64 c.g, .int .i64 c.h], .int .i64 f]) ∧ w.grownBy w' none

theorem nv_setuid {u q : Int} (hu : u ≠ 0) (r e s g k a : Int) (h : Inv u q ⟨r, e, s, g, k⟩) (w : World) : Calls Try.prog 12 #[.agg #[.int .i64 r, .int .i64 e, .int .i64 s, .int .i64 g, .int .i64 k], .int .i64 a] w (Step u q w) :=
  (setuid_calls r e s g k a w).mono fun _ _ ⟨he, hg⟩ => ⟨_, _, setuid_inv hu h a, he, hg⟩
theorem nv_setgid {u q : Int} (r e s g k a : Int) (h : Inv u q ⟨r, e, s, g, k⟩) (w : World) : Calls Try.prog 16 #[.agg #[.int .i64 r, .int .i64 e, .int .i64 s, .int .i64 g, .int .i64 k], .int .i64 a] w (Step u q w) :=
  (setgid_calls r e s g k a w).mono fun _ _ ⟨he, hg⟩ => ⟨_, _, setgid_inv h a, he, hg⟩
theorem nv_exec {u q : Int} (r e s g k m o : Int) (h : Inv u q ⟨r, e, s, g, k⟩) (hn : (mb m != 0) = true → o ≠ 0) (w : World) : Calls Try.prog 11 #[.agg #[.int .i64 r, .int .i64 e, .int .i64 s, .int .i64 g, .int .i64 k], .int .i64 m, .int .i64 o] w (Step u q w) :=
  (exec_calls r e s g k m o w).mono fun _ _ ⟨he, hg⟩ => ⟨_, _, exec_inv h m o hn, he, hg⟩

def OpsIn (w : World) (a : Option Addr) (len : Nat) : Prop :=
  ∀ i, i < len → ∃ b off k x y, a = some ⟨b, off, none⟩ ∧ b < w.heap.size ∧ w.cell? ⟨b, off + i * 3, none⟩ = some (.int .i64 k) ∧ w.cell? ⟨b, off + i * 3 + 1, none⟩ = some (.int .i64 x) ∧ w.cell? ⟨b, off + i * 3 + 2, none⟩ = some (.int .i64 y)

structure NvRel (w wr : World) (bc bw : Nat) (u q : Int) (r e s g k : Int) : Prop where
  kc : Blk wr bc 24 #[.int .i64 r, .int .i64 e, .int .i64 s, .int .i64 g, .int .i64 k]
  kw : Blk wr bw 24 #[.int .i64 u, .int .i64 u, .int .i64 u, .int .i64 q, .int .i64 q]
  inv : Inv u q ⟨r, e, s, g, k⟩
  gr : w.grownBy wr none
  ne : bc ≠ bw ∧ w.heap.size ≤ bc

set_option maxRecDepth 100000 in
set_option maxHeartbeats 4000000 in
theorem never_any (x y : Int) (a : Option Addr) (len cap : Nat) (hlen : len ≤ 9223372036854775807) (w : World) (ho : OpsIn w a len) :
    Calls Try.prog 5 #[.int .i64 x, .int .i64 y, .slice a len cap] w fun e w' => e = .returned (.bool true) ∧ w.grownBy w' none := by
  obtain ⟨a1, ha, ea⟩ := and_bound x 32767 (by omega)
  obtain ⟨b1, hb, eb⟩ := and_bound y 32767 (by omega)
  simp only [Int.cast_ofNat_Int] at ea eb
  have iu : idB (1 + (a1 : Int)) = true := idB_of (by omega)
  have ig : idB (b1 : Int) = true := idB_of (by omega)
  have E1 : ofF (1 + (a1 : Int)) b1 = (⟨1 + a1, 1 + a1, 1 + a1, b1, b1⟩, 0) := by simp [ofF, Cr.ok, iu, ig]
  have Ho := hide ho
  clear iu ig ho
  go_enter Try.func5, Try.ntmps5
  go_wp2_with fail
  refine (shown_any _).mono ?_
  rintro e w1 ⟨rfl, hg⟩
  have G1 := hide hg
  clear hg
  go_wp2_with fail
  refine (of_calls _ _ _).mono ?_
  rw [E1]
  rintro e w2 ⟨rfl, hg⟩
  have G2 := hide (none_trans G1.out hg)
  clear hg E1
  go_wp2_with fail
  have hrel0 : NvRel w ((w2.alloc (.cells #[.int .i64 (1 + a1), .int .i64 (1 + a1), .int .i64 (1 + a1), .int .i64 b1, .int .i64 b1] 24)).alloc (.cells #[.int .i64 (1 + a1), .int .i64 (1 + a1), .int .i64 (1 + a1), .int .i64 b1, .int .i64 b1] 24)) w2.heap.size (w2.heap.size + 1) (1 + a1) b1 (1 + a1) (1 + a1) (1 + a1) b1 b1 :=
    ⟨(Blk.new w2 24 _).alloc _, Blk.new1 w2 _ 24 _, ⟨rfl, rfl, by show (1 + (a1 : Int)) ≠ 0; omega, by show (1 + (a1 : Int)) ≠ 0; omega, .inl rfl⟩, only_alloc (only_alloc G2.out _) _, by omega, G2.out.size⟩
  have H0 := hide hrel0
  clear hrel0 G1 G2
  have hu0 : (1 + (a1 : Int)) ≠ 0 := by omega
  generalize w2.heap.size + 1 = bw at *
  generalize w2.heap.size = bc at *
  go_loopw [11] (fun v wr => ∃ (kk : Nat) (r e s g k : Int), v = .int .i64 kk ∧ kk ≤ 100 ∧ NvRel w wr bc bw (1 + a1) b1 r e s g k) (fun v _ => 100 - (intOf v).toNat)
  case atStart => exact ⟨0, _, _, _, _, _, rfl, by omega, H0.out⟩
  case round =>
    obtain ⟨kk, r, e, s, g, k, rfl, hk, hR⟩ := hrel
    clear H0
    by_cases hlt : kk < len
    · by_cases hlt2 : kk < 100
      · obtain ⟨b, off, K, A, B, rfl, hbl, c0, c1, c2⟩ := Ho.out kk hlt
        have hbe := below_of_none hR.gr
        have o0 : wr.cell? ⟨b, off + kk * 3, none⟩ = _ := (hbe.cell (p := ⟨b, _, none⟩) hbl).trans c0
        have o1 : wr.cell? ⟨b, off + kk * 3 + 1, none⟩ = _ := (hbe.cell (p := ⟨b, _, none⟩) hbl).trans c1
        have o2 : wr.cell? ⟨b, off + kk * 3 + 2, none⟩ = _ := (hbe.cell (p := ⟨b, _, none⟩) hbl).trans c2
        obtain ⟨⟨p0, p1, p2, p3, p4⟩, q0, q1, q2, q3, q4⟩ := hR.kc.c5
        have hlc : bc < wr.heap.size := hR.kc.lt
        have HR := hide hR
        clear hR hbe c0 c1 c2
        by_cases h1 : K = 1
        · subst h1
          go_wp2_with fail
          (with_reducible refine (nv_setuid hu0 _ _ _ _ _ _ HR.out.inv _).mono ?_)
          rintro e' w4 ⟨c', f, hinv, rfl, hg⟩
          have KC := hide (((HR.out.kc.alloc (.cells #[.int .i64 1, .int .i64 A, .int .i64 B] 34)).alloc (.cells #[.int .i64 r, .int .i64 e, .int .i64 s, .int .i64 g, .int .i64 k] 24)).grown hg (by simp))
          have KW := hide (((HR.out.kw.alloc (.cells #[.int .i64 1, .int .i64 A, .int .i64 B] 34)).alloc (.cells #[.int .i64 r, .int .i64 e, .int .i64 s, .int .i64 g, .int .i64 k] 24)).grown hg (by simp))
          have KD := hide ((Blk.new1 wr (.cells #[.int .i64 1, .int .i64 A, .int .i64 B] 34) 24 #[.int .i64 r, .int .i64 e, .int .i64 s, .int .i64 g, .int .i64 k]).grown hg (by simp))
          have G4 := hide (none_trans (only_alloc (only_alloc HR.out.gr (.cells #[.int .i64 1, .int .i64 A, .int .i64 B] 34)) (.cells #[.int .i64 r, .int .i64 e, .int .i64 s, .int .i64 g, .int .i64 k] 24)) hg)
          have hld : bc < wr.heap.size + 1 := by have := HR.out.kc.lt; omega
          have hlw : bw < wr.heap.size + 1 := by have := HR.out.kw.lt; omega
          have hws : w.heap.size ≤ wr.heap.size + 1 := by have := HR.out.gr.size; omega
          obtain ⟨⟨c0, c1, c2, c3, c4⟩, d0, d1, d2, d3, d4⟩ := KC.out.c5
          obtain ⟨⟨u0, u1, u2, u3, u4⟩, v0, v1, v2, v3, v4⟩ := KW.out.c5
          obtain ⟨⟨m0, m1, m2, m3, m4⟩, n0, n1, n2, n3, n4⟩ := KD.out.c5
          have hne2 : bc ≠ wr.heap.size + 1 := by omega
          have hne3 : bw ≠ wr.heap.size + 1 := by omega
          have hne1 : bw ≠ bc := by have := HR.out.ne.1; omega
          have Hinv := hide hinv
          clear hg hinv
          obtain ⟨r', e1, s', g', k'⟩ := c'
          by_cases hf : f = 0
          · have I := Hinv.out hf
            subst hf
            obtain ⟨i1, i2, i3, i4, i5⟩ := I
            have t1 : (e1 == 0) = false := by simpa using i3
            have t2 : (s' == 0) = false := by simpa using i4
            have I' := hide (show Inv (1 + (a1 : Int)) b1 ⟨r', e1, s', g', k'⟩ from ⟨i1, i2, i3, i4, i5⟩)
            simp only at i1 i2
            subst i1 i2
            have i6 : (s' != e1) = false ∨ (s' != e1) = true ∧ (e1 != 1 + (a1 : Int)) = false := by
              by_cases h7 : s' = e1
              · left; simp [h7]
              · right
                rcases i5 with h8 | h8
                · exact absurd h8 h7
                · exact ⟨by simpa using h7, by simpa using h8⟩
            clear i3 i4 i5
            rcases i6 with t3 | ⟨t3, t4⟩
            all_goals
              go_wp2_with fail
              go_roundw
              case rel => exact ⟨kk + 1, _, _, _, _, _, by go_num, by omega, (KC.out.far5 hne2 _ _ _ _ _).set5 _ _ _ _ _, (KW.out.far5 hne3 _ _ _ _ _).far5 hne1 _ _ _ _ _, I'.out, none_set5 (none_set5 G4.out hws _ _ _ _ _) HR.out.ne.2 _ _ _ _ _, HR.out.ne⟩
              case measure => simp [intOf]; omega
          · have hf' : (f == 0) = false := by simpa using hf
            obtain ⟨i1, i2, i3, i4, i5⟩ := HR.out.inv
            have t1 : (e == 0) = false := by simpa using i3
            have t2 : (s == 0) = false := by simpa using i4
            have i6 : (s != e) = false ∨ (s != e) = true ∧ (e != 1 + (a1 : Int)) = false := by
              by_cases h7 : s = e
              · left; simp [h7]
              · right
                rcases i5 with h8 | h8
                · exact absurd h8 h7
                · exact ⟨by simpa using h7, by simpa using h8⟩
            clear i3 i4 i5
            simp only at i1 i2
            subst i1 i2
            clear hf
            rcases i6 with t3 | ⟨t3, t4⟩
            all_goals
              go_wp2_with fail
              go_roundw
              case rel => exact ⟨kk + 1, _, _, _, _, _, by go_num, by omega, KC.out.far5 hne2 _ _ _ _ _, KW.out.far5 hne3 _ _ _ _ _, HR.out.inv, none_set5 G4.out hws _ _ _ _ _, HR.out.ne⟩
              case measure => simp [intOf]; omega
        · have e1' : (K == 1) = false := by simp [h1]
          clear h1
          by_cases h2 : K = 2
          · subst h2
            clear e1'
            go_wp2_with fail
            (with_reducible refine (nv_setgid _ _ _ _ _ _ HR.out.inv _).mono ?_)
            rintro e' w4 ⟨c', f, hinv, rfl, hg⟩
            have KC := hide (((HR.out.kc.alloc (.cells #[.int .i64 2, .int .i64 A, .int .i64 B] 34)).alloc (.cells #[.int .i64 r, .int .i64 e, .int .i64 s, .int .i64 g, .int .i64 k] 24)).grown hg (by simp))
            have KW := hide (((HR.out.kw.alloc (.cells #[.int .i64 2, .int .i64 A, .int .i64 B] 34)).alloc (.cells #[.int .i64 r, .int .i64 e, .int .i64 s, .int .i64 g, .int .i64 k] 24)).grown hg (by simp))
            have KD := hide ((Blk.new1 wr (.cells #[.int .i64 2, .int .i64 A, .int .i64 B] 34) 24 #[.int .i64 r, .int .i64 e, .int .i64 s, .int .i64 g, .int .i64 k]).grown hg (by simp))
            have G4 := hide (none_trans (only_alloc (only_alloc HR.out.gr (.cells #[.int .i64 2, .int .i64 A, .int .i64 B] 34)) (.cells #[.int .i64 r, .int .i64 e, .int .i64 s, .int .i64 g, .int .i64 k] 24)) hg)
            have hld : bc < wr.heap.size + 1 := by have := HR.out.kc.lt; omega
            have hlw : bw < wr.heap.size + 1 := by have := HR.out.kw.lt; omega
            have hws : w.heap.size ≤ wr.heap.size + 1 := by have := HR.out.gr.size; omega
            obtain ⟨⟨c0, c1, c2, c3, c4⟩, d0, d1, d2, d3, d4⟩ := KC.out.c5
            obtain ⟨⟨u0, u1, u2, u3, u4⟩, v0, v1, v2, v3, v4⟩ := KW.out.c5
            obtain ⟨⟨m0, m1, m2, m3, m4⟩, n0, n1, n2, n3, n4⟩ := KD.out.c5
            have hne2 : bc ≠ wr.heap.size + 1 := by omega
            have hne3 : bw ≠ wr.heap.size + 1 := by omega
            have hne1 : bw ≠ bc := by have := HR.out.ne.1; omega
            have Hinv := hide hinv
            clear hg hinv
            obtain ⟨r', e1, s', g', k'⟩ := c'
            by_cases hf : f = 0
            · have I := Hinv.out hf
              subst hf
              obtain ⟨i1, i2, i3, i4, i5⟩ := I
              have t1 : (e1 == 0) = false := by simpa using i3
              have t2 : (s' == 0) = false := by simpa using i4
              have I' := hide (show Inv (1 + (a1 : Int)) b1 ⟨r', e1, s', g', k'⟩ from ⟨i1, i2, i3, i4, i5⟩)
              simp only at i1 i2
              subst i1 i2
              have i6 : (s' != e1) = false ∨ (s' != e1) = true ∧ (e1 != 1 + (a1 : Int)) = false := by
                by_cases h7 : s' = e1
                · left; simp [h7]
                · right
                  rcases i5 with h8 | h8
                  · exact absurd h8 h7
                  · exact ⟨by simpa using h7, by simpa using h8⟩
              clear i3 i4 i5
              rcases i6 with t3 | ⟨t3, t4⟩
              all_goals
                go_wp2_with fail
                go_roundw
                case rel => exact ⟨kk + 1, _, _, _, _, _, by go_num, by omega, (KC.out.far5 hne2 _ _ _ _ _).set5 _ _ _ _ _, (KW.out.far5 hne3 _ _ _ _ _).far5 hne1 _ _ _ _ _, I'.out, none_set5 (none_set5 G4.out hws _ _ _ _ _) HR.out.ne.2 _ _ _ _ _, HR.out.ne⟩
                case measure => simp [intOf]; omega
            · have hf' : (f == 0) = false := by simpa using hf
              obtain ⟨i1, i2, i3, i4, i5⟩ := HR.out.inv
              have t1 : (e == 0) = false := by simpa using i3
              have t2 : (s == 0) = false := by simpa using i4
              have i6 : (s != e) = false ∨ (s != e) = true ∧ (e != 1 + (a1 : Int)) = false := by
                by_cases h7 : s = e
                · left; simp [h7]
                · right
                  rcases i5 with h8 | h8
                  · exact absurd h8 h7
                  · exact ⟨by simpa using h7, by simpa using h8⟩
              clear i3 i4 i5
              simp only at i1 i2
              subst i1 i2
              clear hf
              rcases i6 with t3 | ⟨t3, t4⟩
              all_goals
                go_wp2_with fail
                go_roundw
                case rel => exact ⟨kk + 1, _, _, _, _, _, by go_num, by omega, KC.out.far5 hne2 _ _ _ _ _, KW.out.far5 hne3 _ _ _ _ _, HR.out.inv, none_set5 G4.out hws _ _ _ _ _, HR.out.ne⟩
                case measure => simp [intOf]; omega
          · have e2' : (K == 2) = false := by simp [h2]
            clear h2
            by_cases hsk : B = 0 ∧ (mb A != 0) = true
            · obtain ⟨hB0, hA0⟩ := hsk
              subst hB0
              unfold mb at hA0
              go_wp2_with fail
              go_roundw
              case rel => exact ⟨kk + 1, _, _, _, _, _, by go_num, by omega, (HR.out.kc.alloc _).alloc _, (HR.out.kw.alloc _).alloc _, HR.out.inv, only_alloc (only_alloc HR.out.gr _) _, HR.out.ne⟩
              case measure => simp [intOf]; omega
            · have hn0 : (mb A != 0) = true → B ≠ 0 := fun h1 h2 => hsk ⟨h2, h1⟩
              have Hn0 := hide hn0
              have hcase : (B == 0) = false ∨ ((B == 0) = true ∧ (mb A != 0) = false) := by
                by_cases hB0 : B = 0
                · right
                  refine ⟨by simp [hB0], ?_⟩
                  cases h : (mb A != 0)
                  · rfl
                  · exact absurd hB0 (hn0 h)
                · left; simpa using hB0
              clear hn0 hsk
              unfold mb at hcase
              rcases hcase with hB1 | ⟨hB1, hA1⟩
              all_goals
                go_wp2_with fail
                (with_reducible refine (nv_exec _ _ _ _ _ _ _ HR.out.inv Hn0.out _).mono ?_)
                rintro e' w4 ⟨c', f, hinv, rfl, hg⟩
                have KC := hide (((HR.out.kc.alloc (.cells #[.int .i64 K, .int .i64 A, .int .i64 B] 34)).alloc (.cells #[.int .i64 r, .int .i64 e, .int .i64 s, .int .i64 g, .int .i64 k] 24)).grown hg (by simp))
                have KW := hide (((HR.out.kw.alloc (.cells #[.int .i64 K, .int .i64 A, .int .i64 B] 34)).alloc (.cells #[.int .i64 r, .int .i64 e, .int .i64 s, .int .i64 g, .int .i64 k] 24)).grown hg (by simp))
                have KD := hide ((Blk.new1 wr (.cells #[.int .i64 K, .int .i64 A, .int .i64 B] 34) 24 #[.int .i64 r, .int .i64 e, .int .i64 s, .int .i64 g, .int .i64 k]).grown hg (by simp))
                have G4 := hide (none_trans (only_alloc (only_alloc HR.out.gr (.cells #[.int .i64 K, .int .i64 A, .int .i64 B] 34)) (.cells #[.int .i64 r, .int .i64 e, .int .i64 s, .int .i64 g, .int .i64 k] 24)) hg)
                have hld : bc < wr.heap.size + 1 := by have := HR.out.kc.lt; omega
                have hlw : bw < wr.heap.size + 1 := by have := HR.out.kw.lt; omega
                have hws : w.heap.size ≤ wr.heap.size + 1 := by have := HR.out.gr.size; omega
                obtain ⟨⟨c0, c1, c2, c3, c4⟩, d0, d1, d2, d3, d4⟩ := KC.out.c5
                obtain ⟨⟨u0, u1, u2, u3, u4⟩, v0, v1, v2, v3, v4⟩ := KW.out.c5
                obtain ⟨⟨m0, m1, m2, m3, m4⟩, n0, n1, n2, n3, n4⟩ := KD.out.c5
                have hne2 : bc ≠ wr.heap.size + 1 := by omega
                have hne3 : bw ≠ wr.heap.size + 1 := by omega
                have hne1 : bw ≠ bc := by have := HR.out.ne.1; omega
                have Hinv := hide hinv
                clear hg hinv
                obtain ⟨r', e1, s', g', k'⟩ := c'
                by_cases hf : f = 0
                · have I := Hinv.out hf
                  subst hf
                  obtain ⟨i1, i2, i3, i4, i5⟩ := I
                  have t1 : (e1 == 0) = false := by simpa using i3
                  have t2 : (s' == 0) = false := by simpa using i4
                  have I' := hide (show Inv (1 + (a1 : Int)) b1 ⟨r', e1, s', g', k'⟩ from ⟨i1, i2, i3, i4, i5⟩)
                  simp only at i1 i2
                  subst i1 i2
                  have i6 : (s' != e1) = false ∨ (s' != e1) = true ∧ (e1 != 1 + (a1 : Int)) = false := by
                    by_cases h7 : s' = e1
                    · left; simp [h7]
                    · right
                      rcases i5 with h8 | h8
                      · exact absurd h8 h7
                      · exact ⟨by simpa using h7, by simpa using h8⟩
                  clear i3 i4 i5
                  rcases i6 with t3 | ⟨t3, t4⟩
                  all_goals
                    go_wp2_with fail
                    go_roundw
                    case rel => exact ⟨kk + 1, _, _, _, _, _, by go_num, by omega, (KC.out.far5 hne2 _ _ _ _ _).set5 _ _ _ _ _, (KW.out.far5 hne3 _ _ _ _ _).far5 hne1 _ _ _ _ _, I'.out, none_set5 (none_set5 G4.out hws _ _ _ _ _) HR.out.ne.2 _ _ _ _ _, HR.out.ne⟩
                    case measure => simp [intOf]; omega
                · have hf' : (f == 0) = false := by simpa using hf
                  obtain ⟨i1, i2, i3, i4, i5⟩ := HR.out.inv
                  have t1 : (e == 0) = false := by simpa using i3
                  have t2 : (s == 0) = false := by simpa using i4
                  have i6 : (s != e) = false ∨ (s != e) = true ∧ (e != 1 + (a1 : Int)) = false := by
                    by_cases h7 : s = e
                    · left; simp [h7]
                    · right
                      rcases i5 with h8 | h8
                      · exact absurd h8 h7
                      · exact ⟨by simpa using h7, by simpa using h8⟩
                  clear i3 i4 i5
                  simp only at i1 i2
                  subst i1 i2
                  clear hf
                  rcases i6 with t3 | ⟨t3, t4⟩
                  all_goals
                    go_wp2_with fail
                    go_roundw
                    case rel => exact ⟨kk + 1, _, _, _, _, _, by go_num, by omega, KC.out.far5 hne2 _ _ _ _ _, KW.out.far5 hne3 _ _ _ _ _, HR.out.inv, none_set5 G4.out hws _ _ _ _ _, HR.out.ne⟩
                    case measure => simp [intOf]; omega
      · have : kk = 100 := by omega
        subst this
        have Hg := hide hR.gr
        clear hR
        go_wp2_with fail
        go_ret
        exact ⟨rfl, Hg.out⟩
    · have Hg := hide hR.gr
      clear hR
      go_wp2_with fail
      go_ret
      exact ⟨rfl, Hg.out⟩

end Go.Proofs.Ytbmfghcechkncaa
