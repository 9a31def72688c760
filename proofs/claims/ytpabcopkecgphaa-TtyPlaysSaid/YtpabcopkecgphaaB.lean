/- The builder's WriteString, WriteByte and String, the builder lying in the terminal. -/
import Derived.Test.YtpabcopkecgphaaA
import Derived.Shelf.RegionOpenPlain
namespace Go.Proofs.Ytpabcopkecgphaa
open Go.RowKit

theorem info5 : (Try.prog.info? 5).map (fun i => (i.zero, i.size, i.bytes)) = some (some (.int .u8 0), 1, 1) := by kernel_rfl
theorem info9 : (Try.prog.info? 9).map (fun i => (i.zero, i.size, i.bytes)) = some (some (.string .empty), 1, 16) := by kernel_rfl

/-- copyCheck, of a terminal's builder. -/
theorem copyCheck_any {b : Nat} {lv tv bv : Value} {pa : Option Addr} {st : TS} {w : World} (h : TtyAt w b lv tv bv pa st) :
    Calls Try.prog 34 #[.pointer (some ⟨b, 3, none⟩)] w fun e w' => e = .returned (.tuple #[]) ∧ TtyAt w' b lv tv bv (some ⟨b, 3, none⟩) st ∧ Chg (one_ b) w w' := by
  rcases h.p with rfl | rfl
  · refine (copyCheck_fresh b _ rfl w h.blk (h.blk.cell 3)).mono ?_
    rintro e w' ⟨rfl, rfl⟩
    exact ⟨rfl, ⟨h.blk.set_ 3 _, h.parts.far 3 _, .inr rfl⟩, (Chg.refl (one_ b) w).setCell (p := ⟨b, 3, none⟩) (.inl rfl) _⟩
  · refine (copyCheck_used b w (h.blk.cell 3)).mono ?_
    rintro e w' ⟨rfl, rfl⟩
    exact ⟨rfl, h, Chg.refl _ _⟩

theorem noneOr {v : Value} {n cap : Nat} {a : Option Addr} (h : v = .slice a n cap) : ∃ a n cap, v = .slice a n cap := ⟨_, _, _, h⟩

set_option maxHeartbeats 400000 in
theorem writeString_any {b : Nat} {S : Nat → Prop} {st : TS} {w : World} (h : TtyIs w b S st) (s : ByteArray) (hlen : st.screen.length + s.size ≤ 1099511627776) :
    Calls Try.prog 35 #[.pointer (some ⟨b, 3, none⟩), .string s] w fun e w' => e = .returned (.tuple #[.int .i64 s.size, .nilIface]) ∧ TtyTo w w' b S { st with screen := st.screen ++ s.data.toList } := by
  obtain ⟨lv, tv, bv, pa, h, rfl⟩ := h
  have H := hide h
  clear h
  go_enter Try.func35, Try.ntmps35
  go_wp2_with fail
  go_at_call 34
  refine (copyCheck_any H.out).mono ?_
  rintro e w1 ⟨rfl, h1, hc1⟩
  obtain ⟨⟨c0, c1, c2, c3, c4, c5⟩, z0, z1, z2, z3, z4, z5⟩ := h1.blk.c6
  have H1 := hide h1
  have Hc1 := hide hc1
  clear h1 hc1
  go_wp2_with (at_builtin; refine wpList_appAt 5 (.int .u8 0) 1 1 (by kernel_rfl) info5 rfl bv st.screen.length (bcells st.screen) st.screen.length (.string s) s.size (bcells s.data.toList) rfl rfl H1.out.parts.ob (by omega) (Src.ofString _ (by kernel_rfl) s) (by unfold maxLen; omega) (by omega) ?_)
  intro bv' w2 ho hc hn he
  obtain ⟨a', cap', rfl, _, _⟩ := ho.form
  have hb1 := H1.out.blk.lt
  have hb2 := H1.out.blk.chg hc (fun e => H1.out.parts.nb e)
  obtain ⟨⟨d0, d1, d2, d3, d4, d5⟩, y0, y1, y2, y3, y4, y5⟩ := hb2.c6
  have hlen2 : (st.screen ++ s.data.toList).length = st.screen.length + s.size := by rw [List.length_append]; rfl
  have hp2 := H1.out.parts.newB (bv' := .slice a' (st.screen.length + s.size) cap') (ls := st.screen ++ s.data.toList) hb1 (by rw [bcells_append, hlen2]; exact ho.mono (by omega)) hc hn (by
    intro h0
    obtain ⟨h1, h2⟩ := List.append_eq_nil_iff.1 h0
    have hs0 : s.size = 0 := by
      have : s.data.toList.length = 0 := by rw [h2]; rfl
      exact this
    rw [he hs0]
    exact H1.out.parts.e h1)
  have Hb2 := hide hb2
  have Hp2 := hide hp2
  have Hc := hide hc
  have Hn := hide hn
  clear hb2 hp2 hc hn ho he hlen2
  go_wp2
  go_ret2
  refine ⟨rfl, TtyTo.mk ⟨Hb2.out.set_ 4 _, Hp2.out.far 4 _, .inr rfl⟩ ?_ ?_⟩
  · refine ((Hc1.out.mono (T := tOwn b lv tv bv) (fun _ _ e => .inl e)).trans Hc.out (fun _ _ e => .inr (.inr (.inr e)))).setCell (p := ⟨b, 4, none⟩) (.inl (.inl rfl)) _
  · rintro k (hk | hk | hk)
    · exact .inl (.inl hk)
    · exact .inl (.inr (.inl hk))
    · exact (Hn.out k hk).imp (fun h => .inr (.inr h)) (fun h => Nat.le_trans Hc1.out.size h)

set_option maxHeartbeats 400000 in
theorem writeByte_any {b : Nat} {S : Nat → Prop} {st : TS} {w : World} (h : TtyIs w b S st) (c : UInt8) (hlen : st.screen.length + 1 ≤ 1099511627776) :
    Calls Try.prog 23 #[.pointer (some ⟨b, 3, none⟩), .int .u8 c.toNat] w fun e w' => e = .returned .nilIface ∧ TtyTo w w' b S { st with screen := st.screen ++ [c] } := by
  obtain ⟨lv, tv, bv, pa, h, rfl⟩ := h
  have H := hide h
  clear h
  go_enter Try.func23, Try.ntmps23
  go_wp2_with fail
  go_at_call 34
  refine (copyCheck_any H.out).mono ?_
  rintro e w0 ⟨rfl, h0, hc0⟩
  obtain ⟨⟨c0, c1, c2, c3, c4, c5⟩, z0, z1, z2, z3, z4, z5⟩ := h0.blk.c6
  have hA : (w0.alloc (.cells #[.int .u8 c.toNat] 5)).cell? ⟨w0.heap.size, 0, none⟩ = some (.int .u8 c.toNat) := World.cell?_alloc_new w0 _ _ 0
  have hnew : ∀ j u, (bcells [c])[j]? = some u → (w0.alloc (.cells #[.int .u8 c.toNat] 5)).cell? ((⟨w0.heap.size, 0, none⟩ : Addr).add j) = some u := by
    intro j u hu
    cases j with
    | zero => simp [bcells] at hu; subst hu; exact hA
    | succ j => simp [bcells] at hu
  have h1 : TtyAt (w0.alloc (.cells #[.int .u8 c.toNat] 5)) b lv tv bv (some ⟨b, 3, none⟩) st := ⟨h0.blk.alloc _, h0.parts.alloc _, h0.p⟩
  have hc1 : Chg (one_ b) w (w0.alloc (.cells #[.int .u8 c.toNat] 5)) := hc0.alloc _
  have H1 := hide h1
  have Hc1 := hide hc1
  clear h1 hc1 hc0 h0
  go_wp2_with (at_builtin; refine wpList_appAt 5 (.int .u8 0) 1 1 (by kernel_rfl) info5 rfl bv st.screen.length (bcells st.screen) st.screen.length (.slice (some ⟨w0.heap.size, 0, none⟩) 1 1) 1 (bcells [c]) rfl rfl H1.out.parts.ob (by omega) (Src.ofSlice (e' := 5) _ (by kernel_rfl) _ _ _ _ rfl hnew (bcells_one _)) (by unfold maxLen; omega) (by omega) ?_)
  intro bv' w2 ho hc hn he
  obtain ⟨a', cap', rfl, _, _⟩ := ho.form
  have hb1 := H1.out.blk.lt
  have hb2 := H1.out.blk.chg hc (fun e => H1.out.parts.nb e)
  obtain ⟨⟨d0, d1, d2, d3, d4, d5⟩, y0, y1, y2, y3, y4, y5⟩ := hb2.c6
  have hlen2 : (st.screen ++ [c]).length = st.screen.length + 1 := by simp
  have hp2 := H1.out.parts.newB (bv' := .slice a' (st.screen.length + 1) cap') (ls := st.screen ++ [c]) hb1 (by rw [bcells_append, hlen2]; exact ho.mono (by omega)) hc hn (by
    intro h0
    simp at h0)
  have Hb2 := hide hb2
  have Hp2 := hide hp2
  have Hc := hide hc
  have Hn := hide hn
  clear hb2 hp2 hc hn ho he hlen2 hnew
  go_wp2
  go_ret
  refine ⟨rfl, TtyTo.mk ⟨Hb2.out.set_ 4 _, Hp2.out.far 4 _, .inr rfl⟩ ?_ ?_⟩
  · refine ((Hc1.out.mono (T := tOwn b lv tv bv) (fun _ _ e => .inl e)).trans Hc.out (fun _ _ e => .inr (.inr (.inr e)))).setCell (p := ⟨b, 4, none⟩) (.inl (.inl rfl)) _
  · rintro k (hk | hk | hk)
    · exact .inl (.inl hk)
    · exact .inl (.inr (.inl hk))
    · exact (Hn.out k hk).imp (fun h => .inr (.inr h)) (fun h => Nat.le_trans Hc1.out.size h)

theorem at_zero (g off : Nat) (j : Nat) : (⟨g, off, none⟩ : Addr).add j = ⟨g, off + j, none⟩ := by unfold Addr.add; split <;> simp_all

/-- unsafe.String over a stretch of a row of bytes, at whatever offset. -/
theorem run_unsafeString_at {P : Program} (w : World) (pt it ty e : TypeId) (hp : P.underlying pt = some (.pointer e)) (hc : P.cellsOf e = 1) (g off cells : Nat) (hsh : w.shape? g = some (e, cells)) (l : List UInt8) (h0 : l ≠ []) (hn : off + l.length ≤ cells) (h63 : l.length ≤ 9223372036854775807)
    (hcell : ∀ j x, l[j]? = some x → w.cell? ((⟨g, off, none⟩ : Addr).add j) = some (.int .u8 x.toNat)) :
    (Builtin.unsafeString_ #[pt, it] ty #[.pointer (some ⟨g, off, none⟩), .int .i64 l.length]).run P w = .ok (.string ⟨l.toArray⟩) (w.freeze ⟨g, off, none⟩ l.length) := by
  have hl : l.length ≠ 0 := by simpa using h0
  have hlb := Lib.run_loadBytes (P := P) w l ⟨g, off, none⟩ .empty hcell
  have hlies := lies_bytes_at (P := P) hc (cells / P.cellsOf e) off l.length (by rw [hc]; simpa using hn)
  have h63' : ¬ (9223372036854775807 : Int) < (l.length : Int) := by omega
  have hdef : Builtin.unsafeString_ #[pt, it] ty #[.pointer (some ⟨g, off, none⟩), .int .i64 l.length] =
      (do
        let n ← asInt (.int .i64 l.length)
        if n < 0 then runtimePanic (.error "unsafe.String: len out of range")
        if n > IntKind.i64.max then unsupported (.unsafePointer "String: a length above the largest int")
        if n = 0 then pure (.string .empty)
        else if ← variablesAt ⟨g, off, none⟩ (← elemOf pt) n.toNat then do
          let s ← loadBytes ⟨g, off, none⟩ .empty n.toNat
          freeze ⟨g, off, none⟩ n.toNat
          pure (.string s)
        else unsupported (.unsafePointer "String: not so many bytes at ptr")) := rfl
  rw [hdef]
  have hmax : IntKind.i64.max = 9223372036854775807 := rfl
  have hneg : ¬ (l.length : Int) < 0 := by omega
  simp [asInt, asIntOf, hmax, h63', hneg, hl, variablesAt, hsh, elemOf, run_underlying hp, hlies, hlb]

set_option maxHeartbeats 1000000 in
set_option maxRecDepth 100000 in
theorem string_any {b : Nat} {S : Nat → Prop} {st : TS} {w : World} (h : TtyIs w b S st) :
    Calls Try.prog 25 #[.pointer (some ⟨b, 3, none⟩)] w fun e w' => e = .returned (.string ⟨st.screen.toArray⟩) ∧ TtyTo w w' b S st := by
  obtain ⟨lv, tv, bv, pa, h, rfl⟩ := h
  have mixed : Try.prog.follows .mixedOrders = true := by kernel_rfl
  by_cases hs0 : st.screen = []
  · have hbv := h.parts.e hs0
    subst hbv
    have c1 : w.drew.cell? ⟨b, 4, none⟩ = some (.slice none 0 0) := h.blk.cell 4
    have hSD : (Builtin.unsafeSliceData_ #[27] 63 #[.slice none 0 0]).run Try.prog w.drew = .ok (.pointer none) w.drew := rfl
    have hUS := Lib.run_unsafeString_none (P := Try.prog) w.drew 63 3 9 none
    have Hpost : TtyTo w w.drew b (tOwn b lv tv (.slice none 0 0)) st := TtyTo.mk (w' := w.drew) ⟨h.blk, ⟨h.parts.ol, h.parts.ot, h.parts.ob, h.parts.nl, h.parts.nt, h.parts.nb, h.parts.lt, h.parts.lb, h.parts.tb, h.parts.e⟩, h.p⟩ ((Chg.refl _ w).drew) (fun k hk => .inl hk)
    rw [hs0]
    clear h
    go_enter Try.func25, Try.ntmps25
    go_wp2
    go_region_o
    all_goals (go_wp2; go_ret; exact ⟨rfl, Hpost⟩)
  · have hl0 : 0 < st.screen.length := List.length_pos_iff.2 hs0
    obtain ⟨g, off, cap, rfl, hnc, hcm, hlt, hcells⟩ := h.parts.ob.some_ hl0
    have c1 : w.drew.cell? ⟨b, 4, none⟩ = some (.slice (some ⟨g, off, none⟩) st.screen.length cap) := h.blk.cell 4
    have hSD : (Builtin.unsafeSliceData_ #[27] 63 #[.slice (some ⟨g, off, none⟩) st.screen.length cap]).run Try.prog w.drew = .ok (.pointer (some ⟨g, off, none⟩)) w.drew :=
      Lib.run_unsafeSliceData_row _ _ _ _ _ _ (by omega)
    obtain ⟨cells, hsh, hcl⟩ : ∃ cells, w.drew.shape? g = some (5, cells) ∧ off + st.screen.length ≤ cells := by
      rcases h.parts.ob.2 with ⟨hv, _⟩ | ⟨g', off', cap', cur, fz, hv, hg, h1, h2, h3, h4, h5⟩
      · cases hv
      · injection hv with ha _ hcap
        injection ha with ha
        injection ha with e1 e2 _
        subst e1 e2 hcap
        refine ⟨cur.size, ?_, by omega⟩
        have hg' : w.drew.heap[g]? = some (.cells cur 5 fz) := hg
        simp [World.shape?, hg']
    have hUS := run_unsafeString_at (P := Try.prog) w.drew 63 3 9 5 (by kernel_rfl) (by kernel_rfl) g off cells hsh st.screen hs0 hcl (by unfold maxLen at hcm; omega) (by
      intro j x hx
      rw [at_zero]
      have hj : j < st.screen.length := (List.getElem?_eq_some_iff.1 hx).1
      refine (hcells j (by omega)).trans ?_
      simp [bcells, hx])
    have hF : Own (w.drew.freeze ⟨g, off, none⟩ st.screen.length) 5 1 (.slice (some ⟨g, off, none⟩) st.screen.length cap) st.screen.length (bcells st.screen) st.screen.length := Own.froze (w := w.drew) h.parts.ob (by omega)
    have hC : Chg (fun k => (Value.slice (some ⟨g, off, none⟩) st.screen.length cap).ownBlock = some k) w (w.drew.freeze ⟨g, off, none⟩ st.screen.length) := ((Chg.refl (fun k => (Value.slice (some ⟨g, off, none⟩) st.screen.length cap).ownBlock = some k) w).drew).freeze (p := ⟨g, off, none⟩) (.inl rfl) _
    have Hpost : TtyTo w (w.drew.freeze ⟨g, off, none⟩ st.screen.length) b (tOwn b lv tv (.slice (some ⟨g, off, none⟩) st.screen.length cap)) st :=
      TtyTo.mk ⟨h.blk.chg hC (fun e => h.parts.nb e), h.parts.newB (ls := st.screen) h.blk.lt hF hC (fun k hk => .inl hk) (fun e => absurd e hs0), h.p⟩ (hC.mono fun _ _ e => .inr (.inr (.inr e))) (fun k hk => .inl hk)
    clear h hF hC hcells hsh
    go_enter Try.func25, Try.ntmps25
    go_wp2
    go_region_o
    all_goals (go_wp2; go_ret; exact ⟨rfl, Hpost⟩)

end Go.Proofs.Ytpabcopkecgphaa
