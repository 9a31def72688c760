/- Several texts in one. -/
import Derived.Test.YtdhfhphbkfgamaaTA
import Derived.Test.YtdhfhphbkfgamaaPC
import Derived.Lib.Builder
import Derived.Lib.AppendStr
import Derived.Lib.UnsafeStr
import Derived.BigQuiet
import Derived.Deep.CutBlock
import Derived.Deep.DeepCutAuto
section
/- What the printer holds in memory; the builder that stands in it. -/
namespace Go.Proofs.Ytdhfhphbkfgamaa
open Go.RowKit Lx
set_option maxRecDepth 100000

/-! ### the frame -/
def PFS (n0 : Nat) (w : World) (k : Nat) : Prop := n0 ≤ k ∧ (HasT w k 55 ∨ HasT w k 5)
/-- Of the blocks from n0 on, the printer's and the rows of bytes may change. -/
def PF (n0 : Nat) (w w' : World) : Prop := Chg (PFS n0 w) w w'
section
variable {n0 : Nat} {w w' a b c : World}
theorem PF.refl (n0 : Nat) (w : World) : PF n0 w w := Chg.refl _ w
theorem PF.of_grown (h : a.grownBy b none) : PF n0 a b := Chg.of_grown h (fun k hk => by cases hk)
theorem PF.trans (h : PF n0 a b) (g : PF n0 b c) : PF n0 a c :=
  Chg.trans h g fun i hi hT => by
    apply Classical.byContradiction
    intro hn
    refine hn ⟨hT.1, ?_⟩
    have hb := Chg.block h i hi hn
    rcases hT.2 with ⟨cs, fz, e⟩ | ⟨cs, fz, e⟩
    · exact .inl ⟨cs, fz, by rw [← hb]; exact e⟩
    · exact .inr ⟨cs, fz, by rw [← hb]; exact e⟩
theorem PF.size (h : PF n0 a b) : a.heap.size ≤ b.heap.size := Chg.size h
theorem PF.alloc (h : PF n0 a b) (o : Obj) : PF n0 a (b.alloc o) := Chg.alloc h o
theorem PF.drew (h : PF n0 a b) : PF n0 a b.drew := Chg.drew h
theorem PF.new (h : PF n0 a b) {p : Addr} (hp : a.heap.size ≤ p.block) (u : Value) : PF n0 a (b.setCell p u) := Chg.setCell h (.inr hp) u
/-- Nothing below n0 has changed. -/
theorem PF.below (h : PF n0 a b) (hn : a.heap.size ≤ n0) : a.grownBy b none := Chg.grown h fun k hk hS => by have := hS.1; omega
theorem PF.own (h : PF n0 a b) {e : TypeId} {s n k : Nat} {v : Value} {xs : List Value} (ho : Own a e s v n xs k) (h1 : e ≠ 55) (h2 : e ≠ 5) : Own b e s v n xs k :=
  ho.chg h fun g hg hS => hS.2.elim (fun x => h1 ((ho.hasT hg).uniq x)) (fun x => h2 ((ho.hasT hg).uniq x))
theorem PF.blk (h : PF n0 a b) {g : Nat} {t : TypeId} {cs : Array Value} (hb : Blk a g t cs) (h1 : t ≠ 55) (h2 : t ≠ 5) : Blk b g t cs :=
  Blk.chg hb h fun hS => hS.2.elim (fun x => h1 (hb.hasT.uniq x)) (fun x => h2 (hb.hasT.uniq x))
end

/-! ### rows that are read -/
def Rows (w : World) (v : Value) (n : Nat) (cs : List Value) : Prop := ∃ a cap, v = .slice a n cap ∧ n ≤ cap ∧ n ≤ 9223372036854775807 ∧ (0 < n → ∃ g off, a = some ⟨g, off, none⟩ ∧ g < w.heap.size ∧ ∀ j x, cs[j]? = some x → w.cell? ⟨g, off + j, none⟩ = some x)
/-- .. now and as long as the printer alone goes on. -/
def RowsK (n0 : Nat) (w : World) (v : Value) (n : Nat) (cs : List Value) : Prop := ∀ w', PF n0 w w' → Rows w' v n cs
theorem RowsK.pf {n0 : Nat} {w w' : World} {v : Value} {n : Nat} {cs : List Value} (h : RowsK n0 w v n cs) (hp : PF n0 w w') : RowsK n0 w' v n cs := fun w2 h2 => h w2 (hp.trans h2)
theorem RowsK.now {n0 : Nat} {w : World} {v : Value} {n : Nat} {cs : List Value} (h : RowsK n0 w v n cs) : Rows w v n cs := h w (PF.refl _ _)
theorem own_rows {w : World} {e : TypeId} {s n : Nat} {v : Value} {cs : List Value} (h : Own w e s v n cs 0) : Rows w v n cs := by
  obtain ⟨a, cap, rfl, h1, h2⟩ := h.form
  refine ⟨a, cap, rfl, h1, by have : maxLen = 9223372036854775807 := rfl; omega, fun hp => ?_⟩
  obtain ⟨g, off, cap2, hv, _, _, hg, hcs⟩ := h.some_ hp
  injection hv with hv _ _
  refine ⟨g, off, hv, hg, fun j x hj => ?_⟩
  have hl := h.len
  have hlt : j < cs.length := by
    rcases Nat.lt_or_ge j cs.length with h' | h'
    · exact h'
    · rw [List.getElem?_eq_none h'] at hj; cases hj
  rw [hcs j (by rw [← hl]; exact hlt)]
  exact hj
theorem own_rowsK {n0 : Nat} {w : World} {e : TypeId} {s n : Nat} {v : Value} {cs : List Value} (h : Own w e s v n cs 0) (h1 : e ≠ 55) (h2 : e ≠ 5) : RowsK n0 w v n cs := fun _ hp => own_rows (hp.own h h1 h2)
def StrR (n0 : Nat) (w : World) (v : Value) (l : List (List UInt8)) : Prop := RowsK n0 w v l.length (l.map sv)
def IntR (n0 : Nat) (w : World) (v : Value) (l : List Int) : Prop := RowsK n0 w v l.length (l.map (Value.int .i64))
def RdR (n0 : Nat) (w : World) (v : Value) (l : List Rd) : Prop := RowsK n0 w v l.length (l.flatMap Rd.cells)
def PatR (n0 : Nat) (w : World) (v : Value) (l : List (List (List UInt8))) : Prop := ∃ cs, RowsK n0 w v l.length cs ∧ ∀ i (h : i < l.length), ∃ u, cs[i]? = some u ∧ StrR n0 w u l[i]
structure NdR (n0 : Nat) (w : World) (a b r p k : Value) (n : Nd) : Prop where
  sets : StrR n0 w a n.sets
  words : StrR n0 w b n.words
  rds : RdR n0 w r n.redirs
  pats : PatR n0 w p n.pats
  kids : IntR n0 w k n.kids
def NdsR (n0 : Nat) (w : World) (v : Value) (l : List Nd) : Prop := ∃ cs, RowsK n0 w v l.length cs ∧ ∀ i (h : i < l.length), ∃ a b r p k, (∀ j, j < 8 → cs[i * 8 + j]? = (ndCells l[i] a b r p k)[j]?) ∧ NdR n0 w a b r p k l[i]
section
variable {n0 : Nat} {w w' : World}
theorem PatR.pf {v : Value} {l : List (List (List UInt8))} (h : PatR n0 w v l) (hp : PF n0 w w') : PatR n0 w' v l := by
  obtain ⟨cs, h1, h2⟩ := h
  exact ⟨cs, h1.pf hp, fun i hi => by obtain ⟨u, hu, hs⟩ := h2 i hi; exact ⟨u, hu, hs.pf hp⟩⟩
theorem NdR.pf {a b r p k : Value} {n : Nd} (h : NdR n0 w a b r p k n) (hp : PF n0 w w') : NdR n0 w' a b r p k n := ⟨h.sets.pf hp, h.words.pf hp, h.rds.pf hp, h.pats.pf hp, h.kids.pf hp⟩
theorem NdsR.pf {v : Value} {l : List Nd} (h : NdsR n0 w v l) (hp : PF n0 w w') : NdsR n0 w' v l := by
  obtain ⟨cs, h1, h2⟩ := h
  exact ⟨cs, h1.pf hp, fun i hi => by obtain ⟨a, b, r, p, k, e, hn⟩ := h2 i hi; exact ⟨a, b, r, p, k, e, hn.pf hp⟩⟩
theorem NdAt.ndR {av : Nat → Prop} {a b r p k : Value} {n : Nd} (h : NdAt av w a b r p k n) : NdR n0 w a b r p k n := by
  refine ⟨own_rowsK h.sets (by decide) (by decide), own_rowsK h.words (by decide) (by decide), own_rowsK h.rds (by decide) (by decide), ?_, own_rowsK h.kids (by decide) (by decide)⟩
  obtain ⟨cs, h1, _, h2⟩ := h.pats
  exact ⟨cs, own_rowsK h1 (by decide) (by decide), fun i hi => by obtain ⟨u, hu, hs, _⟩ := h2 i hi; exact ⟨u, hu, own_rowsK hs (by decide) (by decide)⟩⟩
theorem NdS.ndsR {av : Nat → Prop} {v : Value} {l : List Nd} (h : NdS av w v l) : NdsR n0 w v l := by
  obtain ⟨cs, h1, h2⟩ := h
  refine ⟨cs, own_rowsK h1 (by decide) (by decide), fun i hi => ?_⟩
  obtain ⟨a, b, r, p, k, e, hn⟩ := h2 i hi
  refine ⟨a, b, r, p, k, fun j hj => ?_, hn.ndR⟩
  rw [← e, List.getElem?_take_of_lt hj, List.getElem?_drop]
/-- One node's cells. -/
theorem NdsR.at_ {v : Value} {l : List Nd} (h : NdsR n0 w v l) (i : Nat) (hi : i < l.length) : ∃ g off cap a b r p k, v = .slice (some ⟨g, off, none⟩) l.length cap ∧ l.length ≤ cap ∧ l.length ≤ 9223372036854775807 ∧ g < w.heap.size ∧ NdR n0 w a b r p k l[i] ∧
    w.cell? ⟨g, off + i * 8, none⟩ = some (.int .i64 l[i].kind) ∧ w.cell? ⟨g, off + i * 8 + 1, none⟩ = some (sv l[i].name) ∧ w.cell? ⟨g, off + i * 8 + 2, none⟩ = some (.bool l[i].inn) ∧ w.cell? ⟨g, off + i * 8 + 3, none⟩ = some a ∧
    w.cell? ⟨g, off + i * 8 + 4, none⟩ = some b ∧ w.cell? ⟨g, off + i * 8 + 5, none⟩ = some r ∧ w.cell? ⟨g, off + i * 8 + 6, none⟩ = some p ∧ w.cell? ⟨g, off + i * 8 + 7, none⟩ = some k := by
  obtain ⟨cs, h1, h2⟩ := h
  obtain ⟨a0, cap, rfl, hc, hm, h3⟩ := h1.now
  obtain ⟨g, off, rfl, hg, hcs⟩ := h3 (by omega)
  obtain ⟨a, b, r, p, k, hj, hn⟩ := h2 i hi
  exact ⟨g, off, cap, a, b, r, p, k, rfl, hc, hm, hg, hn, hcs _ _ (hj 0 (by omega)), by rw [Nat.add_assoc]; exact hcs _ _ (hj 1 (by omega)), by rw [Nat.add_assoc]; exact hcs _ _ (hj 2 (by omega)), by rw [Nat.add_assoc]; exact hcs _ _ (hj 3 (by omega)), by rw [Nat.add_assoc]; exact hcs _ _ (hj 4 (by omega)), by rw [Nat.add_assoc]; exact hcs _ _ (hj 5 (by omega)), by rw [Nat.add_assoc]; exact hcs _ _ (hj 6 (by omega)), by rw [Nat.add_assoc]; exact hcs _ _ (hj 7 (by omega))⟩
end

/-! ### the printer -/
structure PrAt (n0 : Nat) (w : World) (pb : Nat) (v p buf : Value) (b : List UInt8) : Prop where
  low : n0 ≤ pb
  blk : Blk w pb 55 #[v, p, buf]
  own : w.ownsRow n0 5 1 buf b.length (Lib.byteCells b)
  ne : buf.ownBlock ≠ some pb
/-- It holds these nodes, and these bytes. -/
def PrIs (n0 : Nat) (w : World) (pb : Nat) (l : List Nd) (b : List UInt8) : Prop := ∃ v p buf, PrAt n0 w pb v p buf b ∧ (p = .pointer none ∨ p = .pointer (some ⟨pb, 1, none⟩)) ∧ NdsR n0 w v l ∧ b.length ≤ 8193
theorem PrAt.form {n0 : Nat} {w : World} {pb : Nat} {v p buf : Value} {b : List UInt8} (h : PrAt n0 w pb v p buf b) : ∃ ao cap, buf = .slice ao b.length cap := by
  rcases h.own.2 with ⟨hv, h0⟩ | ⟨g, cap, cur, hv, _⟩
  · exact ⟨none, 0, by rw [hv, h0]⟩
  · exact ⟨_, _, hv⟩
theorem PrAt.lt {n0 : Nat} {w : World} {pb : Nat} {v p buf : Value} {b : List UInt8} (h : PrAt n0 w pb v p buf b) : n0 ≤ w.heap.size := Nat.le_of_lt (Nat.lt_of_le_of_lt h.low (Blk.lt h.blk))
theorem PrAt.hasT {n0 : Nat} {w : World} {pb : Nat} {v p buf : Value} {b : List UInt8} (h : PrAt n0 w pb v p buf b) {g : Nat} (hg : buf.ownBlock = some g) : n0 ≤ g ∧ HasT w g 5 := by
  rcases h.own.2 with ⟨hv, _⟩ | ⟨g2, cap, cur, hv, hlo, hb, _⟩
  · rw [hv] at hg; simp [Value.ownBlock] at hg
  · rw [hv] at hg
    simp [Value.ownBlock] at hg
    subst hg
    exact ⟨by assumption, cur, _, by assumption⟩
theorem info5 : (Try.prog.info? 5).map (fun i => (i.zero, i.size, i.bytes)) = some (some (.int .u8 0), 1, 1) := by kernel_rfl
theorem infoBd : (Try.prog.info? 53).map (·.size) = some 2 := by kernel_rfl

end Go.Proofs.Ytdhfhphbkfgamaa

end
section
/- The builder that stands in the printer: copyCheck, Len, WriteString; put. -/
namespace Go.Proofs.Ytdhfhphbkfgamaa
open Go.RowKit Lx
set_option maxRecDepth 100000

def selfP (pb : Nat) : Value := .pointer (some ⟨pb, 1, none⟩)
theorem PrAt.cells {n0 : Nat} {w : World} {pb : Nat} {v p buf : Value} {b : List UInt8} (h : PrAt n0 w pb v p buf b) : w.cell? ⟨pb, 0, none⟩ = some v ∧ w.cell? ⟨pb, 1, none⟩ = some p ∧ w.cell? ⟨pb, 2, none⟩ = some buf := ⟨Blk.cell h.blk 0, Blk.cell h.blk 1, Blk.cell h.blk 2⟩
theorem ccheck_used (w : World) (pb : Nat) (h : w.cell? ⟨pb, 1, none⟩ = some (selfP pb)) : Calls Try.prog 62 #[selfP pb] w fun e w' => e = .returned (.tuple #[]) ∧ w' = w := by
  obtain ⟨j, hj, _⟩ := Option.map_eq_some_iff.1 infoBd
  unfold selfP at h ⊢
  go_enter Try.func62, Try.ntmps62
  go_wp2
  rw [Lib.run_neq_ptr_same w _ Try.underlying51 hj]
  go_wp2
  go_end0
  exact ⟨rfl, rfl⟩
theorem liesBd : liesAt Try.prog Try.prog.depth 55 (3 / Try.prog.cellsOf 55) 1 53 1 = true := by kernel_rfl
set_option maxHeartbeats 1000000 in
theorem ccheck_fresh (w : World) (pb : Nat) (v x : Value) (hb : Blk w pb 55 #[v, .pointer none, x]) : Calls Try.prog 62 #[selfP pb] w fun e w' => e = .returned (.tuple #[]) ∧ w' = w.setCell ⟨pb, 1, none⟩ (selfP pb) := by
  obtain ⟨j, hj, hjs⟩ := Option.map_eq_some_iff.1 infoBd
  have h0 := Blk.cell hb 1
  have hf := Blk.frozen hb 1
  have hsh : w.shape? pb = some (55, 3) := by
    have : w.heap[pb]? = some (.cells #[v, .pointer none, x] 55 (0, 0)) := hb
    simp [World.shape?, this]
  clear hb
  unfold selfP
  go_enter Try.func62, Try.ntmps62
  go_wp2
  rw [Lib.run_to_unsafe w ⟨pb, 1, none⟩ Try.underlying51 Try.underlying106 hj (by rw [hjs]; decide) hsh (by show 1 < 3; omega)]
  simp only [Result.andThen]
  rw [Oper.upon_value]
  go_wp2
  rw [run_callFunc_extern Try.func76 (by kernel_rfl) (by kernel_rfl) (by kernel_rfl) (e := Extern.AbiNoEscape.same) (by kernel_rfl)]
  rw [Lib.run_noEscape]
  simp only [Result.andThen]
  rw [Oper.upon_value]
  go_wp2
  rw [Lib.run_from_unsafe w ⟨pb, 1, none⟩ Try.underlying106 Try.underlying51 hj hsh liesBd]
  simp only [Result.andThen]
  rw [Oper.upon_value]
  go_wp2
  go_end0
  exact ⟨rfl, rfl⟩

theorem PF.set {n0 : Nat} {a b : World} (h : PF n0 a b) {p : Addr} (hp : n0 ≤ p.block) (ht : HasT b p.block 55 ∨ HasT b p.block 5) (u : Value) : PF n0 a (b.setCell p u) :=
  h.trans (Chg.setCell (Chg.refl _ b) (.inl ⟨hp, ht⟩) u)
theorem PrAt.put1 {n0 : Nat} {w : World} {pb : Nat} {v p buf : Value} {b : List UInt8} (h : PrAt n0 w pb v p buf b) (q : Value) : PrAt n0 (w.setCell ⟨pb, 1, none⟩ q) pb v q buf b :=
  ⟨h.low, h.blk.set_ 1 q, h.own.kept (row := some pb) ⟨rfl, rfl, rfl, by simp [World.setCell], fun k _ hk => Below.heap_setCell _ _ _ _ (fun e => hk (by simp [e]))⟩ (.inr h.ne), h.ne⟩
theorem PrAt.pf1 {n0 : Nat} {w : World} {pb : Nat} {v p buf : Value} {b : List UInt8} (h : PrAt n0 w pb v p buf b) (o : Nat) (q : Value) : PF n0 w (w.setCell ⟨pb, o, none⟩ q) := (PF.refl n0 w).set (p := ⟨pb, o, none⟩) h.low (.inl h.blk.hasT) q
theorem ccheck_any {n0 : Nat} {w : World} {pb : Nat} {v p buf : Value} {b : List UInt8} (h : PrAt n0 w pb v p buf b) (hp : p = .pointer none ∨ p = selfP pb) :
    Calls Try.prog 62 #[selfP pb] w fun e w' => e = .returned (.tuple #[]) ∧ PrAt n0 w' pb v (selfP pb) buf b ∧ PF n0 w w' := by
  rcases hp with rfl | rfl
  · refine (ccheck_fresh w pb v buf h.blk).mono ?_
    rintro e w' ⟨rfl, rfl⟩
    exact ⟨rfl, h.put1 _, h.pf1 _ _⟩
  · refine (ccheck_used w pb h.cells.2.1).mono ?_
    rintro e w' ⟨rfl, rfl⟩
    exact ⟨rfl, h, PF.refl _ _⟩
theorem blen_any {n0 : Nat} {w : World} {pb : Nat} {v p buf : Value} {b : List UInt8} (h : PrAt n0 w pb v p buf b) : Calls Try.prog 53 #[selfP pb] w fun e w' => e = .returned (.int .i64 b.length) ∧ w' = w := by
  obtain ⟨ao, cap, rfl⟩ := h.form
  have c2 := h.cells.2.2
  clear h
  unfold selfP
  go_enter Try.func53, Try.ntmps53
  go_wp2
  go_ret
  exact ⟨rfl, rfl⟩
theorem str_cells (s : List UInt8) : Lib.strCells ⟨s.toArray⟩ = Lib.byteCells s := (Lib.strCells_eq _).trans (by simp)
set_option maxHeartbeats 2000000 in
theorem bwrite_any {n0 : Nat} {w : World} {pb : Nat} {v p buf : Value} {b : List UInt8} (s : List UInt8) (h : PrAt n0 w pb v p buf b) (hp : p = .pointer none ∨ p = selfP pb) (hlen : b.length + s.length ≤ 140737488355328) :
    Calls Try.prog 54 #[selfP pb, sv s] w fun e w' => e = .returned (.tuple #[.int .i64 s.length, .nilIface]) ∧ (∃ buf', PrAt n0 w' pb v (selfP pb) buf' (b ++ s)) ∧ PF n0 w w' := by
  obtain ⟨i0, hi, hz0, hz1, hz2⟩ := info_parts info5
  have hc := ccheck_any h hp
  have hsz := sz s
  have Hc := hide hc
  clear hc h
  unfold sv
  go_enter Try.func54, Try.ntmps54
  unfold selfP at Hc ⊢
  go_wp2_with fail
  refine Hc.out.mono ?_
  rintro e w1 ⟨rfl, h1, hf1⟩
  obtain ⟨c0, c1, c2⟩ := h1.cells
  have HF1 := hide hf1
  have H1 := hide h1
  have hown := h1.own
  have hbase := h1.lt
  clear h1 hf1
  go_wp2_with (at_builtin; refine Lib.wpList_append_own_string _ rfl _ _ 30 9 rfl n0 5 i0 Try.underlying30 Try.underlying9 hi hz0 hz1 hz2 _ _ _ rfl hown ⟨s.toArray⟩ rfl ?c3 ?c4 hbase ?_)
  case c3 => rw [hsz]; have : maxLen = 9223372036854775807 := rfl; omega
  case c4 => rw [hsz]; omega
  intro v' w2 hown' hgrow _
  rw [str_cells, ← Lib.byteCells_append] at hown'
  have hblk2 : Blk w2 pb 55 #[v, selfP pb, buf] := by
    have := H1.out.blk
    exact Blk.grown this hgrow (fun e => H1.out.ne e.symm)
  have hf2 : PF n0 w1 w2 := Chg.of_grown hgrow fun k hk => by
    have := H1.out.hasT hk
    exact ⟨this.1, .inr this.2⟩
  have d0 := Blk.cell hblk2 1
  have d1 := Blk.cell hblk2 2
  have f1 := Blk.frozen hblk2 2
  obtain ⟨ao, n', cap, rfl⟩ : ∃ ao n' cap, v' = .slice ao n' cap := by
    rcases hown'.2 with ⟨hv, _⟩ | ⟨g, cap, cur, hv, _⟩
    · exact ⟨_, _, _, hv⟩
    · exact ⟨_, _, _, hv⟩
  have hne : (Value.slice ao n' cap).ownBlock ≠ some pb := by
    intro e
    rcases hown'.2 with ⟨hv, _⟩ | ⟨g, cap, cur, hv, _, hg, _⟩
    · rw [hv] at e; simp [Value.ownBlock] at e
    · rw [hv] at e
      simp [Value.ownBlock] at e
      subst e
      have : HasT w2 g 5 := ⟨cur, _, hg⟩
      exact absurd (this.uniq hblk2.hasT) (by decide)
  have H2 := hide hown'
  have HB2 := hide hblk2
  have HF2 := hide hf2
  have hlow := H1.out.low
  clear hown hown' hgrow hblk2 hf2
  go_wp2
  go_ret2
  have hset : PF n0 w2 (w2.setCell ⟨pb, 2, none⟩ (.slice ao n' cap)) := (PF.refl n0 w2).set (p := ⟨pb, 2, none⟩) hlow (.inl HB2.out.hasT) _
  refine ⟨by first | rfl | simp [hsz], ⟨.slice ao n' cap, hlow, HB2.out.set_ 2 _, ?_, hne⟩, (HF1.out.trans HF2.out).trans hset⟩
  have := H2.out.kept (w' := w2.setCell ⟨pb, 2, none⟩ (.slice ao n' cap)) (row := some pb) ⟨rfl, rfl, rfl, by simp [World.setCell], fun k _ hk => Below.heap_setCell _ _ _ _ (fun e => hk (by simp [e]))⟩ (.inr hne)
  rw [List.length_append]
  exact this

end Go.Proofs.Ytdhfhphbkfgamaa

end
section
/- The printer: put, words. -/
namespace Go.Proofs.Ytdhfhphbkfgamaa
open Go.RowKit Lx
set_option maxRecDepth 100000

theorem puts_snoc (b : List UInt8) (L : List (List UInt8)) (i : Nat) (h : i < L.length) : putsF b (L.take (i + 1)) = putF (putsF b (L.take i)) L[i] := by
  rw [List.take_succ_eq_append_getElem h, puts_app]
  rfl
theorem StrR.pf {n0 : Nat} {w w' : World} {v : Value} {l : List (List UInt8)} (h : StrR n0 w v l) (hp : PF n0 w w') : StrR n0 w' v l := RowsK.pf h hp
theorem IntR.pf {n0 : Nat} {w w' : World} {v : Value} {l : List Int} (h : IntR n0 w v l) (hp : PF n0 w w') : IntR n0 w' v l := RowsK.pf h hp
theorem RdR.pf {n0 : Nat} {w w' : World} {v : Value} {l : List Rd} (h : RdR n0 w v l) (hp : PF n0 w w') : RdR n0 w' v l := RowsK.pf h hp
theorem StrR.at_ {n0 : Nat} {w : World} {v : Value} {L : List (List UInt8)} (h : StrR n0 w v L) : ∃ a cap, v = .slice a L.length cap ∧ L.length ≤ cap ∧ L.length ≤ 9223372036854775807 := by
  obtain ⟨a, cap, hv, h1, h2, _⟩ := h.now
  exact ⟨a, cap, hv, h1, h2⟩
theorem StrR.get {n0 : Nat} {w : World} {a : Option Addr} {m cap : Nat} {L : List (List UInt8)} (h : StrR n0 w (.slice a m cap) L) (i : Nat) (hi : i < L.length) : ∃ g off, a = some ⟨g, off, none⟩ ∧ g < w.heap.size ∧ w.cell? ⟨g, off + i, none⟩ = some (sv L[i]) := by
  obtain ⟨a2, cap2, hv, h1, _, h2⟩ := h.now
  injection hv with hv _ _
  obtain ⟨g, off, ha, hg, hc⟩ := h2 (by omega)
  exact ⟨g, off, hv.trans ha, hg, hc i _ (by simp [hi])⟩
theorem PrAt.grown {n0 : Nat} {w w' : World} {pb : Nat} {v p buf : Value} {b : List UInt8} (h : PrAt n0 w pb v p buf b) (hg : w.grownBy w' none) : PrAt n0 w' pb v p buf b :=
  ⟨h.low, Blk.grown h.blk hg (by simp), h.own.kept hg (by cases h : buf.ownBlock with | none => exact .inl rfl | some g => exact .inr (by simp)), h.ne⟩
theorem grown_drewN (w : World) (n : Nat) : w.grownBy (w.drewN n) none := Chg.grown (Chg.drewN (Chg.refl nobody w) n) (fun _ _ h => h)
set_option maxHeartbeats 4000000 in
theorem put_any (n0 pb : Nat) (l : List Nd) (b : List UInt8) (L : List (List UInt8)) (vL : Value) (w : World) (h : PrIs n0 w pb l b) (hL : StrR n0 w vL L) :
    Calls Try.prog 30 #[.pointer (some ⟨pb, 0, none⟩), vL] w fun e w' => e = .returned (.tuple #[]) ∧ PrIs n0 w' pb l (putsF b L) ∧ PF n0 w w' := by
  obtain ⟨a, cap, rfl, hcap, hmx⟩ := hL.at_
  have HL := hide hL
  have H := hide h
  have hmx2 : (L.length : Int) ≤ 9223372036854775807 := by omega
  clear hL h
  go_enter Try.func30, Try.ntmps30
  go_wp2_with fail
  go_loopw [8] (fun v wr => ∃ i : Nat, v = .int .i64 i ∧ i ≤ L.length ∧ PrIs n0 wr pb l (putsF b (L.take i)) ∧ PF n0 w wr) (fun v _ => L.length - (intOf v).toNat)
  case atStart => exact ⟨0, rfl, Nat.zero_le _, H.out, PF.refl _ _⟩
  case round =>
    obtain ⟨i, rfl, hi, hP, hF⟩ := hrel
    have HF := hide hF
    by_cases hlt : i < L.length
    · have q0 : decide ((i : Int) < (L.length : Int)) = true := decide_eq_true (by omega)
      have hib : (0 : Int) ≤ i ∧ (i : Int) < (L.length : Int) := by omega
      obtain ⟨g, off, ha, hg, hcell⟩ := (StrR.pf HL.out hF).get i hlt
      have hsn := puts_snoc b L i hlt
      obtain ⟨s, hs⟩ : ∃ s, L[i] = s := ⟨_, rfl⟩
      rw [hs] at hcell hsn
      unfold sv at hcell
      obtain ⟨B, hB⟩ : ∃ B, putsF b (L.take i) = B := ⟨_, rfl⟩
      rw [hB] at hP hsn
      obtain ⟨v, p, buf, hA, hp, hN, hbl⟩ := hP
      have hlen := hide (fun W (hW : PrAt n0 W pb v p buf B) => blen_any hW)
      have HA := hide hA
      have HN := hide hN
      have HSN := hide hsn
      obtain ⟨z0, z1, z2⟩ := hA.cells
      clear hF hs hB hA hN hsn
      subst ha
      by_cases hle : B.length ≤ 4096
      · have q1 : decide ((B.length : Int) ≤ 4096) = true := decide_eq_true (by omega)
        have hsz := sz s
        obtain ⟨m, hm⟩ : ∃ m, min s.length 4097 = m := ⟨_, rfl⟩
        have hmi : min (s.length : Int) 4097 = (m : Int) := by omega
        have hml : m ≤ s.length := by omega
        have hms : s.take m = s.take 4097 := by
          rw [← hm]
          rcases Nat.le_total s.length 4097 with h | h
          · rw [Nat.min_eq_left h, List.take_of_length_le (Nat.le_refl _), List.take_of_length_le h]
          · rw [Nat.min_eq_right h]
        have hex := ext_take s m
        rw [hms] at hex
        obtain ⟨T, hT⟩ : ∃ T, s.take 4097 = T := ⟨_, rfl⟩
        rw [hT] at hex
        have hTl : T.length ≤ 4097 := by rw [← hT, List.length_take]; omega
        have hput : putF B s = B ++ T := by unfold putF; rw [if_pos hle, hT]
        have HPUT := hide hput
        have Hw := hide (fun W (hW : PrAt n0 W pb v p buf B) => bwrite_any T hW hp (by omega))
        have hmib : (0 : Int) ≤ m ∧ (m : Int) ≤ (s.length : Int) := by omega
        unfold sv at Hw
        clear hput hms hT hm
        go_wp2_with fail
        refine (hlen.out _ HA.out).mono ?_
        rintro e w1 ⟨rfl, rfl⟩
        go_wp2_with fail
        refine wp_region_qtail 8 (by kernel_rfl) (by kernel_rfl) ?_
        simp only [List.take_succ_cons, List.take_zero, List.drop_succ_cons, List.drop_zero]
        repeat (first | (refine wpQuiet_val (.int .i64 m) rfl ?_ ?_; exact (by simp [execOp, resolve, invoke, builtin, Builtin.min_, Builtin.min2]; omega)) | go_big_quiet_step (fail))
        refine wpQuiet_nil ?_
        rintro _ ⟨nq, rfl⟩
        have HAd := hide (HA.out.grown (grown_drewN _ nq))
        have HFd := hide (HF.out.trans (PF.of_grown (n0 := n0) (grown_drewN _ nq)))
        have HNd := hide (NdsR.pf HN.out (PF.of_grown (n0 := n0) (grown_drewN _ nq)))
        go_wp2_with fail
        refine (Hw.out _ HAd.out).mono ?_
        rintro e w2 ⟨rfl, ⟨buf2, hA2⟩, hF2⟩
        have HA2 := hide hA2
        have HF2 := hide hF2
        clear hA2 hF2
        go_wp2_with fail
        go_roundw
        case rel => exact ⟨i + 1, by go_num, by omega, by rw [HSN.out, HPUT.out]; exact ⟨v, selfP pb, buf2, HA2.out, .inr rfl, HNd.out.pf HF2.out, by rw [List.length_append]; omega⟩, HFd.out.trans HF2.out⟩
        case measure => simp [intOf]; omega
      · have q1 : decide ((B.length : Int) ≤ 4096) = false := decide_eq_false (by omega)
        have hput : putF B s = B := by unfold putF; rw [if_neg hle]
        go_wp2_with fail
        refine (hlen.out _ HA.out).mono ?_
        rintro e w1 ⟨rfl, rfl⟩
        go_wp2_with fail
        go_roundw
        case rel => exact ⟨i + 1, by go_num, by omega, by rw [HSN.out, hput]; exact ⟨v, p, buf, HA.out, hp, HN.out, hbl⟩, HF.out⟩
        case measure => simp [intOf]; omega
    · obtain rfl : i = L.length := by omega
      have q0 : decide ((L.length : Int) < (L.length : Int)) = false := decide_eq_false (by omega)
      rw [List.take_length] at hP
      go_wp2_with fail
      go_end0
      exact ⟨rfl, hP, HF.out⟩

theorem PrIs.grown {n0 : Nat} {w w' : World} {pb : Nat} {l : List Nd} {b : List UInt8} (h : PrIs n0 w pb l b) (hg : w.grownBy w' none) : PrIs n0 w' pb l b := by
  obtain ⟨v, p, buf, hA, hp, hN, hl⟩ := h
  exact ⟨v, p, buf, hA.grown hg, hp, hN.pf (PF.of_grown hg), hl⟩
theorem blk_own {w : World} {g : Nat} {e : TypeId} {cs : List Value} (h : Blk w g e cs.toArray) (hm : cs.length ≤ 9223372036854775807) : Own w e 1 (.slice (some ⟨g, 0, none⟩) cs.length cs.length) cs.length cs 0 :=
  ⟨by omega, .inr ⟨g, 0, cs.length, cs.toArray, (0, 0), rfl, h, Nat.le_refl _, Nat.le_refl _, hm, by simp, fun j _ => by simp⟩⟩
theorem put_new (n0 pb : Nat) (l : List Nd) (b : List UInt8) (L : List (List UInt8)) (w : World) (h : PrIs n0 w pb l b) (hm : L.length ≤ 1000) :
    Calls Try.prog 30 #[.pointer (some ⟨pb, 0, none⟩), .slice (some ⟨w.heap.size, 0, none⟩) L.length L.length] (w.alloc (.cells (L.map sv).toArray 9)) fun e w' => e = .returned (.tuple #[]) ∧ PrIs n0 w' pb l (putsF b L) ∧ PF n0 w w' := by
  have hg := World.grownBy_alloc w (.cells (L.map sv).toArray 9) none
  have ho : Own (w.alloc (.cells (L.map sv).toArray 9)) 9 1 (.slice (some ⟨w.heap.size, 0, none⟩) L.length L.length) L.length (L.map sv) 0 := by
    have := blk_own (Blk.new w 9 (L.map sv).toArray) (by rw [List.length_map]; omega)
    rw [List.length_map] at this
    exact this
  refine (put_any n0 pb l b L _ _ (h.grown hg) (own_rowsK ho (by decide) (by decide))).mono ?_
  rintro e w' ⟨rfl, h1, h2⟩
  exact ⟨rfl, h1, (PF.of_grown hg).trans h2⟩
theorem words_snoc : ∀ (L : List (List UInt8)) (m : Bool) (i : Nat) (h : i < L.length), wordsE (L.take (i + 1)) m = wordsE (L.take i) m ++ ((if wordsM (L.take i) m = true then [[32]] else []) ++ [L[i]])
  | [], _, _, h => by simp at h
  | s :: r, m, 0, _ => by cases m <;> simp [wordsE, wordsM]
  | s :: r, m, i + 1, h => by
    have := words_snoc r true i (by simpa using h)
    rw [List.take_succ_cons, List.take_succ_cons, wordsE, wordsE, this]
    simp [wordsM]
set_option maxHeartbeats 4000000 in
theorem words_any (n0 pb : Nat) (l : List Nd) (b : List UInt8) (L : List (List UInt8)) (m : Bool) (vL : Value) (w : World) (h : PrIs n0 w pb l b) (hL : StrR n0 w vL L) :
    Calls Try.prog 29 #[.pointer (some ⟨pb, 0, none⟩), vL, .bool m] w fun e w' => e = .returned (.bool (wordsM L m)) ∧ PrIs n0 w' pb l (putsF b (wordsE L m)) ∧ PF n0 w w' := by
  obtain ⟨a, cap, rfl, hcap, hmx⟩ := hL.at_
  have HL := hide hL
  have H := hide h
  have HP1 := hide (fun b L W (hW : PrIs n0 W pb l b) (hL : L.length ≤ 1000) => put_new n0 pb l b L W hW hL)
  have hmx2 : (L.length : Int) ≤ 9223372036854775807 := by omega
  clear hL h
  go_enter Try.func29, Try.ntmps29
  go_wp2_with fail
  go_loopw [2, 11] (fun u v wr => ∃ i : Nat, v = .int .i64 i ∧ u = .bool (wordsM (L.take i) m) ∧ i ≤ L.length ∧ PrIs n0 wr pb l (putsF b (wordsE (L.take i) m)) ∧ PF n0 w wr) (fun _ v wr => L.length - (intOf v).toNat)
  case atStart => exact ⟨0, rfl, by cases m <;> rfl, Nat.zero_le _, H.out, PF.refl _ _⟩
  case round =>
    obtain ⟨i, rfl, rfl, hi, hP, hF⟩ := hrel
    have HF := hide hF
    by_cases hlt : i < L.length
    · have q0 : decide ((i : Int) < (L.length : Int)) = true := decide_eq_true (by omega)
      have hib : (0 : Int) ≤ i ∧ (i : Int) < (L.length : Int) := by omega
      obtain ⟨g, off, ha, hg, hcell⟩ := (StrR.pf HL.out hF).get i hlt
      have hsn := words_snoc L m i hlt
      have hmn : wordsM (L.take (i + 1)) m = true := by
        unfold wordsM
        rw [List.take_succ_eq_append_getElem hlt]
        cases L.take i <;> simp
      obtain ⟨s, hs⟩ : ∃ s, L[i] = s := ⟨_, rfl⟩
      rw [hs] at hcell hsn
      unfold sv at hcell
      obtain ⟨mo, hmo⟩ : ∃ mo, wordsM (L.take i) m = mo := ⟨_, rfl⟩
      rw [hmo] at hsn ⊢
      have hput : putsF b (wordsE (L.take (i + 1)) m) = putsF (putsF b (wordsE (L.take i) m)) ((if mo = true then [[32]] else []) ++ [s]) := by rw [hsn, puts_app]
      obtain ⟨B, hB⟩ : ∃ B, putsF b (wordsE (L.take i) m) = B := ⟨_, rfl⟩
      rw [hB] at hP hput
      have HP := hide hP
      have HPUT := hide hput
      have HMN := hide hmn
      clear hF hs hB hsn hput hmn hmo hP
      subst ha
      cases mo with
      | true =>
        go_wp2_with fail
        refine (HP1.out B [[32]] _ HP.out (by decide)).mono ?_
        rintro e w1 ⟨rfl, hP1, hF1⟩
        have HP2 := hide hP1
        have HF1 := hide (HF.out.trans hF1)
        clear hP1 hF1
        go_wp2_with fail
        refine (HP1.out _ [s] _ HP2.out (by simp)).mono ?_
        rintro e w2 ⟨rfl, hP1, hF2⟩
        have HP3 := hide hP1
        have HF2 := hide (HF1.out.trans hF2)
        clear hP1 hF2
        go_wp2_with fail
        go_roundw
        case rel => exact ⟨i + 1, by go_num, by rw [HMN.out], by omega, by rw [HPUT.out]; exact HP3.out, HF2.out⟩
        case measure => simp [intOf]; omega
      | false =>
        go_wp2_with fail
        refine (HP1.out B [s] _ HP.out (by simp)).mono ?_
        rintro e w2 ⟨rfl, hP1, hF2⟩
        have HP3 := hide hP1
        have HF2 := hide (HF.out.trans hF2)
        clear hP1 hF2
        go_wp2_with fail
        go_roundw
        case rel => exact ⟨i + 1, by go_num, by rw [HMN.out], by omega, by rw [HPUT.out]; exact HP3.out, HF2.out⟩
        case measure => simp [intOf]; omega
    · obtain rfl : i = L.length := by omega
      have q0 : decide ((L.length : Int) < (L.length : Int)) = false := decide_eq_false (by omega)
      rw [List.take_length] at hP ⊢
      go_wp2_with fail
      go_ret
      exact ⟨rfl, hP, HF.out⟩

end Go.Proofs.Ytdhfhphbkfgamaa

end
