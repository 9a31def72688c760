/- The terminal as an object of four blocks, and the builder that lies in it: copyCheck, WriteString, WriteByte, String. -/
import Derived.Test.YtpabcopkecgphaaOwn
namespace Go.Proofs.Ytpabcopkecgphaa
open Go.RowKit

structure TS where
  lines : List (List UInt8)
  typed : List UInt8
  silent : Bool
  screen : List UInt8

def lcells (l : List (List UInt8)) : List Value := l.map fun s => .string ⟨s.toArray⟩
def waitOf : List (List UInt8) → Nat
  | [] => 0
  | s :: r => max 1 s.length + waitOf r

/-- What the six cells own. -/
structure Parts (w : World) (b : Nat) (lv tv bv : Value) (st : TS) : Prop where
  ol : Own w 9 1 lv st.lines.length (lcells st.lines) 0
  ot : Own w 5 1 tv st.typed.length (bcells st.typed) 0
  ob : Own w 5 1 bv st.screen.length (bcells st.screen) st.screen.length
  nl : lv.ownBlock ≠ some b
  nt : tv.ownBlock ≠ some b
  nb : bv.ownBlock ≠ some b
  lt : ∀ k, lv.ownBlock = some k → tv.ownBlock ≠ some k
  lb : ∀ k, lv.ownBlock = some k → bv.ownBlock ≠ some k
  tb : ∀ k, tv.ownBlock = some k → bv.ownBlock ≠ some k
  e : st.screen = [] → bv = .slice none 0 0

def tcs (lv tv bv : Value) (si : Bool) (pa : Option Addr) (wt : Int) : Array Value := #[lv, tv, .bool si, .pointer pa, bv, .int .i64 wt]

structure TtyAt (w : World) (b : Nat) (lv tv bv : Value) (pa : Option Addr) (st : TS) : Prop where
  blk : Blk w b 55 (tcs lv tv bv st.silent pa (waitOf st.lines : Nat))
  parts : Parts w b lv tv bv st
  p : pa = none ∨ pa = some ⟨b, 3, none⟩

def tOwn (b : Nat) (lv tv bv : Value) : Nat → Prop := fun k => k = b ∨ lv.ownBlock = some k ∨ tv.ownBlock = some k ∨ bv.ownBlock = some k
def TtyIs (w : World) (b : Nat) (S : Nat → Prop) (st : TS) : Prop := ∃ lv tv bv pa, TtyAt w b lv tv bv pa st ∧ S = tOwn b lv tv bv
def TtyTo (w w' : World) (b : Nat) (S : Nat → Prop) (st' : TS) : Prop := ∃ S', TtyIs w' b S' st' ∧ (∀ k, S' k → S k ∨ w.heap.size ≤ k) ∧ Chg S w w'

theorem Blk.c6 {w : World} {g : Nat} {t : TypeId} {a b c d e f : Value} (h : Blk w g t #[a, b, c, d, e, f]) :
    (w.cell? ⟨g, 0, none⟩ = some a ∧ w.cell? ⟨g, 1, none⟩ = some b ∧ w.cell? ⟨g, 2, none⟩ = some c ∧ w.cell? ⟨g, 3, none⟩ = some d ∧ w.cell? ⟨g, 4, none⟩ = some e ∧ w.cell? ⟨g, 5, none⟩ = some f) ∧
    w.frozen? ⟨g, 0, none⟩ = false ∧ w.frozen? ⟨g, 1, none⟩ = false ∧ w.frozen? ⟨g, 2, none⟩ = false ∧ w.frozen? ⟨g, 3, none⟩ = false ∧ w.frozen? ⟨g, 4, none⟩ = false ∧ w.frozen? ⟨g, 5, none⟩ = false :=
  ⟨⟨h.cell 0, h.cell 1, h.cell 2, h.cell 3, h.cell 4, h.cell 5⟩, h.frozen 0, h.frozen 1, h.frozen 2, h.frozen 3, h.frozen 4, h.frozen 5⟩

section
variable {w w' w1 w2 : World} {b : Nat} {lv tv bv : Value} {pa : Option Addr} {st st1 st2 : TS} {S : Nat → Prop}

theorem Parts.far (h : Parts w b lv tv bv st) (i : Nat) (u : Value) : Parts (w.setCell ⟨b, i, none⟩ u) b lv tv bv st :=
  ⟨h.ol.far h.nl u, h.ot.far h.nt u, h.ob.far h.nb u, h.nl, h.nt, h.nb, h.lt, h.lb, h.tb, h.e⟩
theorem Parts.chg (h : Parts w b lv tv bv st) (hc : Chg S w w') (hS : ∀ k, tOwn b lv tv bv k → ¬ S k) : Parts w' b lv tv bv st :=
  ⟨h.ol.chg hc fun k hk => hS k (.inr (.inl hk)), h.ot.chg hc fun k hk => hS k (.inr (.inr (.inl hk))), h.ob.chg hc fun k hk => hS k (.inr (.inr (.inr hk))), h.nl, h.nt, h.nb, h.lt, h.lb, h.tb, h.e⟩
theorem Parts.alloc (h : Parts w b lv tv bv st) (o : Obj) : Parts (w.alloc o) b lv tv bv st :=
  ⟨h.ol.alloc o, h.ot.alloc o, h.ob.alloc o, h.nl, h.nt, h.nb, h.lt, h.lb, h.tb, h.e⟩
theorem Parts.lt_size (h : Parts w b lv tv bv st) {k : Nat} (hk : lv.ownBlock = some k ∨ tv.ownBlock = some k ∨ bv.ownBlock = some k) : k < w.heap.size := by
  rcases hk with hk | hk | hk
  · exact h.ol.lt hk
  · exact h.ot.lt hk
  · exact h.ob.lt hk
theorem Parts.newL (h : Parts w b lv tv bv st) (hb : b < w.heap.size) {lv' : Value} {ls : List (List UInt8)} (ho : Own w' 9 1 lv' ls.length (lcells ls) 0) (hc : Chg (fun k => lv.ownBlock = some k) w w')
    (hn : ∀ k, lv'.ownBlock = some k → lv.ownBlock = some k ∨ w.heap.size ≤ k) : Parts w' b lv' tv bv { st with lines := ls } := by
  have hx : ∀ k, k < w.heap.size → lv'.ownBlock = some k → lv.ownBlock = some k := fun k hk e => (hn k e).elim id (fun h => absurd h (by omega))
  refine ⟨ho, h.ot.chg hc fun k hk e => h.lt k e hk, h.ob.chg hc fun k hk e => h.lb k e hk, fun e => h.nl (hx b hb e), h.nt, h.nb, ?_, ?_, h.tb, h.e⟩
  · exact fun k e1 e2 => h.lt k (hx k (h.ot.lt e2) e1) e2
  · exact fun k e1 e2 => h.lb k (hx k (h.ob.lt e2) e1) e2
theorem Parts.newT (h : Parts w b lv tv bv st) (hb : b < w.heap.size) {tv' : Value} {ls : List UInt8} (ho : Own w' 5 1 tv' ls.length (bcells ls) 0) (hc : Chg (fun k => tv.ownBlock = some k) w w')
    (hn : ∀ k, tv'.ownBlock = some k → tv.ownBlock = some k ∨ w.heap.size ≤ k) : Parts w' b lv tv' bv { st with typed := ls } := by
  have hx : ∀ k, k < w.heap.size → tv'.ownBlock = some k → tv.ownBlock = some k := fun k hk e => (hn k e).elim id (fun h => absurd h (by omega))
  refine ⟨h.ol.chg hc fun k hk e => h.lt k hk e, ho, h.ob.chg hc fun k hk e => h.tb k e hk, h.nl, fun e => h.nt (hx b hb e), h.nb, ?_, h.lb, ?_, h.e⟩
  · exact fun k e1 e2 => h.lt k e1 (hx k (h.ol.lt e1) e2)
  · exact fun k e1 e2 => h.tb k (hx k (h.ob.lt e2) e1) e2
theorem Parts.newB (h : Parts w b lv tv bv st) (hb : b < w.heap.size) {bv' : Value} {ls : List UInt8} (ho : Own w' 5 1 bv' ls.length (bcells ls) ls.length) (hc : Chg (fun k => bv.ownBlock = some k) w w')
    (hn : ∀ k, bv'.ownBlock = some k → bv.ownBlock = some k ∨ w.heap.size ≤ k) (he : ls = [] → bv' = .slice none 0 0) : Parts w' b lv tv bv' { st with screen := ls } := by
  have hx : ∀ k, k < w.heap.size → bv'.ownBlock = some k → bv.ownBlock = some k := fun k hk e => (hn k e).elim id (fun h => absurd h (by omega))
  refine ⟨h.ol.chg hc fun k hk e => h.lb k hk e, h.ot.chg hc fun k hk e => h.tb k hk e, ho, h.nl, h.nt, fun e => h.nb (hx b hb e), h.lt, ?_, ?_, he⟩
  · exact fun k e1 e2 => h.lb k e1 (hx k (h.ol.lt e1) e2)
  · exact fun k e1 e2 => h.tb k e1 (hx k (h.ot.lt e1) e2)

theorem TtyIs.lt (h : TtyIs w b S st) {k : Nat} (hk : S k) : k < w.heap.size := by
  obtain ⟨lv, tv, bv, pa, h, rfl⟩ := h
  rcases hk with rfl | hk
  · exact h.blk.lt
  · exact h.parts.lt_size hk
theorem TtyIs.chg {T : Nat → Prop} (h : TtyIs w b S st) (hc : Chg T w w') (hd : ∀ k, S k → ¬ T k) : TtyIs w' b S st := by
  obtain ⟨lv, tv, bv, pa, h, rfl⟩ := h
  exact ⟨lv, tv, bv, pa, ⟨h.blk.chg hc (hd b (.inl rfl)), h.parts.chg hc hd, h.p⟩, rfl⟩
theorem TtyTo.refl (h : TtyIs w b S st) : TtyTo w w b S st := ⟨S, h, fun _ hk => .inl hk, Chg.refl _ _⟩
theorem TtyTo.then {S1 : Nat → Prop} (h2 : ∀ k, S1 k → S k ∨ w.heap.size ≤ k) (h3 : Chg S w w1) (k : TtyTo w1 w2 b S1 st2) : TtyTo w w2 b S st2 := by
  obtain ⟨S2, k1, k2, k3⟩ := k
  refine ⟨S2, k1, fun i hi => ?_, h3.trans k3 fun i hi hs => (h2 i hs).elim id (fun h => absurd h (by omega))⟩
  rcases k2 i hi with hi | hi
  · exact h2 i hi
  · exact .inr (Nat.le_trans h3.size hi)
theorem TtyTo.trans (h : TtyTo w w1 b S st1) (k : ∀ S1, TtyIs w1 b S1 st1 → TtyTo w1 w2 b S1 st2) : TtyTo w w2 b S st2 := by
  obtain ⟨S1, h1, h2, h3⟩ := h
  obtain ⟨S2, k1, k2, k3⟩ := k S1 h1
  refine ⟨S2, k1, fun i hi => ?_, h3.trans k3 fun i hi hs => (h2 i hs).elim id (fun h => absurd h (by omega))⟩
  rcases k2 i hi with hi | hi
  · exact h2 i hi
  · exact .inr (Nat.le_trans h3.size hi)
theorem TtyTo.mk {lv' tv' bv' : Value} {pa' : Option Addr} (h' : TtyAt w' b lv' tv' bv' pa' st1) (hc : Chg (tOwn b lv tv bv) w w')
    (hn : ∀ k, lv'.ownBlock = some k ∨ tv'.ownBlock = some k ∨ bv'.ownBlock = some k → (lv.ownBlock = some k ∨ tv.ownBlock = some k ∨ bv.ownBlock = some k) ∨ w.heap.size ≤ k) : TtyTo w w' b (tOwn b lv tv bv) st1 := by
  refine ⟨_, ⟨lv', tv', bv', pa', h', rfl⟩, fun k hk => ?_, hc⟩
  rcases hk with rfl | hk
  · exact .inl (.inl rfl)
  · exact (hn k hk).imp .inr id
end

/-! ### the builder in the terminal -/
theorem info53 : ∃ j, Try.prog.info? 53 = some j ∧ j.size = 2 := Option.map_eq_some_iff.1 (show (Try.prog.info? 53).map (fun j => j.size) = some 2 by kernel_rfl)

set_option maxHeartbeats 400000 in
theorem copyCheck_used (b : Nat) (w : World) (h0 : w.cell? ⟨b, 3, none⟩ = some (.pointer (some ⟨b, 3, none⟩))) :
    Calls Try.prog 34 #[.pointer (some ⟨b, 3, none⟩)] w fun e w' => e = .returned (.tuple #[]) ∧ w' = w := by
  obtain ⟨j, hj, hjs⟩ := info53
  go_enter Try.func34, Try.ntmps34
  go_wp2
  rw [Lib.run_neq_ptr_same (tp := 51) (te := 53) w ⟨b, 3, none⟩ (by kernel_rfl) hj]
  simp only [Result.andThen]
  rw [Oper.upon_value]
  go_wp2
  go_end0
  exact ⟨rfl, rfl⟩

set_option maxHeartbeats 400000 in
theorem copyCheck_fresh (b : Nat) (cs : Array Value) (hs : cs.size = 6) (w : World) (hb : Blk w b 55 cs) (h0 : w.cell? ⟨b, 3, none⟩ = some (.pointer none)) :
    Calls Try.prog 34 #[.pointer (some ⟨b, 3, none⟩)] w fun e w' => e = .returned (.tuple #[]) ∧ w' = w.setCell ⟨b, 3, none⟩ (.pointer (some ⟨b, 3, none⟩)) := by
  obtain ⟨j, hj, hjs⟩ := info53
  have hsh : w.shape? b = some (55, 6) := by
    unfold Blk at hb
    simp [World.shape?, hb, hs]
  have z0 : w.frozen? ⟨b, 3, none⟩ = false := hb.frozen 3
  go_enter Try.func34, Try.ntmps34
  go_wp2
  rw [Lib.run_to_unsafe (t := 53) (e := 55) (cells := 6) w ⟨b, 3, none⟩ (by kernel_rfl) (by kernel_rfl) hj (by rw [hjs]; decide) hsh (by simp)]
  simp only [Result.andThen]
  rw [Oper.upon_value]
  go_wp2
  rw [run_callFunc_extern (P := Try.prog) (f := 37) (fn := Try.f37) (by kernel_rfl) (by kernel_rfl) (by kernel_rfl) (by kernel_rfl) (e := Extern.AbiNoEscape.same) (by kernel_rfl)]
  rw [Lib.run_noEscape]
  simp only [Result.andThen]
  rw [Oper.upon_value]
  go_wp2
  rw [Lib.run_from_unsafe (u := 53) (e := 55) (cells := 6) w ⟨b, 3, none⟩ (by kernel_rfl) (by kernel_rfl) hj hsh (by kernel_rfl)]
  simp only [Result.andThen]
  rw [Oper.upon_value]
  go_wp2
  go_end0
  exact ⟨rfl, rfl⟩

end Go.Proofs.Ytpabcopkecgphaa
