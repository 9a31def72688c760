/- A simple command. -/
import Derived.Test.YtgpfjcogaheopaaMK
import Derived.Test.YtgpfjcogaheopaaPermP
import Derived.Deep.LoopGhost
import Derived.Deep.CutBlock
import Derived.Deep.DeepCutAuto
import Derived.WalkMore
set_option linter.all false
namespace Go.Proofs.Ytgpfjcogaheopaa
open Go.RowKit Lx
set_option maxRecDepth 100000
theorem infoStr : (Try.prog.info? 9).map (fun i => (i.zero, i.size, i.bytes)) = some (some (.string ⟨#[]⟩), 1, 16) := by kernel_rfl
theorem srcS (W : World) (b : Nat) (x : List UInt8) (hb : W.heap.size = b) : Src Try.prog 1 28 (.slice (some ⟨b, 0, none⟩) 1 1) 1 [sv x] (W.alloc (.cells #[.string ⟨x.toArray⟩] 9)) := by
 subst hb
 exact Own.src (P := Try.prog) (tx := 28) (e' := 9) (n := 1) (xs := [sv x]) (k := 0) (e := 9) ⟨rfl, .inr ⟨W.heap.size, 0, 1, _, (0, 0), rfl, Blk.new W 9 _, Nat.le_refl _, Nat.le_refl _, by unfold maxLen; omega, by show 0 + 1 * 1 ≤ 1; omega, fun j hj => (by (have h0 : j = 0 := by omega); subst h0; rfl)⟩⟩ (by kernel_rfl) (by intro u hu; simp at hu; subst hu; rfl)
theorem srcRs {w : World} {v : Value} {l : List Rd} (h : RdS w v l) : Src Try.prog 3 29 v l.length (l.flatMap Rd.cells) w :=
 Own.src (P := Try.prog) (tx := 29) (e' := 44) (e := 44) h (by kernel_rfl) (by
  intro u hu
  rw [List.mem_flatMap] at hu
  obtain ⟨x, _, hu⟩ := hu
  simp only [Rd.cells, List.mem_cons, List.mem_nil_iff, or_false] at hu
  rcases hu with rfl | rfl | rfl <;> rfl)
section
variable {av : Nat → Prop} {base : Nat → Prop} {rb d : Nat} {w W W' wA : World} {vn vt0 : Value} {ts ts' ts0 : List Tok} {ns : List Nd}
theorem TIs.other (h0 : RAt av base w rb vt0 vn ts0 ns d) (h : TIs av base W rb vn ts ns d) (hg : w.grownBy W (some rb)) {S : Nat → Prop} (hc : Chg S W W') (hS : ∀ k, S k → w.heap.size ≤ k) (hT : ∀ k, S k → ¬ HasT W k 41) : TIs av base W' rb vn ts ns d ∧ w.grownBy W' (some rb) := by
 have hrb := Blk.lt h0.blk
 have hg' : w.grownBy W' (some rb) := ⟨hc.os.trans hg.os, hc.tape.trans hg.tape, hc.output.trans hg.output, Nat.le_trans hg.size hc.size, fun k hk hne => (hc.block k (Nat.lt_of_lt_of_le hk hg.size) (fun e => by have := hS k e; omega)).trans (hg.block k hk hne)⟩
 obtain ⟨vt, h⟩ := h
 exact ⟨⟨vt, h0.back hg' (Blk.chg h.blk hc (fun e => by have := hS rb e; omega)) (h.tok.chg hc (fun g hgg e => hT g e (Own.hasT h.tok hgg))) h.good h.few h.txt⟩, hg'⟩
/-- A node under way that has sets, words, redirections. -/
structure SimAt (av : Nat → Prop) (base : Nat → Prop) (w W : World) (rb : Nat) (vn : Value) (ts : List Tok) (ns : List Nd) (d B : Nat) (S D : List (List UInt8)) (L : List Rd) (a b r : Value) : Prop where
 t : TIs av base W rb vn ts ns d
 box : Blk W B 33 #[.int .i64 1, .string ⟨#[]⟩, .bool false, a, b, r, .slice none 0 0, .slice none 0 0]
 hB : w.heap.size ≤ B
 sets : StrS W a S
 words : StrS W b D
 rds : RdS W r L
 na : ∀ k, a.ownBlock = some k → w.heap.size ≤ k
 nb : ∀ k, b.ownBlock = some k → w.heap.size ≤ k
 nr : ∀ k, r.ownBlock = some k → w.heap.size ≤ k
 ab : ∀ k, a.ownBlock = some k → b.ownBlock = some k → False
 gr : w.grownBy W (some rb)
variable {B : Nat} {S D : List (List UInt8)} {L : List Rd} {a b r vA : Value}
theorem SimAt.step (h0 : RAt av base w rb vt0 vn ts0 ns d) (h : SimAt av base w W rb vn ts ns d B S D L a b r) (hg : W.grownBy W' (some rb)) (ht : TIs av base W' rb vn ts' ns d) : SimAt av base w W' rb vn ts' ns d B S D L a b r := by
 have hrb := Blk.lt h0.blk
 obtain ⟨vt, hb⟩ := h.t.blk
 have hc : Chg (fun k => k = rb) W W' := Chg.of_grown hg (fun k hk => by injection hk with hk; exact hk.symm)
 have hTr := hb.hasT
 refine ⟨ht, Blk.grown h.box hg (fun e => by injection e with e; have := h.hB; omega), h.hB, Own.chg h.sets hc (fun g hgg e => ?_), Own.chg h.words hc (fun g hgg e => ?_), Own.chg h.rds hc (fun g hgg e => ?_), h.na, h.nb, h.nr, h.ab, rb_trans h.gr hg⟩
 ·subst e; exact absurd ((Own.hasT h.sets hgg).uniq hTr) (by decide)
 ·subst e; exact absurd ((Own.hasT h.words hgg).uniq hTr) (by decide)
 ·subst e; exact absurd ((Own.hasT h.rds hgg).uniq hTr) (by decide)
theorem SimAt.grown (h0 : RAt av base w rb vt0 vn ts0 ns d) (h : SimAt av base w W rb vn ts ns d B S D L a b r) (hg : W.grownBy W' none) : SimAt av base w W' rb vn ts ns d B S D L a b r := h.step h0 (rb_none hg) (h.t.grown hg)
theorem SimAt.box3 (h : SimAt av base w W rb vn ts ns d B S D L a b r) (o : Obj) (hc : Chg (fun k => a.ownBlock = some k) (W.alloc o) wA) : Blk wA B 33 #[.int .i64 1, .string ⟨#[]⟩, .bool false, a, b, r, .slice none 0 0, .slice none 0 0] :=
 Blk.chg (h.box.alloc o) hc (fun e => absurd ((Own.hasT h.sets e).uniq h.box.hasT) (by decide))
theorem SimAt.app3 (h0 : RAt av base w rb vt0 vn ts0 ns d) (h : SimAt av base w W rb vn ts ns d B S D L a b r) (o : Obj) {x : List UInt8} (ho : Own wA 9 1 vA (S.length + 1) (S.map sv ++ [sv x]) 0) (hc : Chg (fun k => a.ownBlock = some k) (W.alloc o) wA) (hn : ∀ k, vA.ownBlock = some k → a.ownBlock = some k ∨ (W.alloc o).heap.size ≤ k) :
  SimAt av base w (wA.setCell ⟨B, 3, none⟩ vA) rb vn ts ns d B (S ++ [x]) D L vA b r := by
 have hbx := h.box3 o hc
 have h1 : TIs av base (W.alloc o) rb vn ts ns d := h.t.grown (only_alloc (only_refl W none) o)
 have hT9 : ∀ k, a.ownBlock = some k → HasT (W.alloc o) k 9 := fun k e => Own.hasT (Own.alloc h.sets o) e
 have hTB : HasT (W.alloc o) B 33 := (h.box.alloc o).hasT
 have hcc : Chg (fun k => a.ownBlock = some k ∨ k = B) (W.alloc o) (wA.setCell ⟨B, 3, none⟩ vA) := Chg.setCell (Chg.mono hc fun k _ e => .inl e) (p := ⟨B, 3, none⟩) (.inl (.inr rfl)) vA
 obtain ⟨ht, hg⟩ := TIs.other h0 h1 (only_alloc h.gr o) hcc (fun k e => by rcases e with e | rfl; exact h.na k e; exact h.hB) (fun k e hk => by
  rcases e with e | rfl
  ·exact absurd ((hT9 k e).uniq hk) (by decide)
  ·exact absurd (hTB.uniq hk) (by decide))
 have hother : Own (wA.setCell ⟨B, 3, none⟩ vA) 9 1 b D.length (D.map sv) 0 := (Own.alloc h.words o).chg hcc (fun g hgg e => by
  rcases e with e | rfl
  ·exact h.ab g (by first | exact hgg | exact e) (by first | exact e | exact hgg)
  ·exact absurd ((Own.hasT (Own.alloc h.words o) hgg).uniq hTB) (by decide))
 have hmine : Own (wA.setCell ⟨B, 3, none⟩ vA) 9 1 vA (S ++ [x]).length ((S ++ [x]).map sv) 0 := by
  rw [List.length_append, List.length_singleton, List.map_append]
  exact ho.far (p := ⟨B, 3, none⟩) (fun e => absurd ((Own.hasT ho e).uniq hbx.hasT) (by decide)) _
 have hrds : RdS (wA.setCell ⟨B, 3, none⟩ vA) r L := (Own.alloc h.rds o).chg hcc (fun g hgg e => by
  rcases e with e | rfl
  ·exact absurd ((Own.hasT (Own.alloc h.rds o) hgg).uniq (hT9 g e)) (by decide)
  ·exact absurd ((Own.hasT (Own.alloc h.rds o) hgg).uniq hTB) (by decide))
 refine ⟨ht, Blk.set_ hbx 3 _, h.hB, hmine, hother, hrds, ?_, ?_, h.nr, ?_, hg⟩
 ·exact fun k hk => by
    rcases hn k hk with e | e
    ·exact h.na k e
    ·rw [World.size_alloc] at e
     have := h.gr.size
     omega
 ·exact h.nb
 ·exact fun k hk hk2 => by
    rcases hn k hk with e | e
    ·exact h.ab k e hk2
    ·have := Own.lt h.words hk2
     rw [World.size_alloc] at e
     omega
theorem SimAt.box4 (h : SimAt av base w W rb vn ts ns d B S D L a b r) (o : Obj) (hc : Chg (fun k => b.ownBlock = some k) (W.alloc o) wA) : Blk wA B 33 #[.int .i64 1, .string ⟨#[]⟩, .bool false, a, b, r, .slice none 0 0, .slice none 0 0] :=
 Blk.chg (h.box.alloc o) hc (fun e => absurd ((Own.hasT h.words e).uniq h.box.hasT) (by decide))
theorem SimAt.app4 (h0 : RAt av base w rb vt0 vn ts0 ns d) (h : SimAt av base w W rb vn ts ns d B S D L a b r) (o : Obj) {x : List UInt8} (ho : Own wA 9 1 vA (D.length + 1) (D.map sv ++ [sv x]) 0) (hc : Chg (fun k => b.ownBlock = some k) (W.alloc o) wA) (hn : ∀ k, vA.ownBlock = some k → b.ownBlock = some k ∨ (W.alloc o).heap.size ≤ k) :
  SimAt av base w (wA.setCell ⟨B, 4, none⟩ vA) rb vn ts ns d B S (D ++ [x]) L a vA r := by
 have hbx := h.box4 o hc
 have h1 : TIs av base (W.alloc o) rb vn ts ns d := h.t.grown (only_alloc (only_refl W none) o)
 have hT9 : ∀ k, b.ownBlock = some k → HasT (W.alloc o) k 9 := fun k e => Own.hasT (Own.alloc h.words o) e
 have hTB : HasT (W.alloc o) B 33 := (h.box.alloc o).hasT
 have hcc : Chg (fun k => b.ownBlock = some k ∨ k = B) (W.alloc o) (wA.setCell ⟨B, 4, none⟩ vA) := Chg.setCell (Chg.mono hc fun k _ e => .inl e) (p := ⟨B, 4, none⟩) (.inl (.inr rfl)) vA
 obtain ⟨ht, hg⟩ := TIs.other h0 h1 (only_alloc h.gr o) hcc (fun k e => by rcases e with e | rfl; exact h.nb k e; exact h.hB) (fun k e hk => by
  rcases e with e | rfl
  ·exact absurd ((hT9 k e).uniq hk) (by decide)
  ·exact absurd (hTB.uniq hk) (by decide))
 have hother : Own (wA.setCell ⟨B, 4, none⟩ vA) 9 1 a S.length (S.map sv) 0 := (Own.alloc h.sets o).chg hcc (fun g hgg e => by
  rcases e with e | rfl
  ·exact h.ab g (by first | exact hgg | exact e) (by first | exact e | exact hgg)
  ·exact absurd ((Own.hasT (Own.alloc h.sets o) hgg).uniq hTB) (by decide))
 have hmine : Own (wA.setCell ⟨B, 4, none⟩ vA) 9 1 vA (D ++ [x]).length ((D ++ [x]).map sv) 0 := by
  rw [List.length_append, List.length_singleton, List.map_append]
  exact ho.far (p := ⟨B, 4, none⟩) (fun e => absurd ((Own.hasT ho e).uniq hbx.hasT) (by decide)) _
 have hrds : RdS (wA.setCell ⟨B, 4, none⟩ vA) r L := (Own.alloc h.rds o).chg hcc (fun g hgg e => by
  rcases e with e | rfl
  ·exact absurd ((Own.hasT (Own.alloc h.rds o) hgg).uniq (hT9 g e)) (by decide)
  ·exact absurd ((Own.hasT (Own.alloc h.rds o) hgg).uniq hTB) (by decide))
 refine ⟨ht, Blk.set_ hbx 4 _, h.hB, hother, hmine, hrds, ?_, ?_, h.nr, ?_, hg⟩
 ·exact h.na
 ·exact fun k hk => by
    rcases hn k hk with e | e
    ·exact h.nb k e
    ·rw [World.size_alloc] at e
     have := h.gr.size
     omega
 ·exact fun k hk hk2 => by
    rcases hn k hk2 with e | e
    ·exact h.ab k hk e
    ·have := Own.lt h.sets hk
     rw [World.size_alloc] at e
     omega
theorem SimAt.box5 (h : SimAt av base w W rb vn ts ns d B S D L a b r) (hc : Chg (fun k => r.ownBlock = some k) W wA) : Blk wA B 33 #[.int .i64 1, .string ⟨#[]⟩, .bool false, a, b, r, .slice none 0 0, .slice none 0 0] :=
 Blk.chg h.box hc (fun e => absurd ((Own.hasT h.rds e).uniq h.box.hasT) (by decide))
theorem SimAt.app5 (h0 : RAt av base w rb vt0 vn ts0 ns d) (h : SimAt av base w W rb vn ts ns d B S D L a b r) {l : List Rd} (ho : Own wA 44 3 vA (L.length + l.length) (L.flatMap Rd.cells ++ l.flatMap Rd.cells) 0) (hc : Chg (fun k => r.ownBlock = some k) W wA) (hn : ∀ k, vA.ownBlock = some k → r.ownBlock = some k ∨ W.heap.size ≤ k) :
  SimAt av base w (wA.setCell ⟨B, 5, none⟩ vA) rb vn ts ns d B S D (L ++ l) a b vA := by
 have hbx := h.box5 hc
 have hT9 : ∀ k, r.ownBlock = some k → HasT W k 44 := fun k e => Own.hasT h.rds e
 have hTB : HasT W B 33 := h.box.hasT
 have hcc : Chg (fun k => r.ownBlock = some k ∨ k = B) W (wA.setCell ⟨B, 5, none⟩ vA) := Chg.setCell (Chg.mono hc fun k _ e => .inl e) (p := ⟨B, 5, none⟩) (.inl (.inr rfl)) vA
 obtain ⟨ht, hg⟩ := TIs.other h0 h.t h.gr hcc (fun k e => by rcases e with e | rfl; exact h.nr k e; exact h.hB) (fun k e hk => by
  rcases e with e | rfl
  ·exact absurd ((hT9 k e).uniq hk) (by decide)
  ·exact absurd (hTB.uniq hk) (by decide))
 have hmine : RdS (wA.setCell ⟨B, 5, none⟩ vA) vA (L ++ l) := by
  unfold RdS
  rw [List.length_append, List.flatMap_append]
  exact ho.far (p := ⟨B, 5, none⟩) (fun e => absurd ((Own.hasT ho e).uniq hbx.hasT) (by decide)) _
 refine ⟨ht, Blk.set_ hbx 5 _, h.hB, Own.chg h.sets hcc (fun g hgg e => ?_), Own.chg h.words hcc (fun g hgg e => ?_), hmine, h.na, h.nb, fun k hk => ?_, h.ab, hg⟩
 ·rcases e with e | rfl
  ·exact absurd ((Own.hasT h.sets hgg).uniq (hT9 g e)) (by decide)
  ·exact absurd ((Own.hasT h.sets hgg).uniq hTB) (by decide)
 ·rcases e with e | rfl
  ·exact absurd ((Own.hasT h.words hgg).uniq (hT9 g e)) (by decide)
  ·exact absurd ((Own.hasT h.words hgg).uniq hTB) (by decide)
 ·rcases hn k hk with e | e
  ·exact h.nr k e
  ·have := h.gr.size
   omega
theorem SimAt.start (h : RAt av base w rb vt0 vn ts ns d) : SimAt av base w (w.alloc (.cells #[.int .i64 1, .string ⟨#[]⟩, .bool false, .slice none 0 0, .slice none 0 0, .slice none 0 0, .slice none 0 0, .slice none 0 0] 33)) rb vn ts ns d w.heap.size [] [] [] (.slice none 0 0) (.slice none 0 0) (.slice none 0 0) :=
 ⟨⟨vt0, h.grown (only_alloc (only_refl w none) _)⟩, Blk.new w 33 _, Nat.le_refl _, Own.nil _ _ _ _, Own.nil _ _ _ _, Own.nil _ _ _ _, fun k hk => (by cases hk), fun k hk => (by cases hk), fun k hk => (by cases hk), fun k hk => (by cases hk), only_alloc (only_refl w _) _⟩
theorem SimAt.node (h : SimAt av base w W rb vn ts ns d B S D L a b r) (hav : ∀ k, av k → k < w.heap.size) : NdAt av W a b r (.slice none 0 0) (.slice none 0 0) { kind := 1, sets := S, words := D, redirs := L } :=
 ⟨h.sets, h.words, h.rds, ⟨[], Own.nil _ _ _ _, fun b hb => (by cases hb), fun i hi => absurd hi (by simp)⟩, Own.nil _ _ _ _, fun k hk e => by have := h.na k hk; have := hav k e; omega, fun k hk e => by have := h.nb k hk; have := hav k e; omega, fun k hk e => by have := h.nr k hk; have := hav k e; omega, fun k hk => (by cases hk)⟩
end
def simN (S D : List (List UInt8)) (L : List Rd) : Nd := { kind := 1, sets := S, words := D, redirs := L }
def finS (n : Nd) (ts : List Tok) (ns : List Nd) : PR Int := if n.sets.length + n.words.length + n.redirs.length = 0 then wrongR ts else layR n ts ns
set_option maxHeartbeats 16000000 in
theorem sim_any (av : Nat → Prop) (base : Nat → Prop) (rb d : Nat) (ts : List Tok) (ns : List Nd) (w : World) (hav : ∀ k, av k → k < w.heap.size) (h : RIs av base w rb ts ns d) :
  Calls Try.prog 82 #[.pointer (some ⟨rb, 0, none⟩)] w (GPost vInt av base w rb d (simF ts ns)) := by
 obtain ⟨vt0, vn, h0⟩ := h
 have Hn := hide (fun W t r (hW : TIs av base W rb vn (t :: r) ns d) (hk : t.k ≠ 4) => (show Calls Try.prog 39 #[.pointer (some ⟨rb, 0, none⟩)] W (TPost vTok av base W rb vn d (.ok t r ns)) by obtain ⟨vt, hW⟩ := hW; exact next_any av base rb d vt vn t r ns W hW hk))
 have Hw := hide (fun W t r (hW : TIs av base W rb vn (t :: r) ns d) => (show Calls Try.prog 24 #[.pointer (some ⟨rb, 0, none⟩)] W fun e w' => e = .panicked [pfault t.a (if t.k = 4 then 23 else 17)] ∧ W.grownBy w' none by obtain ⟨vt, hW⟩ := hW; exact wrong_any av base rb d vt vn t r ns W hW))
 have Hr := hide (fun W T (hW : TIs av base W rb vn T ns d) => redirs_any av base rb d vn T ns W hW)
 have Hs := hide (fun s W => reserved_any s W)
 have Hm := hide (fun s W h => name_any s W h)
 have HL := hide (fun W ts n a b r p k h hn hf => lay_any av base rb d ts ns n a b r p k W h hn hf)
 unfold TPost vTok tokV sv at Hn
 unfold GPost vInt layR ndCells sv at HL
 unfold sv at Hs Hm
 have HRA := hide h0
 have HAV := hide hav
 have HFW := hide h0.few
 have HAT := hide (SimAt.start h0)
 show Calls Try.prog 82 #[.pointer (some ⟨rb, 0, none⟩)] w (GPost vInt av base w rb d ((simL (ts.length + 1) { kind := 1 } ts ns).bind finS))
 obtain ⟨R, hR⟩ : ∃ R, (simL (ts.length + 1) { kind := 1 } ts ns).bind finS = R := ⟨_, rfl⟩
 have HR := hide (show (simL (ts.length + 1) (simN [] [] []) ts ns).bind finS = R from hR)
 rw [hR]
 obtain ⟨B, hB⟩ : ∃ B, w.heap.size = B := ⟨_, rfl⟩
 rw [hB] at HAT
 clear hR h0 hav
 go_enter Try.func82, Try.ntmps82
 go_wp2_with fail
 go_step3
 go_wp2_with fail
 go_step3
 go_upto_block 0 with (fail)
 obtain ⟨W0, hW0⟩ : ∃ W0, w.alloc (.cells #[.int .i64 1, .string ⟨#[]⟩, .bool false, .slice none 0 0, .slice none 0 0, .slice none 0 0, .slice none 0 0, .slice none 0 0] 33) = W0 := ⟨_, rfl⟩
 rw [hW0] at HAT ⊢
 clear hW0 hB
 go_cut [] (fun wx => ∃ (S D : List (List UInt8)) (L : List Rd) (T : List Tok) (a b r : Value), R = finS (simN S D L) T ns ∧ S.length + D.length + L.length ≤ 100000 ∧ ns.length + 10 * T.length + (if S.length + D.length + L.length = 0 then 0 else 5) ≤ 100000 ∧ SimAt av base w wx rb vn T ns d B S D L a b r)
 case rest =>
  obtain ⟨S, D, L, T, a, b, r, hR, hl3, hfw, hA⟩ := hcut
  have HRX := hide hR
  have HA := hide hA
  have HF3 := hide hfw
  obtain ⟨t, rr, rfl⟩ := hA.t.good.ne
  obtain ⟨a1, a3, rfl, _, _⟩ := Own.form hA.sets
  obtain ⟨b1, b3, rfl, _, _⟩ := Own.form hA.words
  obtain ⟨r1, r3, rfl, _, _⟩ := Own.form hA.rds
  have lB := Blk.lt hA.box
  have x0 := Blk.cell hA.box 0
  have x1 := Blk.cell hA.box 1
  have x2 := Blk.cell hA.box 2
  have x3 := Blk.cell hA.box 3
  have x4 := Blk.cell hA.box 4
  have x5 := Blk.cell hA.box 5
  have x6 := Blk.cell hA.box 6
  have x7 := Blk.cell hA.box 7
  simp only [List.getElem?_toArray, List.getElem?_cons_zero, List.getElem?_cons_succ] at x0 x1 x2 x3 x4 x5 x6 x7
  have HFR := hide (HRA.out.fr_rb hA.gr)
  obtain ⟨q, hq⟩ : ∃ q, ((S.length : Int) + (D.length : Int) + (L.length : Int) == 0) = q := ⟨_, rfl⟩
  have hs1 : S.length ≤ 100000 := by omega
  have hs2 : D.length ≤ 100000 := by omega
  have hs3 : L.length ≤ 100000 := by omega
  clear hR hfw hA
  cases q with
  | true =>
   have HRY := hide (show R = wrongR (t :: rr) from HRX.out.trans (if_pos (by have := eq_of_beq hq; show S.length + D.length + L.length = 0; omega)))
   unfold wrongR at HRY
   go_wp2_with fail
   refine (Hw.out _ t rr HA.out.t).mono ?_
   rintro e wl ⟨rfl, g⟩
   refine post_panicP rfl ?_
   rw [HRY.out]
   exact (⟨rfl, HFR.out.trans (Fr.of_grown g)⟩ : _ ∧ _)
  | false =>
   have hne : ¬ (S.length + D.length + L.length = 0) := by
    intro e
    have h1 := beq_eq_false_iff_ne.1 hq
    exact h1 (by omega)
   have HRY := hide (show R = layR (simN S D L) (t :: rr) ns from HRX.out.trans (if_neg hne))
   have hf2 : ns.length + 1 + 10 * (t :: rr).length ≤ 100000 := by
    have := HF3.out
    rw [if_neg hne] at this
    omega
   have HLx := hide (HL.out wc (t :: rr) { kind := 1, sets := S, words := D, redirs := L } (.slice a1 S.length a3) (.slice b1 D.length b3) (.slice r1 L.length r3) (.slice none 0 0) (.slice none 0 0) (by obtain ⟨vt, hx⟩ := HA.out.t; exact ⟨vt, vn, hx⟩) (HA.out.node HAV.out) hf2)
   unfold layR at HRY
   clear hf2 hne
   go_wp2_with fail
   refine HLx.out.mono ?_
   rintro e wl ⟨v, rfl, rfl, hrl, hfl⟩
   have HIl := hide hrl
   have HFl := hide (HFR.out.trans hfl)
   clear hrl hfl
   go_wp2_with fail
   rw [HRY.out]
   go_ret
   exact ⟨_, rfl, rfl, HIl.out, HFl.out⟩
 go_wp2_with fail
 go_loopg [] ts.length (fun g wr => ∃ (f : Nat) (S D : List (List UInt8)) (L : List Rd) (T : List Tok) (a b r : Value), (simL f (simN S D L) T ns).bind finS = R ∧ T.length < f ∧ T.length ≤ g ∧ S.length + D.length + L.length + T.length ≤ ts.length ∧ SimAt av base w wr rb vn T ns d B S D L a b r)
 case atStart => exact ⟨_, [], [], [], ts, _, _, _, HR.out, Nat.lt_succ_self _, Nat.le_refl _, by simp, HAT.out⟩
 case round =>
  obtain ⟨f, S, D, L, T, a, b, r, hR, hf, hg, hln, hA⟩ := hrel
  have HRr := hide hR
  have HA := hide hA
  obtain ⟨a1, a3, rfl, _, _⟩ := Own.form hA.sets
  obtain ⟨b1, b3, rfl, _, _⟩ := Own.form hA.words
  obtain ⟨r1, r3, rfl, _, _⟩ := Own.form hA.rds
  obtain ⟨f, rfl⟩ : ∃ f', f = f' + 1 := ⟨f - 1, by omega⟩
  have hgd := hA.t.good
  have lB := Blk.lt hA.box
  have x5 : wr.cell? ⟨B, 5, none⟩ = some (.slice r1 L.length r3) := Blk.cell hA.box 5
  have HDR := hide (HA.out.grown HRA.out (only_drew (only_refl wr none)))
  have Hr1 := hide (Hr.out _ T HDR.out.t)
  obtain ⟨PQ, hpq⟩ : ∃ PQ, redirF T ns = PQ := ⟨_, rfl⟩
  rw [hpq] at Hr1
  have HPQ := hide hpq
  have HLN0 := hide (And.intro hf (And.intro hg hln))
  have HGD := hide hgd
  clear hR hA hpq hgd hf hg hln
  go_wp2_with fail
  go_cut [] (fun wx => ∃ (l : List Rd) (T1 : List Tok) (vr : Value), redirF T ns = .ok l T1 ns ∧ SimAt av base w wx rb vn T1 ns d B S D (L ++ l) (.slice a1 S.length a3) (.slice b1 D.length b3) vr)
  case first =>
   refine wp_region_permP [0, 1, 2] [3, 4, 5, 6] (by kernel_rfl) (by kernel_rfl) (fun W' => W'.cell? ⟨B, 5, none⟩ = some (.slice r1 L.length r3)) x5 (by intro c a w d v h; cases d <;> exact h) ?_
   simp only [pick, List.getElem?_cons_zero, List.getElem?_cons_succ]
   refine wpTake_cons ?_ (by rfl) ?_ ?_
   rotate_left
   ·(intro W9 hSW; go_simp; try with_reducible rfl)
   simp only [Act.put, List.setIfInBounds_toArray, List.set_cons_zero, List.set_cons_succ]
   refine wpTake_cons ?_ (by rfl) ?_ ?_
   rotate_left
   ·(intro W9 hSW; go_simp; try with_reducible rfl)
   simp only [Act.put, List.setIfInBounds_toArray, List.set_cons_zero, List.set_cons_succ]
   refine wpTake_cons ?_ (by rfl) ?_ ?_
   rotate_left
   ·(intro W9 hSW; go_simp; try with_reducible rfl)
   simp only [Act.put, List.setIfInBounds_toArray, List.set_cons_zero, List.set_cons_succ]
   refine wpTake_nil ?_
   refine wpForce_cons fun K1 hK1 => ?_
   cases PQ with
   | bad ea ek =>
    unfold TPost at Hr1
    refine step_callP (by rfl) (by simp [go_sem]) Hr1.out (fun w' h => by cases h.1) (fun v w' h => by cases h.1) ?_
    rintro c w' ⟨hc, hg⟩
    injection hc with hc
    subst hc
    refine post_panicP (P := Try.prog) (fn := Try.f82) rfl ?_
    have HR0 := hide (show R = .bad ea ek by rw [← HRr.out, simL, HPQ.out]; rfl)
    rw [HR0.out]
    exact (⟨rfl, HRA.out.fr_rb (rb_trans HDR.out.gr hg)⟩ : _ ∧ _)
   | ok l T1 ns1 =>
    obtain ⟨hg1, rfl, hl1⟩ := redirF_good HGD.out HPQ.out
    unfold TPost vRdsN at Hr1
    refine step_callP (by rfl) (by simp [go_sem]) Hr1.out (fun w' h => by obtain ⟨_, h, _⟩ := h; cases h) ?_ (fun c w' h => by obtain ⟨_, h, _⟩ := h; cases h)
    rintro v w1 ⟨v', hv, ⟨ho1, hn1⟩, ht1, g1⟩
    injection hv with hv
    subst hv
    have hA1 := SimAt.step HRA.out HDR.out g1 ht1
    obtain ⟨l1, l3, rfl, _, _⟩ := Own.form ho1
    refine hK1.out _ _ (Blk.cell hA1.box 5) ?_
    simp only [Act.put, List.setIfInBounds_toArray, List.set_cons_zero, List.set_cons_succ]
    refine wpForce_cons fun K2 hK2 => ?_
    refine step_appAt (by rfl) (.tmp 8) (.tmp 10) 29 29 (by rfl) 44 (.agg #[.int .i64 0, .string ⟨#[]⟩, .string ⟨#[]⟩]) 3 40 Try.underlying29 infoRd rfl (.slice r1 L.length r3) L.length (L.flatMap Rd.cells) 0 _ l.length (l.flatMap Rd.cells) (by rfl) (by rfl) hA1.rds (by omega) (srcRs ho1) (by have := HLN0.out; have := HFW.out; unfold maxLen; omega) (by have := HLN0.out; have := HFW.out; omega) ?_
    intro vA wA ho hc hn _
    obtain ⟨ra1, ra3, rfl, _, _⟩ := Own.form ho
    have hbx := hA1.box5 hc
    have lBA := Blk.lt hbx
    have zB := Blk.frozen hbx 5
    have xBA : wA.cell? ⟨B, 5, none⟩ = some (.slice r1 L.length r3) := Blk.cell hbx 5
    have HA2 := hide (SimAt.app5 HRA.out hA1 ho hc hn)
    have HHD := hide HPQ.out
    refine hK2.out _ _ (Blk.cell hbx 5) ?_
    simp only [Act.put, List.setIfInBounds_toArray, List.set_cons_zero, List.set_cons_succ]
    refine wpForce_cons fun K4 hK4 => ?_
    refine step_val (.pointer (some ⟨B, 5, none⟩)) wA (by rfl) (by go_simp) ?_
    refine hK4.out _ _ (Blk.cell hbx 5) ?_
    simp only [Act.put, List.setIfInBounds_toArray, List.set_cons_zero, List.set_cons_succ]
    refine wpForce_one ?_
    clear hA1 ho hc hn ho1 hn1 ht1 g1 hbx hK1 hK2 hK4 K1 K2 K4 hg1 hl1 lB x5
    go_wp2_with fail
    go_meet
    case rel => exact ⟨l, T1, _, HHD.out, HA2.out⟩
  case rest =>
   obtain ⟨l, T1, vr, hpq, hA2⟩ := hcut
   obtain ⟨hgd1, _, hl1⟩ := redirF_good HGD.out hpq
   have HPQ2 := hide hpq
   have HA2 := hide hA2
   obtain ⟨t, rr, rfl⟩ := hgd1.ne
   have HLN := hide (show S.length + D.length + (L ++ l).length + (t :: rr).length ≤ ts.length ∧ (t :: rr).length ≤ T.length ∧ T.length < f + 1 ∧ T.length ≤ gk by have := HLN0.out; rw [List.length_append]; omega)
   obtain ⟨r1, r3, rfl, _, _⟩ := Own.form hA2.rds
   clear hl1 hpq hgd1 x5 lB
   obtain ⟨vt, ht⟩ := HA2.out.t
   obtain ⟨t', rr', g, off, cap, he, rfl, hc, hg, c0, c1, c2⟩ := ht.head
   injection he with he1 he2
   subst he1 he2
   obtain ⟨d0, d1, d2⟩ := ht.cells
   have lb := Blk.lt ht.blk
   have htx := (ht.txt t (List.mem_cons_self ..)).1
   have hib : (0 : Int) < (((t :: rr).length : Nat) : Int) := by simp only [List.length_cons]; omega
   have HRS := hide (show R = ((if t.k ≠ 1 then .ok (simN S D (L ++ l)) (t :: rr) ns else if 0 < D.length then simL f (simN S (D ++ [t.t]) (L ++ l)) rr ns else if setB t.t = true then simL f (simN (S ++ [t.t]) D (L ++ l)) rr ns else if (t.t != wIn && resB t.t) = true then .ok (simN S D (L ++ l)) (t :: rr) ns else simL f (simN S (D ++ [t.t]) (L ++ l)) rr ns : PR Nd)).bind finS by rw [← HRr.out, simL, HPQ2.out, PR.bind_ok]; rfl)
   have HEND := hide (show (simN S D (L ++ l)).sets.length + (simN S D (L ++ l)).words.length + (simN S D (L ++ l)).redirs.length ≤ 100000 ∧ ns.length + 10 * (t :: rr).length + (if S.length + D.length + (L ++ l).length = 0 then 0 else 5) ≤ 100000 by
    have h1 := HLN.out
    have h2 := HFW.out
    refine ⟨by show S.length + D.length + (L ++ l).length ≤ 100000; omega, ?_⟩
    split <;> omega)
   obtain ⟨Lg, hLg⟩ : ∃ Lg, (t :: rr).length = Lg := ⟨_, rfl⟩
   rw [hLg] at d0 hib hc
   clear ht hLg
   obtain ⟨tk, tt, ta⟩ := t
   simp only [] at c0 c1 c2 htx
   have HMt := hide (Hm.out tt (wc.alloc (.cells #[.int .i64 tk, .string ⟨tt.toArray⟩, .int .i64 ta] 41)) (by omega))
   have HA3 := hide (HA2.out.grown HRA.out (only_alloc (only_refl wc none) (.cells #[.int .i64 tk, .string ⟨tt.toArray⟩, .int .i64 ta] 41)))
   clear htx
   go_wp2_with fail
   refine HMt.out.mono ?_
   rintro e w' ⟨rfl, rfl⟩
   obtain ⟨KN, hKN⟩ : ∃ KN, nmGo true tt = KN := ⟨_, rfl⟩
   have HKN := hide hKN
   simp only [hKN]
   have hs9 : S.length + D.length + (L ++ l).length ≤ 100000 := HEND.out.1
   have hw4 : (wc.alloc (.cells #[.int .i64 tk, .string ⟨tt.toArray⟩, .int .i64 ta] 41)).cell? ⟨B, 4, none⟩ = some (.slice b1 D.length b3) := Blk.cell HA3.out.box 4
   have hw3 : (wc.alloc (.cells #[.int .i64 tk, .string ⟨tt.toArray⟩, .int .i64 ta] 41)).cell? ⟨B, 3, none⟩ = some (.slice a1 S.length a3) := Blk.cell HA3.out.box 3
   have hbt := Blk.new wc 41 #[.int .i64 tk, .string ⟨tt.toArray⟩, .int .i64 ta]
   have y0 : (wc.alloc (.cells #[.int .i64 tk, .string ⟨tt.toArray⟩, .int .i64 ta] 41)).cell? ⟨wc.heap.size, 0, none⟩ = some (.int .i64 tk) := Blk.cell hbt 0
   have y1 : (wc.alloc (.cells #[.int .i64 tk, .string ⟨tt.toArray⟩, .int .i64 ta] 41)).cell? ⟨wc.heap.size, 1, none⟩ = some (.string ⟨tt.toArray⟩) := Blk.cell hbt 1
   have lB := Blk.lt HA3.out.box
   have lT := Blk.lt hbt
   clear hKN d0 d1 d2 lb hib hc hg c0 c1 c2 hbt
   obtain ⟨W3, hW3⟩ : ∃ W3, wc.alloc (.cells #[.int .i64 tk, .string ⟨tt.toArray⟩, .int .i64 ta] 41) = W3 := ⟨_, rfl⟩
   obtain ⟨bt, hbT⟩ : ∃ bt, wc.heap.size = bt := ⟨_, rfl⟩
   rw [hW3] at hw4 hw3 y0 y1 lB lT HA3 ⊢
   rw [hbT] at y0 y1 lT ⊢
   clear hW3 hbT
   obtain ⟨DL, hDL⟩ : ∃ DL, D.length = DL := ⟨_, rfl⟩
   have HDL := hide hDL
   rw [hDL] at hw4 HA3
   clear hDL
   by_cases k1 : tk = 1
   ·subst k1
    by_cases hD : 0 < DL
    ·have qD : decide ((0 : Int) < (DL : Int)) = true := decide_eq_true (by omega)
     have HRX := hide (show (simL f (simN S (D ++ [tt]) (L ++ l)) rr ns).bind finS = R from (HRS.out.trans (by rw [if_neg (by simp), if_pos (by have := HDL.out; omega)])).symm)
     have qD2 : decide (0 < DL) = true := decide_eq_true hD
     clear hw3
     go_wp2_with (at_builtin; go_loud (refine wpList_appAt 9 (.string ⟨#[]⟩) 1 16 Try.underlying28 infoStr rfl (.slice b1 DL b3) D.length (D.map sv) 0 _ 1 [sv tt] rfl rfl (Own.alloc HA3.out.words _) (by omega) (srcS _ _ tt rfl) (by unfold maxLen; omega) (by omega) ?_); intro vA wA ho hc hn2 _; (have hbx := HA3.out.box4 _ hc); (have zB := Blk.frozen hbx 4); (have lB := Blk.lt hbx); (have xB : wA.cell? ⟨B, 4, none⟩ = some (.slice b1 DL b3) := Blk.cell hbx 4); obtain ⟨fa, ca, hv, _, _⟩ := Own.form ho; go_must (replace hv : vA = .slice fa (DL + 1) ca := by (first | exact hv | (rw [HDL.out] at hv; exact hv))); subst hv; (have HA4 := hide (SimAt.app4 HRA.out HA3.out _ ho hc hn2)); clear ho hc hn2)
     refine (Hn.out _ ⟨1, tt, ta⟩ rr HA4.out.t (by simp)).mono ?_
     rintro e w5 ⟨v, rfl, rfl, ht5, g5⟩
     have HA5 := hide (SimAt.step HRA.out HA4.out g5 ht5)
     clear ht5 g5
     go_wp2_with fail
     go_roundg (gk - 1)
     case rel => exact ⟨f, _, _, _, rr, _, _, _, HRX.out, by have := HLN.out; simp only [List.length_cons] at this; omega, by have := HLN.out; simp only [List.length_cons] at this; omega, by have := HLN.out; simp only [List.length_cons, List.length_append] at this; simp only [List.length_append, List.length_singleton]; omega, HA5.out⟩
     case measure => have := HLN.out; simp only [List.length_cons] at this; omega
    ·obtain rfl : D = [] := List.eq_nil_of_length_eq_zero (by have := HDL.out; omega)
     obtain rfl : DL = 0 := by rw [← HDL.out]; rfl
     have hstop : setB tt = (decide (0 < KN) && decide (KN < tt.length) && (tt.getD KN 0 == 61)) := by rw [← HKN.out]; rfl
     have HST := hide hstop
     have HRS2 := hide (show R = ((if setB tt = true then simL f (simN (S ++ [tt]) [] (L ++ l)) rr ns else if (tt != wIn && resB tt) = true then .ok (simN S [] (L ++ l)) (⟨1, tt, ta⟩ :: rr) ns else simL f (simN S ([] ++ [tt]) (L ++ l)) rr ns : PR Nd)).bind finS from HRS.out.trans (by rw [if_neg (by simp), if_neg (by simp)]))
     clear hstop hD
     go_upto_region 9 with (fail)
     go_cut [45] (fun v45 wx => v45 = .bool (setB tt) ∧ wx = W3)
     case first =>
      have hsz := sz tt
      by_cases hk0 : 0 < KN
      ·have p0 : decide ((0 : Int) < (KN : Int)) = true := decide_eq_true (by omega)
       by_cases hk1 : KN < tt.length
       ·have p1 : decide ((KN : Int) < (tt.length : Int)) = true := decide_eq_true (by omega)
        have hat := str_at' tt KN hk1
        have hibk : (0 : Int) ≤ KN ∧ (KN : Int) < (tt.length : Int) := by omega
        have HV := hide (show setB tt = (tt[KN] == 61) by rw [HST.out, decide_eq_true hk0, decide_eq_true hk1, getD_at hk1]; rfl)
        obtain ⟨c, hcc⟩ : ∃ c, tt[KN] = c := ⟨_, rfl⟩
        rw [hcc] at hat HV
        clear hcc
        by_cases h61 : c = 61
        ·subst h61
         go_wp2_with fail
         go_meet
         exact ⟨by rw [HV.out]; rfl, rfl⟩
        ·have h61' : ((c.toNat : Int) == 61) = false := byte_ne (d := 61) h61
         go_wp2_with fail
         go_meet
         exact ⟨by rw [HV.out, beq_eq_false_iff_ne.2 h61], rfl⟩
       ·have p1 : decide ((KN : Int) < (tt.length : Int)) = false := decide_eq_false (by omega)
        have HV := hide (show setB tt = false by rw [HST.out, decide_eq_false hk1]; simp)
        go_wp2_with fail
        go_meet
        exact ⟨by rw [HV.out], rfl⟩
      ·have p0 : decide ((0 : Int) < (KN : Int)) = false := decide_eq_false (by omega)
       have HV := hide (show setB tt = false by rw [HST.out, decide_eq_false hk0]; simp)
       go_wp2_with fail
       go_meet
       exact ⟨by rw [HV.out], rfl⟩
     case rest =>
      obtain ⟨rfl, rfl⟩ := hcut
      obtain ⟨sb, hsb⟩ : ∃ sb, setB tt = sb := ⟨_, rfl⟩
      rw [hsb] at HRS2
      simp only [hsb]
      clear hsb
      cases sb with
      | true =>
       have HRX := hide (show (simL f (simN (S ++ [tt]) [] (L ++ l)) rr ns).bind finS = R from HRS2.out.symm)
       go_wp2_with (at_builtin; go_loud (refine wpList_appAt 9 (.string ⟨#[]⟩) 1 16 Try.underlying28 infoStr rfl (.slice a1 S.length a3) S.length (S.map sv) 0 _ 1 [sv tt] rfl rfl (Own.alloc HA3.out.sets _) (by omega) (srcS _ _ tt rfl) (by unfold maxLen; omega) (by omega) ?_); intro vA wA ho hc hn2 _; (have hbx := HA3.out.box3 _ hc); (have zB := Blk.frozen hbx 3); (have lB := Blk.lt hbx); (have xB : wA.cell? ⟨B, 3, none⟩ = some (.slice a1 S.length a3) := Blk.cell hbx 3); obtain ⟨fa, ca, hv, _, _⟩ := Own.form ho; go_must (replace hv : vA = .slice fa (S.length + 1) ca := by (first | exact hv | (rw [HDL.out] at hv; exact hv))); subst hv; (have HA4 := hide (SimAt.app3 HRA.out HA3.out _ ho hc hn2)); clear ho hc hn2)
       refine (Hn.out _ ⟨1, tt, ta⟩ rr HA4.out.t (by simp)).mono ?_
       rintro e w5 ⟨v, rfl, rfl, ht5, g5⟩
       have HA5 := hide (SimAt.step HRA.out HA4.out g5 ht5)
       clear ht5 g5
       go_wp2_with fail
       go_roundg (gk - 1)
       case rel => exact ⟨f, _, _, _, rr, _, _, _, HRX.out, by have := HLN.out; simp only [List.length_cons] at this; omega, by have := HLN.out; simp only [List.length_cons] at this; omega, by have := HLN.out; simp only [List.length_cons, List.length_append] at this; simp only [List.length_append, List.length_singleton]; omega, HA5.out⟩
       case measure => have := HLN.out; simp only [List.length_cons] at this; omega
      | false =>
       have HRS3 := hide (show R = ((if (tt != wIn && resB tt) = true then .ok (simN S [] (L ++ l)) (⟨1, tt, ta⟩ :: rr) ns else simL f (simN S ([] ++ [tt]) (L ++ l)) rr ns : PR Nd)).bind finS from HRS2.out)
       by_cases hin : tt = wIn
       ·have HRX := hide (show (simL f (simN S ([] ++ [tt]) (L ++ l)) rr ns).bind finS = R from (HRS3.out.trans (by rw [if_neg (by rw [hin]; decide)])).symm)
        obtain rfl : tt = [105, 110] := hin
        go_wp2_with (at_builtin; go_loud (refine wpList_appAt 9 (.string ⟨#[]⟩) 1 16 Try.underlying28 infoStr rfl (.slice b1 0 b3) ([] : List (List UInt8)).length (([] : List (List UInt8)).map sv) 0 _ 1 [sv [105, 110]] rfl rfl (Own.alloc HA3.out.words _) (by omega) (srcS _ _ [105, 110] rfl) (by unfold maxLen; omega) (by omega) ?_); intro vA wA ho hc hn2 _; (have hbx := HA3.out.box4 _ hc); (have zB := Blk.frozen hbx 4); (have lB := Blk.lt hbx); (have xB : wA.cell? ⟨B, 4, none⟩ = some (.slice b1 0 b3) := Blk.cell hbx 4); obtain ⟨fa, ca, hv, _, _⟩ := Own.form ho; go_must (replace hv : vA = .slice fa (1) ca := by (first | exact hv | (rw [HDL.out] at hv; exact hv))); subst hv; (have HA4 := hide (SimAt.app4 HRA.out HA3.out _ ho hc hn2)); clear ho hc hn2)
        refine (Hn.out _ ⟨1, [105, 110], ta⟩ rr HA4.out.t (by simp)).mono ?_
        rintro e w5 ⟨v, rfl, rfl, ht5, g5⟩
        have HA5 := hide (SimAt.step HRA.out HA4.out g5 ht5)
        clear ht5 g5
        go_wp2_with fail
        go_roundg (gk - 1)
        case rel => exact ⟨f, _, _, _, rr, _, _, _, HRX.out, by have := HLN.out; simp only [List.length_cons] at this; omega, by have := HLN.out; simp only [List.length_cons] at this; omega, by have := HLN.out; simp only [List.length_cons, List.length_append] at this; simp only [List.length_append, List.length_singleton]; omega, HA5.out⟩
        case measure => have := HLN.out; simp only [List.length_cons] at this; omega
       ·have hne : (tt != [105, 110]) = true := by rw [bne_iff_ne]; exact hin
        have hne2 : (tt == [105, 110]) = false := by rw [beq_eq_false_iff_ne]; exact hin
        have HRS4 := hide (show R = ((if resB tt = true then .ok (simN S [] (L ++ l)) (⟨1, tt, ta⟩ :: rr) ns else simL f (simN S ([] ++ [tt]) (L ++ l)) rr ns : PR Nd)).bind finS from HRS3.out.trans (by rw [show (tt != wIn) = true from hne, Bool.true_and]))
        have Hst := hide (Hs.out tt wc)
        obtain ⟨rv, hrv⟩ : ∃ rv, resB tt = rv := ⟨_, rfl⟩
        rw [hrv] at HRS4 Hst
        clear hrv
        go_wp2_with fail
        refine Hst.out.mono ?_
        rintro e w9 ⟨rfl, g9⟩
        have hA9 := HA3.out.grown HRA.out g9
        have hw4' : w9.cell? ⟨B, 4, none⟩ = some (.slice b1 0 b3) := Blk.cell hA9.box 4
        have y1' : w9.cell? ⟨bt, 1, none⟩ = some (.string ⟨tt.toArray⟩) := old_cell g9 lT y1
        have lB' := Blk.lt hA9.box
        have lT' := Nat.lt_of_lt_of_le lT g9.size
        clear HA3
        have HA3 := hide hA9
        clear hA9 hw4 y1 y0 lB lT g9
        cases rv with
        | true =>
         have HRX := hide (show R = finS (simN S [] (L ++ l)) (⟨1, tt, ta⟩ :: rr) ns from HRS4.out)
         go_wp2_with fail
         go_meet
         case rel => exact ⟨S, [], L ++ l, _, _, _, _, HRX.out, HEND.out.1, HEND.out.2, HA3.out⟩
        | false =>
         have HRX := hide (show (simL f (simN S ([] ++ [tt]) (L ++ l)) rr ns).bind finS = R from HRS4.out.symm)
         go_wp2_with (at_builtin; go_loud (refine wpList_appAt 9 (.string ⟨#[]⟩) 1 16 Try.underlying28 infoStr rfl (.slice b1 0 b3) ([] : List (List UInt8)).length (([] : List (List UInt8)).map sv) 0 _ 1 [sv tt] rfl rfl (Own.alloc HA3.out.words _) (by omega) (srcS _ _ tt rfl) (by unfold maxLen; omega) (by omega) ?_); intro vA wA ho hc hn2 _; (have hbx := HA3.out.box4 _ hc); (have zB := Blk.frozen hbx 4); (have lB := Blk.lt hbx); (have xB : wA.cell? ⟨B, 4, none⟩ = some (.slice b1 0 b3) := Blk.cell hbx 4); obtain ⟨fa, ca, hv, _, _⟩ := Own.form ho; go_must (replace hv : vA = .slice fa (1) ca := by (first | exact hv | (rw [HDL.out] at hv; exact hv))); subst hv; (have HA4 := hide (SimAt.app4 HRA.out HA3.out _ ho hc hn2)); clear ho hc hn2)
         refine (Hn.out _ ⟨1, tt, ta⟩ rr HA4.out.t (by simp)).mono ?_
         rintro e w5 ⟨v, rfl, rfl, ht5, g5⟩
         have HA5 := hide (SimAt.step HRA.out HA4.out g5 ht5)
         clear ht5 g5
         go_wp2_with fail
         go_roundg (gk - 1)
         case rel => exact ⟨f, _, _, _, rr, _, _, _, HRX.out, by have := HLN.out; simp only [List.length_cons] at this; omega, by have := HLN.out; simp only [List.length_cons] at this; omega, by have := HLN.out; simp only [List.length_cons, List.length_append] at this; simp only [List.length_append, List.length_singleton]; omega, HA5.out⟩
         case measure => have := HLN.out; simp only [List.length_cons] at this; omega
   ·have q1 : ((tk : Int) != 1) = true := by rw [bne_iff_ne]; omega
    have HRX := hide (show R = finS (simN S D (L ++ l)) (⟨tk, tt, ta⟩ :: rr) ns from HRS.out.trans (by rw [if_pos k1]; rfl))
    go_wp2_with fail
    go_meet
    case rel => exact ⟨S, D, L ++ l, _, _, _, _, HRX.out, HEND.out.1, HEND.out.2, HA3.out⟩
end Go.Proofs.Ytgpfjcogaheopaa
