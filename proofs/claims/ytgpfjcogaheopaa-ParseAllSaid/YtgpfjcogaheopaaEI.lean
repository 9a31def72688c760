/- The document's simple command. -/
import Derived.Test.YtgpfjcogaheopaaEH
import Derived.Test.YtgpfjcogaheopaaMG
import Derived.Test.YtgpfjcogaheopaaPM
import Derived.Test.YtgpfjcogaheopaaPermP
import Derived.Deep.LoopGhost
import Derived.Deep.CutBlock
import Derived.Deep.DeepCutAuto
set_option linter.all false
namespace Go.Proofs.Ytgpfjcogaheopaa
open Go.RowKit Lx
set_option maxRecDepth 100000
/-- A call that answers nodes: those that the plain reader lays. -/
def NPost (val : World → List Nd → Value → Prop) (bad : World → Value → Prop) (rb : Nat) (T : List Tok) (d : Nat) (w : World) : PR Int → Ending → World → Prop
 | .ok _ ts ns, e, w' => ∃ v, e = .returned v ∧ val w' ns v ∧ DIs w' rb T (.ok ts d) ∧ w.grownBy w' (some rb)
 | .bad a k, e, w' => ∃ v, e = .returned v ∧ bad w' v ∧ DIs w' rb T (.er a k) ∧ w.grownBy w' (some rb)
/-- Nodes that stand in a block newer than w0. -/
def vNd (w0 : World) : World → List Nd → Value → Prop := fun w' ns v => NdS (low w0) w' v ns ∧ KB ns ∧ ns.length ≤ 50000 ∧ ∀ g, v.ownBlock = some g → w0.heap.size ≤ g
def bSl : World → Value → Prop := fun _ v => ∃ a n c, v = .slice a n c
/-- A node under way that has sets, words, redirections. -/
structure SmD (w W : World) (rb : Nat) (T : List Tok) (st : DS) (B : Nat) (S D : List (List UInt8)) (L : List Rd) (a b r : Value) : Prop where
 st : DIs W rb T st
 box : Blk W B 33 #[.int .i64 1, .string ⟨#[]⟩, .bool false, a, b, r, .slice none 0 0, .slice none 0 0]
 hB : w.heap.size ≤ B
 sets : StrS W a S
 words : StrS W b D
 rds : RdS W r L
 na : ∀ k, a.ownBlock = some k → w.heap.size ≤ k
 nb : ∀ k, b.ownBlock = some k → w.heap.size ≤ k
 nr : ∀ k, r.ownBlock = some k → w.heap.size ≤ k
 ab : ∀ k, a.ownBlock = some k → b.ownBlock = some k → False
 gr : w.grownBy W (some rb)
 rbl : rb < w.heap.size
section
variable {w W W' wA : World} {rb B : Nat} {T : List Tok} {st st' : DS} {S D : List (List UInt8)} {L : List Rd} {a b r vA : Value}
theorem SmD.step (h : SmD w W rb T st B S D L a b r) (hg : W.grownBy W' (some rb)) (ht : DIs W' rb T st') : SmD w W' rb T st' B S D L a b r := by
 have hT := h.st.hasT
 exact ⟨ht, Blk.grown h.box hg (fun e => by injection e with e; have := h.hB; have := h.rbl; omega), h.hB, own_rb hg hT h.sets (by decide), own_rb hg hT h.words (by decide), own_rb hg hT h.rds (by decide), h.na, h.nb, h.nr, h.ab, only_trans h.gr hg, h.rbl⟩
theorem SmD.grown (h : SmD w W rb T st B S D L a b r) (hg : W.grownBy W' none) : SmD w W' rb T st B S D L a b r := h.step (gr_rb hg) (h.st.grown hg)
theorem SmD.box3 (h : SmD w W rb T st B S D L a b r) (o : Obj) (hc : Chg (fun k => a.ownBlock = some k) (W.alloc o) wA) : Blk wA B 33 #[.int .i64 1, .string ⟨#[]⟩, .bool false, a, b, r, .slice none 0 0, .slice none 0 0] :=
 Blk.chg (h.box.alloc o) hc (fun e => absurd ((Own.hasT h.sets e).uniq h.box.hasT) (by decide))
theorem SmD.app3 (h : SmD w W rb T st B S D L a b r) (o : Obj) {x : List UInt8} (ho : Own wA 9 1 vA (S.length + 1) (S.map sv ++ [sv x]) 0) (hc : Chg (fun k => a.ownBlock = some k) (W.alloc o) wA) (hn : ∀ k, vA.ownBlock = some k → a.ownBlock = some k ∨ (W.alloc o).heap.size ≤ k) :
  SmD w (wA.setCell ⟨B, 3, none⟩ vA) rb T st B (S ++ [x]) D L vA b r := by
 have hbx := h.box3 o hc
 have hT9 : ∀ k, a.ownBlock = some k → HasT (W.alloc o) k 9 := fun k e => Own.hasT (Own.alloc h.sets o) e
 have hTB : HasT (W.alloc o) B 33 := (h.box.alloc o).hasT
 have hcc : Chg (fun k => a.ownBlock = some k ∨ k = B) (W.alloc o) (wA.setCell ⟨B, 3, none⟩ vA) := Chg.setCell (Chg.mono hc fun k _ e => .inl e) (p := ⟨B, 3, none⟩) (.inl (.inr rfl)) vA
 have hlow : ∀ k, (a.ownBlock = some k ∨ k = B) → w.heap.size ≤ k := fun k e => by
  rcases e with e | rfl
  ·exact h.na k e
  ·exact h.hB
 have ht : DIs (wA.setCell ⟨B, 3, none⟩ vA) rb T st := (h.st.grown (only_alloc (only_refl W none) o)).chg hcc fun k e => by have := hlow k e; have := h.rbl; omega
 have hg : w.grownBy (wA.setCell ⟨B, 3, none⟩ vA) (some rb) := gr_app h.gr o hcc hlow
 have hother : Own (wA.setCell ⟨B, 3, none⟩ vA) 9 1 b D.length (D.map sv) 0 := (Own.alloc h.words o).chg hcc (fun g hgg e => by
  rcases e with e | rfl
  ·exact h.ab g (by first | exact hgg | exact e) (by first | exact e | exact hgg)
  ·exact absurd ((Own.hasT (Own.alloc h.words o) hgg).uniq hTB) (by decide))
 have hmine : Own (wA.setCell ⟨B, 3, none⟩ vA) 9 1 vA (S ++ [x]).length ((S ++ [x]).map sv) 0 := by
  rw [List.length_append, List.length_singleton, List.map_append]
  exact ho.far (p := ⟨B, 3, none⟩) (fun e => absurd ((Own.hasT ho e).uniq hbx.hasT) (by decide)) _
 have hrds : RdS (wA.setCell ⟨B, 3, none⟩ vA) r L := (Own.alloc h.rds o).chg hcc (fun g hgg e => by
  rcases e with e | rfl
  ·exact absurd ((Own.hasT (Own.alloc h.rds o) hgg).uniq (hT9 g e)) (by decide)
  ·exact absurd ((Own.hasT (Own.alloc h.rds o) hgg).uniq hTB) (by decide))
 refine ⟨ht, Blk.set_ hbx 3 _, h.hB, hmine, hother, hrds, ?_, ?_, h.nr, ?_, hg, h.rbl⟩
 ·exact fun k hk => by
    rcases hn k hk with e | e
    ·exact h.na k e
    ·rw [World.size_alloc] at e
     have := h.gr.size
     omega
 ·exact h.nb
 ·exact fun k hk hk2 => by
    rcases hn k hk with e | e
    ·exact h.ab k e hk2
    ·have := Own.lt h.words hk2
     rw [World.size_alloc] at e
     omega
theorem SmD.box4 (h : SmD w W rb T st B S D L a b r) (o : Obj) (hc : Chg (fun k => b.ownBlock = some k) (W.alloc o) wA) : Blk wA B 33 #[.int .i64 1, .string ⟨#[]⟩, .bool false, a, b, r, .slice none 0 0, .slice none 0 0] :=
 Blk.chg (h.box.alloc o) hc (fun e => absurd ((Own.hasT h.words e).uniq h.box.hasT) (by decide))
theorem SmD.app4 (h : SmD w W rb T st B S D L a b r) (o : Obj) {x : List UInt8} (ho : Own wA 9 1 vA (D.length + 1) (D.map sv ++ [sv x]) 0) (hc : Chg (fun k => b.ownBlock = some k) (W.alloc o) wA) (hn : ∀ k, vA.ownBlock = some k → b.ownBlock = some k ∨ (W.alloc o).heap.size ≤ k) :
  SmD w (wA.setCell ⟨B, 4, none⟩ vA) rb T st B S (D ++ [x]) L a vA r := by
 have hbx := h.box4 o hc
 have hT9 : ∀ k, b.ownBlock = some k → HasT (W.alloc o) k 9 := fun k e => Own.hasT (Own.alloc h.words o) e
 have hTB : HasT (W.alloc o) B 33 := (h.box.alloc o).hasT
 have hcc : Chg (fun k => b.ownBlock = some k ∨ k = B) (W.alloc o) (wA.setCell ⟨B, 4, none⟩ vA) := Chg.setCell (Chg.mono hc fun k _ e => .inl e) (p := ⟨B, 4, none⟩) (.inl (.inr rfl)) vA
 have hlow : ∀ k, (b.ownBlock = some k ∨ k = B) → w.heap.size ≤ k := fun k e => by
  rcases e with e | rfl
  ·exact h.nb k e
  ·exact h.hB
 have ht : DIs (wA.setCell ⟨B, 4, none⟩ vA) rb T st := (h.st.grown (only_alloc (only_refl W none) o)).chg hcc fun k e => by have := hlow k e; have := h.rbl; omega
 have hg : w.grownBy (wA.setCell ⟨B, 4, none⟩ vA) (some rb) := gr_app h.gr o hcc hlow
 have hother : Own (wA.setCell ⟨B, 4, none⟩ vA) 9 1 a S.length (S.map sv) 0 := (Own.alloc h.sets o).chg hcc (fun g hgg e => by
  rcases e with e | rfl
  ·exact h.ab g (by first | exact hgg | exact e) (by first | exact e | exact hgg)
  ·exact absurd ((Own.hasT (Own.alloc h.sets o) hgg).uniq hTB) (by decide))
 have hmine : Own (wA.setCell ⟨B, 4, none⟩ vA) 9 1 vA (D ++ [x]).length ((D ++ [x]).map sv) 0 := by
  rw [List.length_append, List.length_singleton, List.map_append]
  exact ho.far (p := ⟨B, 4, none⟩) (fun e => absurd ((Own.hasT ho e).uniq hbx.hasT) (by decide)) _
 have hrds : RdS (wA.setCell ⟨B, 4, none⟩ vA) r L := (Own.alloc h.rds o).chg hcc (fun g hgg e => by
  rcases e with e | rfl
  ·exact absurd ((Own.hasT (Own.alloc h.rds o) hgg).uniq (hT9 g e)) (by decide)
  ·exact absurd ((Own.hasT (Own.alloc h.rds o) hgg).uniq hTB) (by decide))
 refine ⟨ht, Blk.set_ hbx 4 _, h.hB, hother, hmine, hrds, ?_, ?_, h.nr, ?_, hg, h.rbl⟩
 ·exact h.na
 ·exact fun k hk => by
    rcases hn k hk with e | e
    ·exact h.nb k e
    ·rw [World.size_alloc] at e
     have := h.gr.size
     omega
 ·exact fun k hk hk2 => by
    rcases hn k hk2 with e | e
    ·exact h.ab k hk e
    ·have := Own.lt h.sets hk
     rw [World.size_alloc] at e
     omega
theorem SmD.box5 (h : SmD w W rb T st B S D L a b r) (hc : Chg (fun k => r.ownBlock = some k) W wA) : Blk wA B 33 #[.int .i64 1, .string ⟨#[]⟩, .bool false, a, b, r, .slice none 0 0, .slice none 0 0] :=
 Blk.chg h.box hc (fun e => absurd ((Own.hasT h.rds e).uniq h.box.hasT) (by decide))
theorem SmD.app5 (h : SmD w W rb T st B S D L a b r) {l : List Rd} (ho : Own wA 44 3 vA (L.length + l.length) (L.flatMap Rd.cells ++ l.flatMap Rd.cells) 0) (hc : Chg (fun k => r.ownBlock = some k) W wA) (hn : ∀ k, vA.ownBlock = some k → r.ownBlock = some k ∨ W.heap.size ≤ k) :
  SmD w (wA.setCell ⟨B, 5, none⟩ vA) rb T st B S D (L ++ l) a b vA := by
 have hbx := h.box5 hc
 have hT9 : ∀ k, r.ownBlock = some k → HasT W k 44 := fun k e => Own.hasT h.rds e
 have hTB : HasT W B 33 := h.box.hasT
 have hcc : Chg (fun k => r.ownBlock = some k ∨ k = B) W (wA.setCell ⟨B, 5, none⟩ vA) := Chg.setCell (Chg.mono hc fun k _ e => .inl e) (p := ⟨B, 5, none⟩) (.inl (.inr rfl)) vA
 have hlow : ∀ k, (r.ownBlock = some k ∨ k = B) → w.heap.size ≤ k := fun k e => by
  rcases e with e | rfl
  ·exact h.nr k e
  ·exact h.hB
 have hmine : RdS (wA.setCell ⟨B, 5, none⟩ vA) vA (L ++ l) := by
  unfold RdS
  rw [List.length_append, List.flatMap_append]
  exact ho.far (p := ⟨B, 5, none⟩) (fun e => absurd ((Own.hasT ho e).uniq hbx.hasT) (by decide)) _
 refine ⟨h.st.chg hcc (fun k e => by have := hlow k e; have := h.rbl; omega), Blk.set_ hbx 5 _, h.hB, Own.chg h.sets hcc (fun g hgg e => ?_), Own.chg h.words hcc (fun g hgg e => ?_), hmine, h.na, h.nb, fun k hk => ?_, h.ab, ?_, h.rbl⟩
 ·rcases e with e | rfl
  ·exact absurd ((Own.hasT h.sets hgg).uniq (hT9 g e)) (by decide)
  ·exact absurd ((Own.hasT h.sets hgg).uniq hTB) (by decide)
 ·rcases e with e | rfl
  ·exact absurd ((Own.hasT h.words hgg).uniq (hT9 g e)) (by decide)
  ·exact absurd ((Own.hasT h.words hgg).uniq hTB) (by decide)
 ·rcases hn k hk with e | e
  ·exact h.nr k e
  ·have := h.gr.size
   omega
 ·exact ⟨hcc.os.trans h.gr.os, hcc.tape.trans h.gr.tape, hcc.output.trans h.gr.output, Nat.le_trans h.gr.size hcc.size, fun k hk hne => (hcc.block k (Nat.lt_of_lt_of_le hk h.gr.size) (fun e => by have := hlow k e; omega)).trans (h.gr.block k hk hne)⟩
theorem SmD.start {ts : List Tok} {d : Nat} (h : DIs w rb T (.ok ts d)) : SmD w (w.alloc (.cells #[.int .i64 1, .string ⟨#[]⟩, .bool false, .slice none 0 0, .slice none 0 0, .slice none 0 0, .slice none 0 0, .slice none 0 0] 33)) rb T (.ok ts d) w.heap.size [] [] [] (.slice none 0 0) (.slice none 0 0) (.slice none 0 0) :=
 ⟨h.grown (only_alloc (only_refl w none) _), Blk.new w 33 _, Nat.le_refl _, Own.nil _ _ _ _, Own.nil _ _ _ _, Own.nil _ _ _ _, fun k hk => (by cases hk), fun k hk => (by cases hk), fun k hk => (by cases hk), fun k hk => (by cases hk), only_alloc (only_refl w _) _, h.lb⟩
theorem SmD.node (h : SmD w W rb T st B S D L a b r) : NdAt (low w) W a b r (.slice none 0 0) (.slice none 0 0) { kind := 1, sets := S, words := D, redirs := L } :=
 ⟨h.sets, h.words, h.rds, ⟨[], Own.nil _ _ _ _, fun b hb => (by cases hb), fun i hi => absurd hi (by simp)⟩, Own.nil _ _ _ _, fun k hk e => absurd e (Nat.not_lt.2 (h.na k hk)), fun k hk e => absurd e (Nat.not_lt.2 (h.nb k hk)), fun k hk e => absurd e (Nat.not_lt.2 (h.nr k hk)), fun k hk e => (by cases hk)⟩
end
/-- What redirs answers, and where the reader then is. -/
def LkR (PQ : PR (List Rd)) (d : Nat) (l : List Rd) : DS → Prop
 | .ok ts d2 => d2 = d ∧ ∃ ns, PQ = .ok l ts ns
 | .er a k => PQ = .bad a k
theorem rd_any {w w' : World} {rb d : Nat} {T : List Tok} {PQ : PR (List Rd)} {e : Ending} (h : DPost (vRdD w) (bRdD w) rb T d w PQ e w') : ∃ v l st, e = .returned v ∧ vRdD w w' l v ∧ DIs w' rb T st ∧ w.grownBy w' (some rb) ∧ LkR PQ d l st := by
 cases PQ with
 | ok x ts ns =>
  obtain ⟨v, h1, h2, h3, h4⟩ := h
  exact ⟨v, x, _, h1, h2, h3, h4, rfl, ns, rfl⟩
 | bad a k =>
  obtain ⟨v, h1, ⟨l, h2⟩, h3, h4⟩ := h
  exact ⟨v, l, _, h1, h2, h3, h4, rfl⟩
theorem res_noset : ∀ s ∈ resW, setB s = false := by decide
theorem res_set {s : List UInt8} (h : resB s = true) : setB s = false := res_noset s (by unfold resB at h; simpa using h)
theorem node1 {av : Nat → Prop} {w : World} {a b r : Value} {n : Nd} (h : NdAt av w a b r (.slice none 0 0) (.slice none 0 0) n) : NdS av (w.alloc (.cells (ndCells n a b r (.slice none 0 0) (.slice none 0 0)).toArray 33)) (.slice (some ⟨w.heap.size, 0, none⟩) 1 1) [n] := by
 refine ⟨ndCells n a b r (.slice none 0 0) (.slice none 0 0), ⟨rfl, .inr ⟨w.heap.size, 0, 1, _, (0, 0), rfl, Blk.new w 33 _, Nat.le_refl _, Nat.le_refl _, by unfold maxLen; omega, by show 0 + 1 * 8 ≤ 8; omega, fun j hj => by rw [Nat.zero_add]; simp⟩⟩, fun i hi => ?_⟩
 have h0 : i = 0 := by simpa using hi
 subst h0
 exact ⟨a, b, r, _, _, rfl, h.fr (base := fun _ => False) (Fr.of_grown (only_alloc (only_refl w none) _))⟩
set_option maxHeartbeats 16000000 in
theorem dsimple_any (rb : Nat) (T ts : List Tok) (d : Nat) (w : World) (h : DIs w rb T (.ok ts d)) :
  Calls Try.prog 71 #[.pointer (some ⟨rb, 0, none⟩)] w (NPost (vNd w) bSl rb T d w (simF ts [])) := by
 have Hx := hide (fun W st (hW : DIs W rb T st) => dwrong_any rb T st W hW)
 have Hr := hide (fun W ts (hW : DIs W rb T (.ok ts d)) => dredirs_any rb T ts d W hW)
 have Hs := hide (fun s W => dreserved_any s W)
 have Hm := hide (fun s W h => dset_any s W h)
 unfold Qb sv at Hs Hm
 have HGD := hide h.good
 have HAT := hide (SmD.start h)
 show Calls Try.prog 71 #[.pointer (some ⟨rb, 0, none⟩)] w (NPost (vNd w) bSl rb T d w ((simL (ts.length + 1) { kind := 1 } ts []).bind finS))
 obtain ⟨R, hR⟩ : ∃ R, (simL (ts.length + 1) { kind := 1 } ts []).bind finS = R := ⟨_, rfl⟩
 have HR := hide (show (simL (ts.length + 1) (simN [] [] []) ts []).bind finS = R from hR)
 rw [hR]
 obtain ⟨B, hB⟩ : ∃ B, w.heap.size = B := ⟨_, rfl⟩
 rw [hB] at HAT
 clear hR h
 go_enter Try.func71, Try.ntmps71
 go_upto_block 0 with (fail)
 obtain ⟨W0, hW0⟩ : ∃ W0, w.alloc (.cells #[.int .i64 1, .string ⟨#[]⟩, .bool false, .slice none 0 0, .slice none 0 0, .slice none 0 0, .slice none 0 0, .slice none 0 0] 33) = W0 := ⟨_, rfl⟩
 rw [hW0] at HAT ⊢
 clear hW0 hB
 go_cut [4] (fun v4 wx => ∃ (S D : List (List UInt8)) (L : List Rd) (st : DS) (a b r : Value), S.length + D.length + L.length ≤ 2000 ∧ ((∃ Z, st = .ok Z d ∧ R = finS (simN S D L) Z []) ∨ (∃ x k, st = .er x k ∧ R = .bad x k)) ∧ SmD w wx rb T st B S D L a b r)
 case rest =>
  obtain ⟨S, D, L, st, a, b, r, hl3, hR, hA⟩ := hcut
  have HRX := hide hR
  have HA := hide hA
  obtain ⟨a1, a3, rfl, _, _⟩ := Own.form hA.sets
  obtain ⟨b1, b3, rfl, _, _⟩ := Own.form hA.words
  obtain ⟨r1, r3, rfl, _, _⟩ := Own.form hA.rds
  have lB := Blk.lt hA.box
  have x0 : wc.cell? ⟨B, 0, none⟩ = some (.int .i64 1) := Blk.cell hA.box 0
  have x1 : wc.cell? ⟨B, 1, none⟩ = some (.string ⟨#[]⟩) := Blk.cell hA.box 1
  have x2 : wc.cell? ⟨B, 2, none⟩ = some (.bool false) := Blk.cell hA.box 2
  have x3 : wc.cell? ⟨B, 3, none⟩ = some (.slice a1 S.length a3) := Blk.cell hA.box 3
  have x4 : wc.cell? ⟨B, 4, none⟩ = some (.slice b1 D.length b3) := Blk.cell hA.box 4
  have x5 : wc.cell? ⟨B, 5, none⟩ = some (.slice r1 L.length r3) := Blk.cell hA.box 5
  have x6 : wc.cell? ⟨B, 6, none⟩ = some (.slice none 0 0) := Blk.cell hA.box 6
  have x7 : wc.cell? ⟨B, 7, none⟩ = some (.slice none 0 0) := Blk.cell hA.box 7
  obtain ⟨q, hq⟩ : ∃ q, ((S.length : Int) + (D.length : Int) + (L.length : Int) == 0) = q := ⟨_, rfl⟩
  have hs1 : S.length ≤ 2000 := by omega
  have hs2 : D.length ≤ 2000 := by omega
  have hs3 : L.length ≤ 2000 := by omega
  have HWX := hide (Hx.out wc st HA.out.st)
  unfold Qu at HWX
  have HEND := hide (fun (W : World) (hA : SmD w W rb T st B S D L (.slice a1 S.length a3) (.slice b1 D.length b3) (.slice r1 L.length r3)) (hz : ¬ (S.length + D.length + L.length = 0)) => (show ∀ v, v = Value.slice (some ⟨W.heap.size, 0, none⟩) 1 1 → NPost (vNd w) bSl rb T d w R (.returned v) (W.alloc (.cells #[.int .i64 1, .string ⟨#[]⟩, .bool false, .slice a1 S.length a3, .slice b1 D.length b3, .slice r1 L.length r3, .slice none 0 0, .slice none 0 0] 33)) by
   intro v hv
   subst hv
   have hst := hA.st.grown (only_alloc (only_refl W none) (.cells #[.int .i64 1, .string ⟨#[]⟩, .bool false, .slice a1 S.length a3, .slice b1 D.length b3, .slice r1 L.length r3, .slice none 0 0, .slice none 0 0] 33))
   rcases HRX.out with ⟨Z, e1, e2⟩ | ⟨x, k, e1, e2⟩
   ·subst e1
    rw [e2, show finS (simN S D L) Z [] = PR.ok 0 Z [simN S D L] from if_neg hz]
    exact ⟨_, rfl, ⟨node1 hA.node, (by intro x hx; rw [List.mem_singleton] at hx; subst hx; exact ⟨Nat.zero_le _, fun k hk => by cases hk⟩), by simp, fun g hg => by simp [Value.ownBlock] at hg; have := hA.gr.size; omega⟩, hst, only_alloc hA.gr _⟩
   ·subst e1
    rw [e2]
    exact ⟨_, rfl, ⟨_, _, _, rfl⟩, hst, only_alloc hA.gr _⟩))
  clear hR hA
  cases q with
  | true =>
   have hz : S.length + D.length + L.length = 0 := by have := eq_of_beq hq; omega
   have HB9 := hide (fun (W : World) (h1 : DIs W rb T (wrongD st)) (h2 : wc.grownBy W (some rb)) => (show ∀ v, v = Value.slice (some ⟨W.heap.size, 0, none⟩) 1 1 → NPost (vNd w) bSl rb T d w R (.returned v) (W.alloc (.cells #[.int .i64 1, .string ⟨#[]⟩, .bool false, .slice a1 S.length a3, .slice b1 D.length b3, .slice r1 L.length r3, .slice none 0 0, .slice none 0 0] 33)) by
    intro v hv
    subst hv
    have hst := h1.grown (only_alloc (only_refl W none) (.cells #[.int .i64 1, .string ⟨#[]⟩, .bool false, .slice a1 S.length a3, .slice b1 D.length b3, .slice r1 L.length r3, .slice none 0 0, .slice none 0 0] 33))
    have hgr := only_alloc (only_trans HA.out.gr h2) (.cells #[.int .i64 1, .string ⟨#[]⟩, .bool false, .slice a1 S.length a3, .slice b1 D.length b3, .slice r1 L.length r3, .slice none 0 0, .slice none 0 0] 33)
    rcases HRX.out with ⟨Z, e1, e2⟩ | ⟨x, k, e1, e2⟩
    ·subst e1
     obtain ⟨t, rr, rfl⟩ := HA.out.st.good.1.ne
     rw [e2, show finS (simN S D L) (t :: rr) [] = PR.bad t.a (if t.k = 4 then 23 else 17) from if_pos hz]
     exact ⟨_, rfl, ⟨_, _, _, rfl⟩, hst, hgr⟩
    ·subst e1
     rw [e2]
     exact ⟨_, rfl, ⟨_, _, _, rfl⟩, hst, hgr⟩))
   have HBX := hide (fun (W : World) (h2 : wc.grownBy W (some rb)) => Blk.grown HA.out.box h2 (fun e => by injection e with e; have := HA.out.hB; have := HA.out.rbl; omega))
   clear hz x0 x1 x2 x6 x7
   go_wp2_with fail
   refine HWX.out.mono ?_
   rintro e w2 ⟨rfl, h2, g2⟩
   have HB9 := hide (HB9.out w2 h2 g2)
   have hbx := HBX.out w2 g2
   have lB := Blk.lt hbx
   have x0 : w2.cell? ⟨B, 0, none⟩ = some (.int .i64 1) := Blk.cell hbx 0
   have x1 : w2.cell? ⟨B, 1, none⟩ = some (.string ⟨#[]⟩) := Blk.cell hbx 1
   have x2 : w2.cell? ⟨B, 2, none⟩ = some (.bool false) := Blk.cell hbx 2
   have x3 : w2.cell? ⟨B, 3, none⟩ = some (.slice a1 S.length a3) := Blk.cell hbx 3
   have x4 : w2.cell? ⟨B, 4, none⟩ = some (.slice b1 D.length b3) := Blk.cell hbx 4
   have x5 : w2.cell? ⟨B, 5, none⟩ = some (.slice r1 L.length r3) := Blk.cell hbx 5
   have x6 : w2.cell? ⟨B, 6, none⟩ = some (.slice none 0 0) := Blk.cell hbx 6
   have x7 : w2.cell? ⟨B, 7, none⟩ = some (.slice none 0 0) := Blk.cell hbx 7
   clear hbx h2 g2
   go_wp2_with fail
   go_ret
   exact HB9.out _ rfl
  | false =>
   have hz : ¬ (S.length + D.length + L.length = 0) := fun e => beq_eq_false_iff_ne.1 hq (by omega)
   have HE := hide (HEND.out wc HA.out hz)
   clear hz
   go_wp2_with fail
   go_ret
   exact HE.out _ rfl
 go_wp2_with fail
 go_loopg [4] ts.length (fun g v4 wr => ∃ (f : Nat) (S D : List (List UInt8)) (L : List Rd) (Z : List Tok) (a b r : Value), (simL f (simN S D L) Z []).bind finS = R ∧ Z.length < f ∧ Z.length ≤ g ∧ S.length + D.length + L.length + Z.length ≤ ts.length ∧ SmD w wr rb T (.ok Z d) B S D L a b r)
 case atStart => exact ⟨_, [], [], [], ts, _, _, _, HR.out, Nat.lt_succ_self _, Nat.le_refl _, by simp, HAT.out⟩
 case round =>
  obtain ⟨f0, S, D, L, Z, a, b, r, hR, hf, hg, hln, hA⟩ := hrel
  have HRr := hide hR
  have HA := hide hA
  have hts := HGD.out.2.2.2.1
  obtain ⟨a1, a3, rfl, _, _⟩ := Own.form hA.sets
  obtain ⟨b1, b3, rfl, _, _⟩ := Own.form hA.words
  obtain ⟨r1, r3, rfl, _, _⟩ := Own.form hA.rds
  obtain ⟨f0, rfl⟩ : ∃ f', f0 = f' + 1 := ⟨f0 - 1, by omega⟩
  have hgd := hA.st.good
  have lB := Blk.lt hA.box
  have x5 : wr.cell? ⟨B, 5, none⟩ = some (.slice r1 L.length r3) := Blk.cell hA.box 5
  have HDR := hide (HA.out.grown (only_drew (only_refl wr none)))
  have Hr1 := hide (Hr.out _ Z HDR.out.st)
  obtain ⟨PQ, hpq⟩ : ∃ PQ, redirF Z [] = PQ := ⟨_, rfl⟩
  rw [hpq] at Hr1
  have HPQ := hide hpq
  have HLN0 := hide (And.intro hf (And.intro hg hln))
  have HGD1 := hide hgd
  have HLs := hide (show L.length ≤ 500 by omega)
  clear hR hA hpq hgd hf hg hln
  obtain ⟨vt, a, fr, h, hd, hdd⟩ := HA.out.st
  obtain ⟨c0, c1, c2, c3, c4⟩ := h.cells
  have lb := h.lb
  clear h hd hdd
  go_upto_region 3 with (fail)
  clear c0 c1 c2 c3 c4 lb
  go_cut [] (fun wx => ∃ (l : List Rd) (st1 : DS) (vr : Value), LkR PQ d l st1 ∧ l.length ≤ 1000 ∧ SmD w wx rb T st1 B S D (L ++ l) (.slice a1 S.length a3) (.slice b1 D.length b3) vr)
  case first =>
   refine wp_region_permP [0, 1, 2] [3, 4, 5, 6] (by kernel_rfl) (by kernel_rfl) (fun W' => W'.cell? ⟨B, 5, none⟩ = some (.slice r1 L.length r3)) x5 (by intro c a w d v h; cases d <;> exact h) ?_
   simp only [pick, List.getElem?_cons_zero, List.getElem?_cons_succ]
   refine wpTake_cons ?_ (by rfl) ?_ ?_
   rotate_left
   ·(intro W9 hSW; go_simp; try with_reducible rfl)
   simp only [Act.put, List.setIfInBounds_toArray, List.set_cons_zero, List.set_cons_succ]
   refine wpTake_cons ?_ (by rfl) ?_ ?_
   rotate_left
   ·(intro W9 hSW; go_simp; try with_reducible rfl)
   simp only [Act.put, List.setIfInBounds_toArray, List.set_cons_zero, List.set_cons_succ]
   refine wpTake_cons ?_ (by rfl) ?_ ?_
   rotate_left
   ·(intro W9 hSW; go_simp; try with_reducible rfl)
   simp only [Act.put, List.setIfInBounds_toArray, List.set_cons_zero, List.set_cons_succ]
   refine wpTake_nil ?_
   refine wpForce_cons fun K1 hK1 => ?_
   refine step_callP (by rfl) (by simp [go_sem]) Hr1.out (fun w' h => by obtain ⟨_, _, _, h, _⟩ := rd_any h; cases h) ?_ (fun c w' h => by obtain ⟨_, _, _, h, _⟩ := rd_any h; cases h)
   intro v w1 hv
   obtain ⟨v', l, st1, hv, ⟨ho1, hn1, hl1⟩, ht1, g1, hlk⟩ := rd_any hv
   injection hv with hv
   subst hv
   have hA1 := SmD.step HDR.out g1 ht1
   obtain ⟨l1, l3, rfl, _, _⟩ := Own.form ho1
   refine hK1.out _ _ (Blk.cell hA1.box 5) ?_
   simp only [Act.put, List.setIfInBounds_toArray, List.set_cons_zero, List.set_cons_succ]
   refine wpForce_cons fun K2 hK2 => ?_
   refine step_appAt (by rfl) (.tmp 12) (.tmp 14) 29 29 (by rfl) 44 (.agg #[.int .i64 0, .string ⟨#[]⟩, .string ⟨#[]⟩]) 3 40 Try.underlying29 infoRd rfl (.slice r1 L.length r3) L.length (L.flatMap Rd.cells) 0 _ l.length (l.flatMap Rd.cells) (by rfl) (by rfl) hA1.rds (by omega) (srcRs ho1) (by have := HLs.out; unfold maxLen; omega) (by have := HLs.out; omega) ?_
   intro vA wA ho hc hn _
   obtain ⟨ra1, ra3, rfl, _, _⟩ := Own.form ho
   have hbx := hA1.box5 hc
   have lBA := Blk.lt hbx
   have zB := Blk.frozen hbx 5
   have xBA : wA.cell? ⟨B, 5, none⟩ = some (.slice r1 L.length r3) := Blk.cell hbx 5
   have HA2 := hide (SmD.app5 hA1 ho hc hn)
   have HHD := hide (And.intro hlk hl1)
   refine hK2.out _ _ (Blk.cell hbx 5) ?_
   simp only [Act.put, List.setIfInBounds_toArray, List.set_cons_zero, List.set_cons_succ]
   refine wpForce_cons fun K4 hK4 => ?_
   refine step_val (.pointer (some ⟨B, 5, none⟩)) wA (by rfl) (by go_simp) ?_
   refine hK4.out _ _ (Blk.cell hbx 5) ?_
   simp only [Act.put, List.setIfInBounds_toArray, List.set_cons_zero, List.set_cons_succ]
   refine wpForce_one ?_
   clear hA1 ho hc hn ho1 hn1 ht1 g1 hbx hK1 hK2 hK4 K1 K2 K4 hl1 hlk lB x5
   go_wp2_with fail
   go_meet
   case rel => exact ⟨l, st1, _, HHD.out.1, HHD.out.2, HA2.out⟩
  case rest =>
   obtain ⟨l, st1, vr, hlk, hl1, hA2⟩ := hcut
   have HA2 := hide hA2
   obtain ⟨r1, r3, rfl, _, _⟩ := Own.form hA2.rds
   clear x5 lB hA2
   cases st1 with
   | er x k =>
    have HRS := hide (show R = .bad x k by rw [← HRr.out, simL, HPQ.out, show PQ = .bad x k from hlk]; rfl)
    clear hlk
    obtain ⟨vt, a, dd, h, hk0⟩ := HA2.out.st
    obtain ⟨c0, c1, c2, c3, c4⟩ := h.cells
    obtain ⟨g, off, cap, t, rr, rfl, hc, hg, hd2, t0, t1, t2⟩ := h.tok_
    have lb := h.lb
    have hlt := h.lt
    have hib : (0 : Int) ≤ (a : Int) ∧ (a : Int) < ((T.length : Nat) : Int) := by omega
    obtain ⟨LT, hL⟩ : ∃ L, T.length = L := ⟨_, rfl⟩
    rw [hL] at c0 hib hc
    have qk : (k != 0) = true := bne_iff_ne.2 hk0
    clear h hk0 hd2 hL hlt
    obtain ⟨tk, tt, ta⟩ := t
    simp only [] at t0 t1 t2
    go_upto_region 4 with (fail)
    have Hk : Hid (∀ X : World, wc.grownBy X none → (X.cell? ⟨rb, 0, none⟩ = some (.slice (some ⟨g, off, none⟩) LT cap) ∧ X.cell? ⟨rb, 1, none⟩ = some (.int .i64 a) ∧ X.cell? ⟨g, off + a * 3, none⟩ = some (.int .i64 tk) ∧ X.cell? ⟨g, off + a * 3 + 1, none⟩ = some (.string ⟨tt.toArray⟩) ∧ X.cell? ⟨g, off + a * 3 + 2, none⟩ = some (.int .i64 ta))) :=
     hide (fun X hw => ⟨old_cell hw lb c0, old_cell hw lb c1, old_cell hw hg t0, old_cell hw hg t1, old_cell hw hg t2⟩)
    go_region_held3 (fun X => X.cell? ⟨rb, 0, none⟩ = some (.slice (some ⟨g, off, none⟩) LT cap) ∧ X.cell? ⟨rb, 1, none⟩ = some (.int .i64 a) ∧ X.cell? ⟨g, off + a * 3, none⟩ = some (.int .i64 tk) ∧ X.cell? ⟨g, off + a * 3 + 1, none⟩ = some (.string ⟨tt.toArray⟩) ∧ X.cell? ⟨g, off + a * 3 + 2, none⟩ = some (.int .i64 ta))
     (first | go_keep | exact Hk.out _ (by repeat' (first | (with_reducible exact only_refl _ _) | (with_reducible refine none_setCell ?_ ?_ _) | (with_reducible refine none_trans ?_ hg) | (with_reducible refine only_drew ?_) | (with_reducible refine only_alloc ?_ _) | omega | (simp; done))))
     (fail)
    have hg4 := only_drew (only_alloc (only_refl wc none) (.cells #[.int .i64 tk, .string ⟨tt.toArray⟩, .int .i64 ta] 41))
    have HA4 := hide (HA2.out.grown hg4)
    have e3 := old_cell hg4 lb c3
    have le := Nat.lt_of_lt_of_le lb hg4.size
    generalize (wc.alloc (.cells #[.int .i64 tk, .string ⟨tt.toArray⟩, .int .i64 ta] 41)).drew = W4 at HA4 e3 le ⊢
    clear Hk hg4 c0 c1 c2 c3 c4 t0 t1 t2 hg lb hib hc
    go_wp2_with fail
    go_meet
    exact ⟨S, D, L ++ l, _, _, _, _, by have := HLN0.out; rw [List.length_append]; omega, .inr ⟨x, k, rfl, HRS.out⟩, HA4.out⟩
   | ok Z1 d2 =>
    obtain ⟨rfl, ns9, hpq⟩ := hlk
    have hred := redirF_good HGD1.out.1 (HPQ.out.trans hpq)
    have hns : ns9 = [] := hred.2.1
    subst hns
    have hl2 := hred.2.2
    have HPQ2 := hide (HPQ.out.trans hpq)
    obtain ⟨t, rr, rfl⟩ := hred.1.ne
    have HLN := hide (show S.length + D.length + (L ++ l).length + (t :: rr).length ≤ ts.length ∧ (t :: rr).length ≤ Z.length ∧ Z.length < f0 + 1 ∧ Z.length ≤ gk by have := HLN0.out; rw [List.length_append]; omega)
    have HTX := hide (HA2.out.st.good.2.2.1 t (List.mem_cons_self ..)).1
    have HRS := hide (show R = ((if t.k ≠ 1 then .ok (simN S D (L ++ l)) (t :: rr) [] else if 0 < D.length then simL f0 (simN S (D ++ [t.t]) (L ++ l)) rr [] else if setB t.t = true then simL f0 (simN (S ++ [t.t]) D (L ++ l)) rr [] else if (t.t != wIn && resB t.t) = true then .ok (simN S D (L ++ l)) (t :: rr) [] else simL f0 (simN S (D ++ [t.t]) (L ++ l)) rr [] : PR Nd)).bind finS by rw [← HRr.out, simL, HPQ2.out, PR.bind_ok]; rfl)
    clear hred hl2 hpq
    obtain ⟨vt, a, f, h, hd, hdd⟩ := HA2.out.st
    obtain ⟨c0, c1, c2, c3, c4⟩ := h.cells
    obtain ⟨g, off, cap, t9, r9, rfl, hc, hg, hd2, t0, t1, t2⟩ := h.tok_
    have lb := h.lb
    have hlt := h.lt
    have hib : (0 : Int) ≤ (a : Int) ∧ (a : Int) < ((T.length : Nat) : Int) := by omega
    have hTl := h.tg.len
    obtain ⟨LT, hL⟩ : ∃ LT, T.length = LT := ⟨_, rfl⟩
    have hAL : (a : Int) ≤ 500 := by omega
    have HDA := hide h
    have HDD := hide (And.intro hd hdd)
    have hZ := hd.symm.trans hd2
    injection hZ with hZ1 hZ2
    subst hZ1 hZ2
    rw [hL] at c0 hib hc hTl
    have z1 := Blk.frozen h.blk 1
    clear h hd hdd hd2 hL hlt
    obtain ⟨tk, tt, ta⟩ := t
    simp only [] at t0 t1 t2 HTX
    go_upto_region 4 with (fail)
    have Hk : Hid (∀ X : World, wc.grownBy X none → (X.cell? ⟨rb, 0, none⟩ = some (.slice (some ⟨g, off, none⟩) LT cap) ∧ X.cell? ⟨rb, 1, none⟩ = some (.int .i64 a) ∧ X.cell? ⟨g, off + a * 3, none⟩ = some (.int .i64 tk) ∧ X.cell? ⟨g, off + a * 3 + 1, none⟩ = some (.string ⟨tt.toArray⟩) ∧ X.cell? ⟨g, off + a * 3 + 2, none⟩ = some (.int .i64 ta))) :=
     hide (fun X hw => ⟨old_cell hw lb c0, old_cell hw lb c1, old_cell hw hg t0, old_cell hw hg t1, old_cell hw hg t2⟩)
    go_region_held3 (fun X => X.cell? ⟨rb, 0, none⟩ = some (.slice (some ⟨g, off, none⟩) LT cap) ∧ X.cell? ⟨rb, 1, none⟩ = some (.int .i64 a) ∧ X.cell? ⟨g, off + a * 3, none⟩ = some (.int .i64 tk) ∧ X.cell? ⟨g, off + a * 3 + 1, none⟩ = some (.string ⟨tt.toArray⟩) ∧ X.cell? ⟨g, off + a * 3 + 2, none⟩ = some (.int .i64 ta))
     (first | go_keep | exact Hk.out _ (by repeat' (first | (with_reducible exact only_refl _ _) | (with_reducible refine none_setCell ?_ ?_ _) | (with_reducible refine none_trans ?_ hg) | (with_reducible refine only_drew ?_) | (with_reducible refine only_alloc ?_ _) | omega | (simp; done))))
     (fail)
    have hg3 := only_drew (only_alloc (only_refl wc none) (.cells #[.int .i64 tk, .string ⟨tt.toArray⟩, .int .i64 ta] 41))
    have HB4 := hide (show Blk (wc.alloc (.cells #[.int .i64 tk, .string ⟨tt.toArray⟩, .int .i64 ta] 41)).drew wc.heap.size 41 #[.int .i64 tk, .string ⟨tt.toArray⟩, .int .i64 ta] from Blk.new wc 41 _)
    have HA3 := hide (HA2.out.grown hg3)
    have e3 := old_cell hg3 lb c3
    have le := Nat.lt_of_lt_of_le lb hg3.size
    generalize (wc.alloc (.cells #[.int .i64 tk, .string ⟨tt.toArray⟩, .int .i64 ta] 41)).drew = W3, wc.heap.size = B4 at HB4 HA3 e3 le ⊢
    clear Hk hg3
    clear c0 c1 c2 c3 c4 t0 t1 t2 hg lb hib hTl hAL hc z1
    have x0 : W3.cell? ⟨B4, 0, none⟩ = some (.int .i64 tk) := Blk.cell HB4.out 0
    have x1 : W3.cell? ⟨B4, 1, none⟩ = some (.string ⟨tt.toArray⟩) := Blk.cell HB4.out 1
    have lx := Blk.lt HB4.out
    have y4 : W3.cell? ⟨B, 4, none⟩ = some (.slice b1 D.length b3) := Blk.cell HA3.out.box 4
    have ly := Blk.lt HA3.out.box
    obtain ⟨sb, hsb⟩ : ∃ sb, ((tk != 1) || (decide (D.length = 0) && (tt != [105, 110] && resB tt))) = sb := ⟨_, rfl⟩
    have HSB := hide hsb
    go_upto_region 5 with (fail)
    go_cut [52] (fun v52 wx => v52 = .bool sb ∧ W3.grownBy wx none)
    case first =>
     by_cases k1 : tk = 1
     ·subst k1
      by_cases hD : D.length = 0
      ·have qD : ((D.length : Int) == 0) = true := by rw [beq_iff_eq]; omega
       by_cases hin : tt = [105, 110]
       ·subst hin
        have hsv : sb = false := by rw [← hsb]; simp
        have HSV := hide hsv
        clear hsb hsv
        go_wp2_with fail
        go_meet
        exact ⟨by rw [HSV.out], only_refl _ _⟩
       ·have qin : (tt != [105, 110]) = true := bne_iff_ne.2 hin
        have Hst := hide (Hs.out tt W3)
        have hsv : sb = resB tt := by rw [← hsb, decide_eq_true hD, qin]; simp
        obtain ⟨b9, hb9⟩ : ∃ b, resB tt = b := ⟨_, rfl⟩
        rw [hb9] at Hst hsv
        have HSV := hide hsv
        clear hsb hsv hb9
        go_wp2_with fail
        refine Hst.out.mono ?_
        rintro e w9 ⟨rfl, g9⟩
        go_wp2_with fail
        go_meet
        exact ⟨by first | (rw [HSV.out]; done) | (rw [HSV.out]; simp [hin]), g9⟩
      ·have qD : ((D.length : Int) == 0) = false := by rw [beq_eq_false_iff_ne]; omega
       have hsv : sb = false := by rw [← hsb, decide_eq_false hD]; simp
       have HSV := hide hsv
       clear hsb hsv
       go_wp2_with fail
       go_meet
       exact ⟨by rw [HSV.out], only_refl _ _⟩
     ·have qk : ((tk : Int) != 1) = true := by rw [bne_iff_ne]; omega
      have hsv : sb = true := by rw [← hsb, show (tk != 1) = true from bne_iff_ne.2 k1]; rfl
      have HSV := hide hsv
      clear hsb hsv
      go_wp2_with fail
      go_meet
      exact ⟨by rw [HSV.out], only_refl _ _⟩
    case rest =>
     obtain ⟨rfl, hg5⟩ := hcut
     have HB5 := hide (Blk.grown HB4.out hg5 (by simp))
     have HA5 := hide (HA3.out.grown hg5)
     clear hg5 hsb x0 x1 lx y4 ly
     have hDl : D.length ≤ 500 := by have := HLN.out; omega
     have hSl : S.length ≤ 500 := by have := HLN.out; omega
     cases sb with
     | true =>
      have HRT := hide (show R = finS (simN S D (L ++ l)) (⟨tk, tt, ta⟩ :: rr) [] by
       have h := HSB.out
       rw [Bool.or_eq_true, Bool.and_eq_true, Bool.and_eq_true] at h
       by_cases k1 : tk = 1
       ·rcases h with h | ⟨h1, h2, h3⟩
        ·exact absurd k1 (bne_iff_ne.1 h)
        ·have h4 := of_decide_eq_true h1
         rw [HRS.out, if_neg (fun e => e k1), if_neg (by omega), if_neg (by rw [res_set h3]; decide), if_pos (by rw [Bool.and_eq_true]; exact ⟨h2, h3⟩)]
         rfl
       ·rw [HRS.out, if_pos k1]
        rfl)
      go_wp2_with fail
      go_meet
      exact ⟨S, D, L ++ l, _, _, _, _, by have := HLN.out; omega, .inl ⟨_, rfl, HRT.out⟩, HA5.out⟩
     | false =>
      have hsb := HSB.out
      rw [Bool.or_eq_false_iff] at hsb
      have HK1 := hide (show tk = 1 by have h := hsb.1; simpa using h)
      obtain ⟨sx, hsx⟩ : ∃ sx, (decide (D.length = 0) && setB tt) = sx := ⟨_, rfl⟩
      have HSX := hide hsx
      have HRX := hide (show (if sx = true then (simL f0 (simN (S ++ [tt]) D (L ++ l)) rr []).bind finS else (simL f0 (simN S (D ++ [tt]) (L ++ l)) rr []).bind finS) = R by
       have hR2 : R = ((if 0 < D.length then simL f0 (simN S (D ++ [tt]) (L ++ l)) rr [] else if setB tt = true then simL f0 (simN (S ++ [tt]) D (L ++ l)) rr [] else if (tt != wIn && resB tt) = true then .ok (simN S D (L ++ l)) (⟨tk, tt, ta⟩ :: rr) [] else simL f0 (simN S (D ++ [tt]) (L ++ l)) rr [] : PR Nd)).bind finS := HRS.out.trans (by rw [if_neg (fun e => e HK1.out)])
       have h2 := hsb.2
       by_cases hD : D.length = 0
       ·rw [decide_eq_true hD, Bool.true_and] at h2
        rw [if_neg (by omega)] at hR2
        rw [decide_eq_true hD, Bool.true_and] at hsx
        subst hsx
        rw [hR2]
        by_cases hs : setB tt = true
        ·rw [if_pos hs, if_pos hs]
        ·rw [if_neg hs, if_neg hs, if_neg (by rw [show (tt != wIn && resB tt) = false from h2]; decide)]
       ·rw [if_pos (by omega)] at hR2
        rw [decide_eq_false hD, Bool.false_and] at hsx
        subst hsx
        rw [hR2]
        rfl)
      clear hsb
      have x0 : wc.cell? ⟨B4, 0, none⟩ = some (.int .i64 tk) := Blk.cell HB5.out 0
      have x1 : wc.cell? ⟨B4, 1, none⟩ = some (.string ⟨tt.toArray⟩) := Blk.cell HB5.out 1
      have lx := Blk.lt HB5.out
      have y4 : wc.cell? ⟨B, 4, none⟩ = some (.slice b1 D.length b3) := Blk.cell HA5.out.box 4
      have ly := Blk.lt HA5.out.box
      obtain ⟨w5, hw5⟩ : ∃ x, x = wc := ⟨_, rfl⟩
      subst hw5
      go_upto_region 6 with (fail)
      go_cut [61] (fun v61 wx => v61 = .bool sx ∧ w5.grownBy wx none)
      case first =>
       by_cases hD : D.length = 0
       ·have qD : ((D.length : Int) == 0) = true := by rw [beq_iff_eq]; omega
        have hsv : sx = setB tt := by rw [← hsx, decide_eq_true hD]; simp
        have Hst := hide (Hm.out tt w5 (by have := HTX.out; omega))
        obtain ⟨b9, hb9⟩ : ∃ b, setB tt = b := ⟨_, rfl⟩
        rw [hb9] at Hst hsv
        have HSV := hide hsv
        clear hsx hsv hb9
        go_wp2_with fail
        refine Hst.out.mono ?_
        rintro e w9 ⟨rfl, g9⟩
        go_wp2_with fail
        go_meet
        exact ⟨by first | (rw [HSV.out]; done) | (rw [HSV.out]; simp [hin]), g9⟩
       ·have qD : ((D.length : Int) == 0) = false := by rw [beq_eq_false_iff_ne]; omega
        have hsv : sx = false := by rw [← hsx, decide_eq_false hD]; simp
        have HSV := hide hsv
        clear hsx hsv
        go_wp2_with fail
        go_meet
        exact ⟨by rw [HSV.out], only_refl _ _⟩
      case rest =>
       obtain ⟨rfl, hg6⟩ := hcut
       have HB6 := hide (Blk.grown HB5.out hg6 (by simp))
       have HA6 := hide (HA5.out.grown hg6)
       clear hg6 hsx x0 x1 lx y4 ly
       have x1 : wc.cell? ⟨B4, 1, none⟩ = some (.string ⟨tt.toArray⟩) := Blk.cell HB6.out 1
       have lx := Blk.lt HB6.out
       have y3 : wc.cell? ⟨B, 3, none⟩ = some (.slice a1 S.length a3) := Blk.cell HA6.out.box 3
       have y4 : wc.cell? ⟨B, 4, none⟩ = some (.slice b1 D.length b3) := Blk.cell HA6.out.box 4
       have ly := Blk.lt HA6.out.box
       go_upto_if 61 with (fail)
       go_cut [] (fun wx => ∃ (S2 D2 : List (List UInt8)) (va vb : Value), (if sx = true then S2 = S ++ [tt] ∧ D2 = D else S2 = S ∧ D2 = D ++ [tt]) ∧ SmD w wx rb T (.ok (⟨tk, tt, ta⟩ :: rr) d2) B S2 D2 (L ++ l) va vb (.slice r1 (L ++ l).length r3))
       case first =>
        cases sx with
        | true =>
         go_wp2_with (at_builtin; go_loud (refine wpList_appAt 9 (.string ⟨#[]⟩) 1 16 Try.underlying28 infoStr rfl (.slice a1 S.length a3) S.length (S.map sv) 0 _ 1 [sv tt] rfl rfl (Own.alloc HA6.out.sets _) (by omega) (srcS _ _ tt rfl) (by unfold maxLen; omega) (by omega) ?_); intro vA wA ho hc hn2 _; (have hbx := HA6.out.box3 _ hc); (have zB := Blk.frozen hbx 3); (have lB := Blk.lt hbx); (have xB : wA.cell? ⟨B, 3, none⟩ = some (.slice a1 S.length a3) := Blk.cell hbx 3); (have HA7 := hide (SmD.app3 HA6.out _ ho hc hn2)); (obtain ⟨fa, ca, rfl, _, _⟩ := Own.form ho); clear ho hc hn2 hbx)
         go_meet
         exact ⟨S ++ [tt], D, _, _, ⟨rfl, rfl⟩, HA7.out⟩
        | false =>
         go_wp2_with (at_builtin; go_loud (refine wpList_appAt 9 (.string ⟨#[]⟩) 1 16 Try.underlying28 infoStr rfl (.slice b1 D.length b3) D.length (D.map sv) 0 _ 1 [sv tt] rfl rfl (Own.alloc HA6.out.words _) (by omega) (srcS _ _ tt rfl) (by unfold maxLen; omega) (by omega) ?_); intro vA wA ho hc hn2 _; (have hbx := HA6.out.box4 _ hc); (have zB := Blk.frozen hbx 4); (have lB := Blk.lt hbx); (have xB : wA.cell? ⟨B, 4, none⟩ = some (.slice b1 D.length b3) := Blk.cell hbx 4); (have HA7 := hide (SmD.app4 HA6.out _ ho hc hn2)); (obtain ⟨fa, ca, rfl, _, _⟩ := Own.form ho); clear ho hc hn2 hbx)
         go_meet
         exact ⟨S, D ++ [tt], _, _, ⟨rfl, rfl⟩, HA7.out⟩
       case rest =>
        obtain ⟨S2, D2, va, vb, hsd, hA8⟩ := hcut
        have HA8 := hide hA8
        have HRY := hide (show (simL f0 (simN S2 D2 (L ++ l)) rr []).bind finS = R by
         rw [← HRX.out]
         cases sx with
         | true => rw [if_pos rfl] at hsd; rw [if_pos rfl, hsd.1, hsd.2]
         | false => rw [if_neg (by decide)] at hsd; rw [if_neg (by decide), hsd.1, hsd.2])
        have HLX := hide (show S2.length + D2.length = S.length + D.length + 1 by
         cases sx with
         | true => rw [if_pos rfl] at hsd; rw [hsd.1, hsd.2, List.length_append, List.length_singleton]; omega
         | false => rw [if_neg (by decide)] at hsd; rw [hsd.1, hsd.2, List.length_append, List.length_singleton]; omega)
        clear hsd hA8 x1 lx y3 y4 ly
        obtain ⟨vt, a, f, h, hd, hdd⟩ := HA8.out.st
        obtain ⟨c0, c1, c2, c3, c4⟩ := h.cells
        obtain ⟨g, off, cap, t9, r9, rfl, hc, hg, hd2, t0, t1, t2⟩ := h.tok_
        have lb := h.lb
        have hlt := h.lt
        have hib : (0 : Int) ≤ (a : Int) ∧ (a : Int) < ((T.length : Nat) : Int) := by omega
        have hTl := h.tg.len
        obtain ⟨LT, hL⟩ : ∃ LT, T.length = LT := ⟨_, rfl⟩
        have hAL : (a : Int) ≤ 500 := by omega
        have HDA := hide h
        have HDD := hide (And.intro hd hdd)
        have hZ := hd.symm.trans hd2
        injection hZ with hZ1 hZ2
        subst hZ1 hZ2
        rw [hL] at c0 hib hc hTl
        have z1 := Blk.frozen h.blk 1
        clear h hd hdd hd2 hL hlt
        have hnx := DIs.next HDA.out HDD.out.1 HDD.out.2 rfl (show tk ≠ 4 by rw [HK1.out]; decide)
        have HA9 := hide (HA8.out.step (only_setCell (only_refl wc (some rb)) (p := ⟨rb, 1, none⟩) (.inl rfl) (.int .i64 ((a : Int) + 1))) hnx)
        clear hnx
        go_wp2_with fail
        go_roundg (gk - 1)
        case rel => exact ⟨f0, S2, D2, _, rr, _, _, _, HRY.out, by have := HLN.out; simp only [List.length_cons] at this; omega, by have := HLN.out; simp only [List.length_cons] at this; omega, by have := HLN.out; have := HLX.out; simp only [List.length_cons, List.length_append] at *; omega, HA9.out⟩
        case measure => have := HLN.out; simp only [List.length_cons] at this; omega
end Go.Proofs.Ytgpfjcogaheopaa
