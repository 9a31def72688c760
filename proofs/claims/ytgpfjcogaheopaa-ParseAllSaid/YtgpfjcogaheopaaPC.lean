/- What a script's reader holds in memory; the frame of the parser's calls. -/
import Derived.Test.YtgpfjcogaheopaaPB
import Derived.Test.YtgpfjcogaheopaaXL
set_option linter.all false
namespace Go.Proofs.Ytgpfjcogaheopaa
open Go.RowKit Lx
set_option maxRecDepth 100000
def StrS (w : World) (v : Value) (l : List (List UInt8)) : Prop := Own w 9 1 v l.length (l.map sv) 0
def IntS (w : World) (v : Value) (l : List Int) : Prop := Own w 3 1 v l.length (l.map (Value.int .i64)) 0
def Rd.cells (r : Rd) : List Value := [.int .i64 r.fd, sv r.op, sv r.wd]
def RdS (w : World) (v : Value) (l : List Rd) : Prop := Own w 44 3 v l.length (l.flatMap Rd.cells) 0
/-- A value that lies in none of these blocks. -/
def Av (av : Nat → Prop) (v : Value) : Prop := ∀ b, v.ownBlock = some b → ¬ av b
def PatS (av : Nat → Prop) (w : World) (v : Value) (l : List (List (List UInt8))) : Prop := ∃ cs, Own w 28 1 v l.length cs 0 ∧ Av av v ∧ ∀ i (h : i < l.length), ∃ u, cs[i]? = some u ∧ StrS w u l[i] ∧ Av av u
/-- The eight cells of a node, whose slices lie in none of these blocks. -/
structure NdAt (av : Nat → Prop) (w : World) (a b r p k : Value) (n : Nd) : Prop where
 sets : StrS w a n.sets
 words : StrS w b n.words
 rds : RdS w r n.redirs
 pats : PatS av w p n.pats
 kids : IntS w k n.kids
 ha : Av av a
 hb : Av av b
 hr : Av av r
 hk : Av av k
def ndCells (n : Nd) (a b r p k : Value) : List Value := [.int .i64 n.kind, sv n.name, .bool n.inn, a, b, r, p, k]
def NdS (av : Nat → Prop) (w : World) (v : Value) (ns : List Nd) : Prop := ∃ cs, Own w 33 8 v ns.length cs 0 ∧ ∀ i (h : i < ns.length), ∃ a b r p k, (cs.drop (i * 8)).take 8 = ndCells ns[i] a b r p k ∧ NdAt av w a b r p k ns[i]
/-! ### the frame: of the blocks from base on, the readers' and the nodes' may change -/
def HasT (w : World) (k : Nat) (t : TypeId) : Prop := ∃ cs fz, w.heap[k]? = some (.cells cs t fz)
def FrS (base : Nat → Prop) (w : World) (k : Nat) : Prop := base k ∧ (HasT w k 54 ∨ HasT w k 33)
def Fr (base : Nat → Prop) (w w' : World) : Prop := Chg (FrS base w) w w'
section
variable {av : Nat → Prop} {base : Nat → Prop} {w w' a b c : World}
theorem Fr.refl (base : Nat → Prop) (w : World) : Fr base w w := Chg.refl _ w
theorem Fr.of_grown (h : a.grownBy b none) : Fr base a b := Chg.of_grown h (fun k hk => by cases hk)
theorem HasT.uniq {k : Nat} {s t : TypeId} (h : HasT w k s) (g : HasT w k t) : s = t := by
 obtain ⟨c1, f1, h⟩ := h
 obtain ⟨c2, f2, g⟩ := g
 rw [h] at g
 injection g with g
 injection g with _ g _
theorem Fr.trans (h : Fr base a b) (g : Fr base b c) : Fr base a c :=
 Chg.trans h g fun i hi hT => by
  apply Classical.byContradiction
  intro hn
  refine hn ⟨hT.1, ?_⟩
  have hb := Chg.block h i hi hn
  rcases hT.2 with ⟨cs, fz, e⟩ | ⟨cs, fz, e⟩
  ·exact .inl ⟨cs, fz, by rw [← hb]; exact e⟩
  ·exact .inr ⟨cs, fz, by rw [← hb]; exact e⟩
theorem Fr.size (h : Fr base a b) : a.heap.size ≤ b.heap.size := Chg.size h
theorem Own.hasT {e : TypeId} {s n k : Nat} {v : Value} {xs : List Value} (h : Own w e s v n xs k) {g : Nat} (hg : v.ownBlock = some g) : HasT w g e := by
 rcases h.2 with ⟨rfl, _⟩ | ⟨g', off, cap, cur, fz, rfl, hb, _⟩
 ·simp [Value.ownBlock] at hg
 ·simp [Value.ownBlock] at hg
  subst hg
  exact ⟨cur, fz, hb⟩
theorem Blk.hasT {g : Nat} {t : TypeId} {cs : Array Value} (h : Blk w g t cs) : HasT w g t := ⟨cs, (0, 0), h⟩
theorem Fr.own (h : Fr base a b) {e : TypeId} {s n k : Nat} {v : Value} {xs : List Value} (ho : Own a e s v n xs k) (h1 : e ≠ 54) (h2 : e ≠ 33) : Own b e s v n xs k :=
 ho.chg h fun _g hg hS => hS.2.elim (fun x => h1 ((ho.hasT hg).uniq x)) (fun x => h2 ((ho.hasT hg).uniq x))
theorem Fr.blk (h : Fr base a b) {g : Nat} {t : TypeId} {cs : Array Value} (hb : Blk a g t cs) (h1 : t ≠ 54) (h2 : t ≠ 33) : Blk b g t cs :=
 Blk.chg hb h fun hS => hS.2.elim (fun x => h1 (hb.hasT.uniq x)) (fun x => h2 (hb.hasT.uniq x))
theorem Fr.low (h : Fr base a b) {g : Nat} {t : TypeId} {cs : Array Value} (hb : Blk a g t cs) (h1 : ¬ base g) : Blk b g t cs :=
 Blk.chg hb h fun hS => h1 hS.1
theorem Fr.set (h : Fr base a b) {p : Addr} (hp : base p.block) (ht : HasT b p.block 54 ∨ HasT b p.block 33) (u : Value) : Fr base a (b.setCell p u) :=
 h.trans (Chg.setCell (Chg.refl _ b) (.inl ⟨hp, ht⟩) u)
theorem Fr.new (h : Fr base a b) {p : Addr} (hp : a.heap.size ≤ p.block) (u : Value) : Fr base a (b.setCell p u) := Chg.setCell h (.inr hp) u
theorem Fr.alloc (h : Fr base a b) (o : Obj) : Fr base a (b.alloc o) := Chg.alloc h o
theorem StrS.fr (h : Fr base a b) {v : Value} {l : List (List UInt8)} (ho : StrS a v l) : StrS b v l := h.own ho (by decide) (by decide)
theorem IntS.fr (h : Fr base a b) {v : Value} {l : List Int} (ho : IntS a v l) : IntS b v l := h.own ho (by decide) (by decide)
theorem RdS.fr (h : Fr base a b) {v : Value} {l : List Rd} (ho : RdS a v l) : RdS b v l := h.own ho (by decide) (by decide)
theorem PatS.fr (h : Fr base a b) {v : Value} {l : List (List (List UInt8))} (ho : PatS av a v l) : PatS av b v l := by
 obtain ⟨cs, h1, h3, h2⟩ := ho
 exact ⟨cs, h.own h1 (by decide) (by decide), h3, fun i hi => by obtain ⟨u, hu, hs, hv⟩ := h2 i hi; exact ⟨u, hu, hs.fr h, hv⟩⟩
theorem NdAt.fr (h : Fr base a b) {x y r p k : Value} {n : Nd} (ho : NdAt av a x y r p k n) : NdAt av b x y r p k n := ⟨ho.sets.fr h, ho.words.fr h, ho.rds.fr h, ho.pats.fr h, ho.kids.fr h, ho.ha, ho.hb, ho.hr, ho.hk⟩
/-- Only blocks that are avoided change. -/
theorem own_av {S : Nat → Prop} (h : Chg S a b) (hS : ∀ k, S k → av k) {e : TypeId} {s n k : Nat} {v : Value} {xs : List Value} (ho : Own a e s v n xs k) (hv : Av av v) : Own b e s v n xs k := ho.chg h fun g hg hs => hv g hg (hS g hs)
theorem NdAt.chg {S : Nat → Prop} (h : Chg S a b) (hS : ∀ k, S k → av k) {x y r p k : Value} {n : Nd} (ho : NdAt av a x y r p k n) : NdAt av b x y r p k n := by
 refine ⟨own_av h hS ho.sets ho.ha, own_av h hS ho.words ho.hb, own_av h hS ho.rds ho.hr, ?_, own_av h hS ho.kids ho.hk, ho.ha, ho.hb, ho.hr, ho.hk⟩
 obtain ⟨cs, h1, h3, h2⟩ := ho.pats
 exact ⟨cs, own_av h hS h1 h3, h3, fun i hi => by obtain ⟨u, hu, hs, hv⟩ := h2 i hi; exact ⟨u, hu, own_av h hS hs hv, hv⟩⟩
theorem Av.mono {av2 : Nat → Prop} (h : ∀ k, av2 k → av k) {v : Value} (hv : Av av v) : Av av2 v := fun b hb hk => hv b hb (h b hk)
theorem NdAt.mono {av2 : Nat → Prop} (h : ∀ k, av2 k → av k) {x y r p k : Value} {n : Nd} (ho : NdAt av a x y r p k n) : NdAt av2 a x y r p k n := by
 refine ⟨ho.sets, ho.words, ho.rds, ?_, ho.kids, ho.ha.mono h, ho.hb.mono h, ho.hr.mono h, ho.hk.mono h⟩
 obtain ⟨cs, h1, h3, h2⟩ := ho.pats
 exact ⟨cs, h1, h3.mono h, fun i hi => by obtain ⟨u, hu, hs, hv⟩ := h2 i hi; exact ⟨u, hu, hs, hv.mono h⟩⟩
/-- New blocks are avoided. -/
theorem Av.more {v : Value} (hv : Av av v) {e : TypeId} {s n k : Nat} {xs : List Value} (ho : Own a e s v n xs k) {S : Nat → Prop} (hS : ∀ k, S k → a.heap.size ≤ k) : Av (fun k => av k ∨ S k) v := fun b hb hk => by
 rcases hk with hk | hk
 ·exact hv b hb hk
 ·have h1 := ho.lt hb
  have h2 := hS b hk
  omega
theorem NdAt.more {x y r p k : Value} {n : Nd} (ho : NdAt av a x y r p k n) {S : Nat → Prop} (hS : ∀ k, S k → a.heap.size ≤ k) : NdAt (fun k => av k ∨ S k) a x y r p k n := by
 refine ⟨ho.sets, ho.words, ho.rds, ?_, ho.kids, ho.ha.more ho.sets hS, ho.hb.more ho.words hS, ho.hr.more ho.rds hS, ho.hk.more ho.kids hS⟩
 obtain ⟨cs, h1, h3, h2⟩ := ho.pats
 exact ⟨cs, h1, h3.more h1 hS, fun i hi => by obtain ⟨u, hu, hs, hv⟩ := h2 i hi; exact ⟨u, hu, hs, hv.more hs hS⟩⟩
theorem NdS.mono {av2 : Nat → Prop} (h : ∀ k, av2 k → av k) {v : Value} {ns : List Nd} (ho : NdS av a v ns) : NdS av2 a v ns := by
 obtain ⟨cs, h1, h2⟩ := ho
 exact ⟨cs, h1, fun i hi => by obtain ⟨x, y, r, p, k, e, hn⟩ := h2 i hi; exact ⟨x, y, r, p, k, e, hn.mono h⟩⟩
theorem NdS.more {v : Value} {ns : List Nd} (ho : NdS av a v ns) {S : Nat → Prop} (hS : ∀ k, S k → a.heap.size ≤ k) : NdS (fun k => av k ∨ S k) a v ns := by
 obtain ⟨cs, h1, h2⟩ := ho
 exact ⟨cs, h1, fun i hi => by obtain ⟨x, y, r, p, k, e, hn⟩ := h2 i hi; exact ⟨x, y, r, p, k, e, hn.more hS⟩⟩
theorem old_own (hg : a.grownBy b none) {e : TypeId} {s n k : Nat} {v : Value} {xs : List Value} (h : Own a e s v n xs k) : Own b e s v n xs k := h.chg (Chg.of_grown hg (fun k hk => by cases hk) : Chg nobody a b) (fun _ _ h => h)
theorem NdS.grown (hg : a.grownBy b none) {v : Value} {ns : List Nd} (h : NdS av a v ns) : NdS av b v ns := by
 obtain ⟨cs, h1, h2⟩ := h
 exact ⟨cs, old_own hg h1, fun i hi => by obtain ⟨x, y, r, p, k, e, hn⟩ := h2 i hi; exact ⟨x, y, r, p, k, e, hn.fr (base := fun _ => False) (Fr.of_grown hg)⟩⟩
theorem NdS.nil (av : Nat → Prop) (w : World) : NdS av w (.slice none 0 0) [] := ⟨[], Own.nil _ _ _ _, fun i h => absurd h (by simp)⟩
theorem old_cell {o : Nat} {g : Nat} {v : Value} (hg : w.grownBy w' none) (hb : g < w.heap.size) (hc : w.cell? ⟨g, o, none⟩ = some v) : w'.cell? ⟨g, o, none⟩ = some v :=
 (World.cell?_of_block (hg.block g hb (by simp))).trans hc
end
/-! ### the reader -/
def TokOk (t : Tok) : Prop := t.t.length ≤ 4096 ∧ (t.k = 3 → ∃ c, t.t = [c] ∧ 48 ≤ c.toNat ∧ c.toNat ≤ 57)
/-- The blocks that a call may change: the reader's, and all new ones. -/
structure Lo (base : Nat → Prop) (w : World) (rb : Nat) : Prop where
 at_ : base rb
 up : ∀ k, w.heap.size ≤ k → base k
theorem Lo.size {base : Nat → Prop} {w w' : World} {rb : Nat} (h : Lo base w rb) (hs : w.heap.size ≤ w'.heap.size) : Lo base w' rb := ⟨h.at_, fun k hk => h.up k (Nat.le_trans hs hk)⟩
structure RAt (av : Nat → Prop) (base : Nat → Prop) (w : World) (rb : Nat) (vt vn : Value) (ts : List Tok) (ns : List Nd) (d : Nat) : Prop where
 blk : Blk w rb 54 #[vt, vn, .int .i64 d]
 tok : Own w 41 3 vt ts.length (tcs ts) 0
 nds : NdS av w vn ns
 new : ∀ b, vn.ownBlock = some b → base b
 lo : Lo base w rb
 good : Good ts
 few : ns.length + 10 * ts.length ≤ 100000
 dep : d ≤ 26
 txt : ∀ t ∈ ts, TokOk t
section
variable {av : Nat → Prop} {base : Nat → Prop} {rb d : Nat} {w w' : World} {vt vn : Value} {ts : List Tok} {ns : List Nd}
theorem RAt.grown (h : RAt av base w rb vt vn ts ns d) (hg : w.grownBy w' none) : RAt av base w' rb vt vn ts ns d :=
 ⟨Blk.grown h.blk hg (by simp), old_own hg h.tok, h.nds.grown hg, h.new, h.lo.size hg.size, h.good, h.few, h.dep, h.txt⟩
theorem RAt.cells (h : RAt av base w rb vt vn ts ns d) : w.cell? ⟨rb, 0, none⟩ = some vt ∧ w.cell? ⟨rb, 1, none⟩ = some vn ∧ w.cell? ⟨rb, 2, none⟩ = some (.int .i64 d) := ⟨Blk.cell h.blk 0, Blk.cell h.blk 1, Blk.cell h.blk 2⟩
theorem toks_at {v : Value} {T : List Tok} (h : Own w 41 3 v T.length (tcs T) 0) (hp : 0 < T.length) : ∃ g off cap, v = .slice (some ⟨g, off, none⟩) T.length cap ∧ T.length ≤ cap ∧ g < w.heap.size ∧ ∀ i (hi : i < T.length), w.cell? ⟨g, off + i * 3, none⟩ = some (.int .i64 (T[i]).k) ∧ w.cell? ⟨g, off + i * 3 + 1, none⟩ = some (.string ⟨(T[i]).t.toArray⟩) ∧ w.cell? ⟨g, off + i * 3 + 2, none⟩ = some (.int .i64 (T[i]).a) := by
 obtain ⟨g, off, cap, rfl, hc, _, hg, hcs⟩ := h.some_ hp
 refine ⟨g, off, cap, rfl, hc, hg, fun i hi => ⟨?_, ?_, ?_⟩⟩
 ·have := hcs (i * 3) (by omega)
  rw [this, show i * 3 = i * 3 + 0 from rfl, tcs_get T i 0 hi (by omega)]; rfl
 ·have := hcs (i * 3 + 1) (by omega)
  rw [Nat.add_assoc, this, tcs_get T i 1 hi (by omega)]; rfl
 ·have := hcs (i * 3 + 2) (by omega)
  rw [Nat.add_assoc, this, tcs_get T i 2 hi (by omega)]; rfl
/-- The first token. -/
theorem RAt.head (h : RAt av base w rb vt vn ts ns d) : ∃ t r g off cap, ts = t :: r ∧ vt = .slice (some ⟨g, off, none⟩) ts.length cap ∧ ts.length ≤ cap ∧ g < w.heap.size ∧ w.cell? ⟨g, off, none⟩ = some (.int .i64 t.k) ∧ w.cell? ⟨g, off + 1, none⟩ = some (.string ⟨t.t.toArray⟩) ∧ w.cell? ⟨g, off + 2, none⟩ = some (.int .i64 t.a) := by
 obtain ⟨t, r, rfl⟩ := h.good.ne
 obtain ⟨g, off, cap, rfl, hc, hg, hcs⟩ := toks_at h.tok (by simp)
 have h0 := hcs 0 (by simp)
 rw [Nat.zero_mul, Nat.add_zero] at h0
 exact ⟨t, r, g, off, cap, rfl, rfl, hc, hg, h0⟩
end
def RIs (av : Nat → Prop) (base : Nat → Prop) (w : World) (rb : Nat) (ts : List Tok) (ns : List Nd) (d : Nat) : Prop := ∃ vt vn, RAt av base w rb vt vn ts ns d
def pfault (a k : Int) : PanicEntry := { v := .iface 56 (.agg #[.int .i64 a, .int .i64 k]), recovered := false }
/-- What a call of a reader's answers. -/
def GPost {α : Type} (val : World → α → Value → Prop) (av : Nat → Prop) (base : Nat → Prop) (w : World) (rb d : Nat) : PR α → Ending → World → Prop
 | .ok x ts ns, e, w' => ∃ v, e = .returned v ∧ val w' x v ∧ RIs av base w' rb ts ns d ∧ Fr base w w'
 | .bad a k, e, w' => e = .panicked [pfault a k] ∧ Fr base w w'
/-- The same of a call that takes tokens alone: the nodes stay where they are. -/
def TIs (av : Nat → Prop) (base : Nat → Prop) (w : World) (rb : Nat) (vn : Value) (ts : List Tok) (ns : List Nd) (d : Nat) : Prop := ∃ vt, RAt av base w rb vt vn ts ns d
def TPost {α : Type} (val : World → α → Value → Prop) (av : Nat → Prop) (base : Nat → Prop) (w : World) (rb : Nat) (vn : Value) (d : Nat) : PR α → Ending → World → Prop
 | .ok x ts ns, e, w' => ∃ v, e = .returned v ∧ val w' x v ∧ TIs av base w' rb vn ts ns d ∧ w.grownBy w' (some rb)
 | .bad a k, e, w' => e = .panicked [pfault a k] ∧ w.grownBy w' (some rb)
section
variable {av : Nat → Prop} {base : Nat → Prop} {rb d : Nat} {w w' : World} {vt vn : Value} {ts : List Tok} {ns : List Nd}
theorem RAt.fr_rb (h : RAt av base w rb vt vn ts ns d) (hg : w.grownBy w' (some rb)) : Fr base w w' :=
 Chg.of_grown hg fun k hk => by
  injection hk with hk
  subst hk
  exact ⟨h.lo.at_, .inl h.blk.hasT⟩
theorem TPost.g {α : Type} {val : World → α → Value → Prop} {r : PR α} {e : Ending} (h : RAt av base w rb vt vn ts ns d) (hp : TPost val av base w rb vn d r e w') : GPost val av base w rb d r e w' := by
 cases r with
 | ok x ts2 ns2 =>
  obtain ⟨v, h1, h2, ⟨vt2, h3⟩, h4⟩ := hp
  exact ⟨v, h1, h2, ⟨vt2, vn, h3⟩, h.fr_rb h4⟩
 | bad a k => exact ⟨hp.1, h.fr_rb hp.2⟩
theorem RAt.mono {av2 : Nat → Prop} (hm : ∀ k, av2 k → av k) (h : RAt av base w rb vt vn ts ns d) : RAt av2 base w rb vt vn ts ns d :=
 ⟨h.blk, h.tok, h.nds.mono hm, h.new, h.lo, h.good, h.few, h.dep, h.txt⟩
theorem RAt.bmono {base2 : Nat → Prop} (hm : ∀ k, base k → base2 k) (h : RAt av base w rb vt vn ts ns d) : RAt av base2 w rb vt vn ts ns d :=
 ⟨h.blk, h.tok, h.nds, fun b hb => hm b (h.new b hb), ⟨hm _ h.lo.at_, fun k hk => hm k (h.lo.up k hk)⟩, h.good, h.few, h.dep, h.txt⟩
theorem Fr.bmono {base2 : Nat → Prop} {a b : World} (hm : ∀ k, base k → base2 k) (h : Fr base a b) : Fr base2 a b := Chg.mono h fun _ _ hS => ⟨hm _ hS.1, hS.2⟩
theorem RAt.more (h : RAt av base w rb vt vn ts ns d) {S : Nat → Prop} (hS : ∀ k, S k → w.heap.size ≤ k) : RAt (fun k => av k ∨ S k) base w rb vt vn ts ns d :=
 ⟨h.blk, h.tok, h.nds.more hS, h.new, h.lo, h.good, h.few, h.dep, h.txt⟩
/-- Blocks of other types that are avoided change. -/
theorem RAt.chg (h : RAt av base w rb vt vn ts ns d) {S : Nat → Prop} (hc : Chg S w w') (hS : ∀ k, S k → av k) (hT : ∀ k, S k → ¬ HasT w k 54 ∧ ¬ HasT w k 41 ∧ ¬ HasT w k 33) : RAt av base w' rb vt vn ts ns d := by
 refine ⟨Blk.chg h.blk hc (fun e => (hT _ e).1 h.blk.hasT), h.tok.chg hc (fun g hg e => (hT _ e).2.1 (h.tok.hasT hg)), ?_, h.new, h.lo.size (Chg.size hc), h.good, h.few, h.dep, h.txt⟩
 obtain ⟨cs, h1, h2⟩ := h.nds
 exact ⟨cs, h1.chg hc (fun g hg e => (hT _ e).2.2 (h1.hasT hg)), fun i hi => by obtain ⟨x, y, r, p, k, e, hn⟩ := h2 i hi; exact ⟨x, y, r, p, k, e, hn.chg hc hS⟩⟩
/-- Behind calls that take tokens alone, and stores to new blocks: the nodes of the start. -/
theorem RAt.back {w2 : World} {vt2 : Value} {ts2 : List Tok} (h : RAt av base w rb vt vn ts ns d) (hg : w.grownBy w2 (some rb)) (hb : Blk w2 rb 54 #[vt2, vn, .int .i64 d]) (ht : Own w2 41 3 vt2 ts2.length (tcs ts2) 0) (hgd : Good ts2) (hf : ns.length + 10 * ts2.length ≤ 100000) (htx : ∀ t ∈ ts2, TokOk t) : RAt av base w2 rb vt2 vn ts2 ns d := by
 refine ⟨hb, ht, ?_, h.new, h.lo.size hg.size, hgd, hf, h.dep, htx⟩
 obtain ⟨cs, h1, h2⟩ := h.nds
 have hc : Chg (fun k => k = rb) w w2 := Chg.of_grown hg (fun k hk => by injection hk with hk; exact hk.symm)
 refine ⟨cs, h1.chg hc (fun g hgg e => ?_), fun i hi => by obtain ⟨x, y, r, p, k, e, hn⟩ := h2 i hi; exact ⟨x, y, r, p, k, e, hn.fr (h.fr_rb hg)⟩⟩
 have := (h1.hasT hgg).uniq (e ▸ h.blk.hasT)
 exact absurd this (by decide)
end
def vInt : World → Int → Value → Prop := fun _ x v => v = .int .i64 x
def vUnit : World → Unit → Value → Prop := fun _ _ v => v = .tuple #[]
def vStr : World → List UInt8 → Value → Prop := fun _ s v => v = sv s
def vRds : World → List Rd → Value → Prop := fun w l v => RdS w v l
def vNode (av : Nat → Prop) : World → Nd → Value → Prop := fun w n v => ∃ a b r p k, v = .agg (ndCells n a b r p k).toArray ∧ NdAt av w a b r p k n
end Go.Proofs.Ytgpfjcogaheopaa
