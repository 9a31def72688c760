/- What stands behind a case: what holds on the way. -/
import Derived.Test.YtgpfjcogaheopaaPR
import Derived.Test.YtgpfjcogaheopaaMK
set_option linter.all false
namespace Go.Proofs.Ytgpfjcogaheopaa
open Go.RowKit Lx
set_option maxRecDepth 100000
section
variable {av : Nat → Prop} {base : Nat → Prop} {rb d : Nat} {w W W' wA : World} {v vA : Value} {T T' : List Tok} {ns ns' : List Nd} {ss : List (List UInt8)}
theorem sign_g (s : List UInt8) (h : RIs av base W rb T ns d) : Calls Try.prog 38 #[.pointer (some ⟨rb, 0, none⟩), sv s] W fun e w' => e = .returned (.bool (sgnB T s)) ∧ W.grownBy w' none := by
 obtain ⟨vt, vn, h⟩ := h
 exact sign_any av base rb d vt vn T ns s W h
theorem word_g (s : List UInt8) (h : RIs av base W rb T ns d) : Calls Try.prog 55 #[.pointer (some ⟨rb, 0, none⟩), sv s] W fun e w' => e = .returned (.bool (wrdB T s)) ∧ W.grownBy w' none := by
 obtain ⟨vt, vn, h⟩ := h
 exact word_any av base rb d vt vn T ns s W h
theorem any_g (h : RIs av base W rb T ns d) : Calls Try.prog 96 #[.pointer (some ⟨rb, 0, none⟩)] W (GPost vStr av base W rb d (anyR T ns)) := by
 obtain ⟨vt, vn, h⟩ := h
 exact (anyw_any av base rb d vn T ns W ⟨vt, h⟩).mono fun e w' hp => TPost.g h hp
/-- Texts of one's own under way. -/
structure SdAt (av : Nat → Prop) (base : Nat → Prop) (w W : World) (rb : Nat) (T : List Tok) (ns : List Nd) (d : Nat) (v : Value) (ss : List (List UInt8)) : Prop where
 r : RIs (fun k => av k ∨ v.ownBlock = some k) base W rb T ns d
 own : StrS W v ss
 new : ∀ b, v.ownBlock = some b → w.heap.size ≤ b
 fr : Fr base w W
theorem strs_app (h : RIs (fun k => av k ∨ v.ownBlock = some k) base W rb T ns d) (hk : StrS W v ss) (o : Obj) (hc : Chg (fun b => v.ownBlock = some b) (W.alloc o) wA) (hn : ∀ b, vA.ownBlock = some b → v.ownBlock = some b ∨ (W.alloc o).heap.size ≤ b) : RIs (fun k => av k ∨ vA.ownBlock = some k) base wA rb T ns d := by
 obtain ⟨vt, vn, h⟩ := h
 have h1 := (h.grown (only_alloc (only_refl W none) o)).more (S := fun k => (W.alloc o).heap.size ≤ k) (fun _ h => h)
 have h3 : ∀ k, v.ownBlock = some k → HasT (W.alloc o) k 9 := fun k e => Own.hasT (Own.alloc hk o) e
 have h2 := h1.chg hc (fun k hk => .inl (.inr hk)) (fun k e => ⟨fun x => absurd ((h3 k e).uniq x) (by decide), fun x => absurd ((h3 k e).uniq x) (by decide), fun x => absurd ((h3 k e).uniq x) (by decide)⟩)
 refine ⟨vt, vn, h2.mono fun k hk => ?_⟩
 rcases hk with hk | hk
 ·exact .inl (.inl hk)
 ·rcases hn k hk with e | e
  ·exact .inl (.inr e)
  ·exact .inr e
theorem SdAt.step (h : SdAt av base w W rb T ns d v ss) (hr : RIs (fun k => av k ∨ v.ownBlock = some k) base W' rb T' ns' d) (hf : Fr base W W') : SdAt av base w W' rb T' ns' d v ss := ⟨hr, StrS.fr hf h.own, h.new, h.fr.trans hf⟩
theorem SdAt.grown (h : SdAt av base w W rb T ns d v ss) (hg : W.grownBy W' none) : SdAt av base w W' rb T ns d v ss := h.step (h.r.grown hg) (Fr.of_grown hg)
theorem SdAt.lt_ (h : SdAt av base w W rb T ns d v ss) (ha : ∀ k, av k → k < w.heap.size) : ∀ k, (av k ∨ v.ownBlock = some k) → k < W.heap.size := fun k hk => by
 rcases hk with hk | hk
 ·exact Nat.lt_of_lt_of_le (ha k hk) h.fr.size
 ·exact Own.lt h.own hk
theorem SdAt.app (h : SdAt av base w W rb T ns d v ss) (o : Obj) {y : List UInt8} (ho : Own wA 9 1 vA (ss.length + 1) (ss.map sv ++ [sv y]) 0) (hc : Chg (fun b => v.ownBlock = some b) (W.alloc o) wA) (hn : ∀ b, vA.ownBlock = some b → v.ownBlock = some b ∨ (W.alloc o).heap.size ≤ b) : SdAt av base w wA rb T ns d vA (ss ++ [y]) := by
 refine ⟨strs_app h.r h.own o hc hn, ?_, fun b hb => ?_, fr_app h.fr o hc h.new⟩
 ·unfold StrS
  rw [List.length_append, List.length_singleton, List.map_append]
  exact ho
 ·rcases hn b hb with e | e
  ·exact h.new b e
  ·rw [World.size_alloc] at e
   have := h.fr.size
   omega
theorem SdAt.first (h : RIs av base W rb T ns d) (hf : Fr base w W) (x : List UInt8) : SdAt av base w (W.alloc (.cells #[.string ⟨x.toArray⟩] 9)) rb T ns d (.slice (some ⟨W.heap.size, 0, none⟩) 1 1) [x] := by
 refine ⟨kids_new h _ _ _, ?_, fun b hb => ?_, hf.alloc _⟩
 ·exact ⟨rfl, .inr ⟨W.heap.size, 0, 1, _, (0, 0), rfl, Blk.new W 9 _, Nat.le_refl _, Nat.le_refl _, by unfold maxLen; omega, by show 0 + 1 * 1 ≤ 1; omega, fun j hj => (by (have hj1 : j < 1 := hj); (have h0 : j = 0 := by omega); subst h0; rfl)⟩⟩
 ·simp [Value.ownBlock] at hb
  have := hf.size
  omega
theorem SdAt.plain (h : SdAt av base w W rb T ns d v ss) : RIs av base W rb T ns d := h.r.mono fun _ hk => .inl hk
end
def cav (av : Nat → Prop) (vp vk : Value) : Nat → Prop := fun k => av k ∨ vp.ownBlock = some k ∨ vk.ownBlock = some k
structure CaseAt (av : Nat → Prop) (base : Nat → Prop) (w W : World) (rb : Nat) (T : List Tok) (ns : List Nd) (d A B : Nat) (s : List UInt8) (P : List (List (List UInt8))) (K : List Int) (vw vp vk : Value) : Prop where
 r : RIs (cav av vp vk) (Bx (Bx base A) B) W rb T ns d
 box : Blk W B 33 #[.int .i64 14, .string ⟨#[]⟩, .bool false, .slice none 0 0, vw, .slice none 0 0, vp, vk]
 res : Blk W A 33 #[.int .i64 0, .string ⟨#[]⟩, .bool false, .slice none 0 0, .slice none 0 0, .slice none 0 0, .slice none 0 0, .slice none 0 0]
 hA : w.heap.size ≤ A
 hB : w.heap.size ≤ B
 ne : A ≠ B
 words : StrS W vw [s]
 nw : ∀ k, vw.ownBlock = some k → w.heap.size ≤ k
 pats : PatS av W vp P
 np : ∀ k, vp.ownBlock = some k → w.heap.size ≤ k
 kids : IntS W vk K
 nk : ∀ k, vk.ownBlock = some k → w.heap.size ≤ k
 fr : Fr base w W
section
variable {av : Nat → Prop} {base : Nat → Prop} {rb d A B : Nat} {w W W' X : World} {vw vp vk v v5 : Value} {T T' : List Tok} {ns ns' : List Nd} {s : List UInt8} {P : List (List (List UInt8))} {K : List Int} {ss : List (List UInt8)}
theorem CaseAt.step (h : CaseAt av base w W rb T ns d A B s P K vw vp vk) (hr : RIs (cav av vp vk) (Bx (Bx base A) B) W' rb T' ns' d) (hf : Fr (Bx (Bx base A) B) W W') : CaseAt av base w W' rb T' ns' d A B s P K vw vp vk :=
 ⟨hr, hf.low h.box (fun e => e.2 rfl), hf.low h.res (fun e => e.1.2 rfl), h.hA, h.hB, h.ne, StrS.fr hf h.words, h.nw, PatS.fr hf h.pats, h.np, IntS.fr hf h.kids, h.nk, h.fr.trans hf.unbox.unbox⟩
theorem CaseAt.grown (h : CaseAt av base w W rb T ns d A B s P K vw vp vk) (hg : W.grownBy W' none) : CaseAt av base w W' rb T ns d A B s P K vw vp vk := h.step (h.r.grown hg) (Fr.of_grown hg)
theorem CaseAt.lt_ (h : CaseAt av base w W rb T ns d A B s P K vw vp vk) (ha : ∀ k, av k → k < w.heap.size) : ∀ k, cav av vp vk k → k < W.heap.size := fun k hk => by
 rcases hk with hk | hk | hk
 ·exact Nat.lt_of_lt_of_le (ha k hk) h.fr.size
 ·obtain ⟨cs, h1, _⟩ := h.pats
  exact Own.lt h1 hk
 ·exact Own.lt h.kids hk
theorem infoStrs : (Try.prog.info? 28).map (fun i => (i.zero, i.size, i.bytes)) = some (some (.slice none 0 0), 1, 24) := by kernel_rfl
theorem srcP {x : World} {b : Nat} {u : Value} (h : Blk x b 28 #[u]) (hu : u.oneCell' = true) : Src Try.prog 1 30 (.slice (some ⟨b, 0, none⟩) 1 1) 1 [u] x :=
 Own.src (P := Try.prog) (tx := 30) (e' := 28) (n := 1) (xs := [u]) (k := 0) (e := 28) ⟨rfl, .inr ⟨b, 0, 1, _, (0, 0), rfl, h, Nat.le_refl _, Nat.le_refl _, by unfold maxLen; omega, by show 0 + 1 * 1 ≤ 1; omega, fun j hj => (by (have h0 : j = 0 := by omega); subst h0; rfl)⟩⟩ (by kernel_rfl) (by intro y hy; simp at hy; subst hy; exact hu)
theorem srcI2 {x : World} {b : Nat} {y : Int} (h : Blk x b 3 #[.int .i64 y]) : Src Try.prog 1 31 (.slice (some ⟨b, 0, none⟩) 1 1) 1 [.int .i64 y] x :=
 Own.src (P := Try.prog) (tx := 31) (e' := 3) (n := 1) (xs := [.int .i64 y]) (k := 0) (e := 3) ⟨rfl, .inr ⟨b, 0, 1, _, (0, 0), rfl, h, Nat.le_refl _, Nat.le_refl _, by unfold maxLen; omega, by show 0 + 1 * 1 ≤ 1; omega, fun j hj => (by (have h0 : j = 0 := by omega); subst h0; rfl)⟩⟩ (by kernel_rfl) (by intro u hu; simp at hu; subst hu; rfl)
/-- A slice of ours on its way: as it was, or with one more. -/
structure Half (e : TypeId) (W X : World) (v0 v : Value) (n : Nat) (xs : List Value) : Prop where
 own : Own X e 1 v n xs 0
 new : ∀ k, v.ownBlock = some k → v0.ownBlock = some k ∨ W.heap.size ≤ k
variable {a b c : World} {p q : Value} {n m : Nat} {xs ys : List Value} {e : TypeId}
theorem Half.alloc (h : Half e W X v q n xs) (o : Obj) : Half e W (X.alloc o) v q n xs := ⟨h.own.alloc o, h.new⟩
theorem Half.app (h : Half e W X v q n xs) (hs : W.heap.size ≤ X.heap.size) {qA : Value} {c : World} (ho : Own c e 1 qA m ys 0) (hn : ∀ k, qA.ownBlock = some k → q.ownBlock = some k ∨ X.heap.size ≤ k) : Half e W c v qA m ys :=
 ⟨ho, fun k hk => by
  rcases hn k hk with e | e
  ·exact h.new k e
  ·exact .inr (Nat.le_trans hs e)⟩
theorem Half.far {f : TypeId} {vA : Value} (h : Half e W X v q n xs) (g : Half f W X p vA m ys) (hef : e ≠ f) {c : World} (hc : Chg (fun k => vA.ownBlock = some k) X c) : Half e W c v q n xs :=
 ⟨h.own.chg hc fun _b hb e => absurd ((Own.hasT h.own hb).uniq (Own.hasT g.own e)) hef, h.new⟩
/-- What the two appends leave, in whatever order they come. -/
structure Mid (W X : World) (B : Nat) (vw vp vk p q : Value) (n : Nat) (xs : List Value) (m : Nat) (ys : List Value) : Prop where
 ch : Chg (fun k => vp.ownBlock = some k ∨ vk.ownBlock = some k) W X
 hp : Half 28 W X vp p n xs
 hk : Half 3 W X vk q m ys
 box : Blk X B 33 #[.int .i64 14, .string ⟨#[]⟩, .bool false, .slice none 0 0, vw, .slice none 0 0, vp, vk]
theorem Mid.alloc (h : Mid W X B vw vp vk p q n xs m ys) (o : Obj) : Mid W (X.alloc o) B vw vp vk p q n xs m ys := ⟨h.ch.alloc o, h.hp.alloc o, h.hk.alloc o, h.box.alloc o⟩
theorem Mid.appP (h : Mid W X B vw vp vk vp q n xs m ys) {c : World} {pA : Value} {n' : Nat} {xs' : List Value} (ho : Own c 28 1 pA n' xs' 0) (hc : Chg (fun k => vp.ownBlock = some k) X c) (hn : ∀ k, pA.ownBlock = some k → vp.ownBlock = some k ∨ X.heap.size ≤ k) : Mid W c B vw vp vk pA q n' xs' m ys :=
 ⟨Chg.trans h.ch hc fun i _ e => .inl e, h.hp.app h.ch.size ho hn, h.hk.far h.hp (by decide) hc, Blk.chg h.box hc (fun e => absurd ((Own.hasT h.hp.own e).uniq h.box.hasT) (by decide))⟩
theorem Mid.appK (h : Mid W X B vw vp vk p vk n xs m ys) {c : World} {qA : Value} {m' : Nat} {ys' : List Value} (ho : Own c 3 1 qA m' ys' 0) (hc : Chg (fun k => vk.ownBlock = some k) X c) (hn : ∀ k, qA.ownBlock = some k → vk.ownBlock = some k ∨ X.heap.size ≤ k) : Mid W c B vw vp vk p qA n xs m' ys' :=
 ⟨Chg.trans h.ch hc fun i _ e => .inr e, h.hp.far h.hk (by decide) hc, h.hk.app h.ch.size ho hn, Blk.chg h.box hc (fun e => absurd ((Own.hasT h.hk.own e).uniq h.box.hasT) (by decide))⟩
theorem Mid.keepI (h : Mid W X B vw vp vk vp q n xs m ys) {c : World} {b8 : Nat} {cs : Array Value} (hb : Blk X b8 3 cs) (hc : Chg (fun k => vp.ownBlock = some k) X c) : Blk c b8 3 cs := Blk.chg hb hc (fun e => absurd ((Own.hasT h.hp.own e).uniq hb.hasT) (by decide))
theorem CaseAt.fin (h : CaseAt av base w W rb T ns d A B s P K vw vp vk) (hav : ∀ k, av k → k < w.heap.size) {cs : List Value} (h1 : Own W 28 1 vp P.length cs 0) (h3 : ∀ i (h : i < P.length), ∃ u, cs[i]? = some u ∧ StrS W u P[i] ∧ Av av u) {y : Int} (m : Mid W X B vw vp vk p q (P.length + 1) (cs ++ [v5]) (K.length + 1) (K.map (Value.int .i64) ++ [.int .i64 y]))
  (h5 : StrS W v5 ss) (n5 : ∀ k, v5.ownBlock = some k → w.heap.size ≤ k) : CaseAt av base w ((X.setCell ⟨B, 6, none⟩ p).setCell ⟨B, 7, none⟩ q) rb T ns d A B s (P ++ [ss]) (K ++ [y]) vw p q := by
 have hsz : w.heap.size ≤ W.heap.size := h.fr.size
 have hTB := m.box.hasT
 have hTp : ∀ k, vp.ownBlock = some k → HasT W k 28 := fun k e => Own.hasT h1 e
 have hTk : ∀ k, vk.ownBlock = some k → HasT W k 3 := fun k e => Own.hasT h.kids e
 have s9 : ∀ {u : Value} {l : List (List UInt8)}, StrS W u l → StrS ((X.setCell ⟨B, 6, none⟩ p).setCell ⟨B, 7, none⟩ q) u l := fun {u l} hu => by
  have h2 : StrS X u l := Own.chg hu m.ch (fun g hg e => by
   rcases e with e | e
   ·exact absurd ((Own.hasT hu hg).uniq (hTp g e)) (by decide)
   ·exact absurd ((Own.hasT hu hg).uniq (hTk g e)) (by decide))
  have h4 : StrS (X.setCell ⟨B, 6, none⟩ p) u l := Own.far h2 (p := ⟨B, 6, none⟩) (fun e => absurd ((Own.hasT h2 e).uniq hTB) (by decide)) _
  have hT6 : HasT (X.setCell ⟨B, 6, none⟩ p) B 33 := (Blk.set_ m.box 6 p).hasT
  exact Own.far h4 (p := ⟨B, 7, none⟩) (fun e => absurd ((Own.hasT h4 e).uniq hT6) (by decide)) _
 have far2 : ∀ {e : TypeId} {u : Value} {n : Nat} {xs : List Value}, e ≠ 33 → Own X e 1 u n xs 0 → Own ((X.setCell ⟨B, 6, none⟩ p).setCell ⟨B, 7, none⟩ q) e 1 u n xs 0 := fun {e u n xs} he hu => by
  have h4 := Own.far hu (p := ⟨B, 6, none⟩) (fun e' => he ((Own.hasT hu e').uniq hTB)) p
  have hT6 : HasT (X.setCell ⟨B, 6, none⟩ p) B 33 := (Blk.set_ m.box 6 p).hasT
  exact Own.far h4 (p := ⟨B, 7, none⟩) (fun e' => he ((Own.hasT h4 e').uniq hT6)) q
 have hnp : ∀ k, p.ownBlock = some k → w.heap.size ≤ k := fun k hk => by
  rcases m.hp.new k hk with e | e
  ·exact h.np k e
  ·omega
 have hnk : ∀ k, q.ownBlock = some k → w.heap.size ≤ k := fun k hk => by
  rcases m.hk.new k hk with e | e
  ·exact h.nk k e
  ·omega
 have avn : ∀ {u : Value}, (∀ k, u.ownBlock = some k → w.heap.size ≤ k) → Av av u := fun hu b hb e => by have := hu b hb; have := hav b e; omega
 have hrX : RIs (cav av p q) (Bx (Bx base A) B) X rb T ns d := by
  obtain ⟨vt, vn, hr⟩ := h.r
  have h2 := (hr.more (S := fun k => W.heap.size ≤ k) (fun _ h => h)).chg m.ch (fun k e => by
   rcases e with e | e
   ·exact .inl (.inr (.inl e))
   ·exact .inl (.inr (.inr e))) (fun k e => by
   rcases e with e | e
   ·exact ⟨fun x => absurd ((hTp k e).uniq x) (by decide), fun x => absurd ((hTp k e).uniq x) (by decide), fun x => absurd ((hTp k e).uniq x) (by decide)⟩
   ·exact ⟨fun x => absurd ((hTk k e).uniq x) (by decide), fun x => absurd ((hTk k e).uniq x) (by decide), fun x => absurd ((hTk k e).uniq x) (by decide)⟩)
  refine ⟨vt, vn, h2.mono fun k hk => ?_⟩
  rcases hk with hk | hk | hk
  ·exact .inl (.inl hk)
  ·rcases m.hp.new k hk with e | e
   ·exact .inl (.inr (.inl e))
   ·exact .inr e
  ·rcases m.hk.new k hk with e | e
   ·exact .inl (.inr (.inr e))
   ·exact .inr e
 have hfX : Fr base w X := Chg.trans h.fr m.ch fun i hi hs => by
  rcases hs with e | e
  ·have := h.np i e; omega
  ·have := h.nk i e; omega
 have hres : Blk X A 33 #[.int .i64 0, .string ⟨#[]⟩, .bool false, .slice none 0 0, .slice none 0 0, .slice none 0 0, .slice none 0 0, .slice none 0 0] := Blk.chg h.res m.ch (fun e => by
  rcases e with e | e
  ·exact absurd ((hTp _ e).uniq h.res.hasT) (by decide)
  ·exact absurd ((hTk _ e).uniq h.res.hasT) (by decide))
 refine ⟨(hrX.farB (fun e => e.2 rfl) hTB 6 p).farB (fun e => e.2 rfl) (Blk.set_ m.box 6 p).hasT 7 q, Blk.set_ (Blk.set_ m.box 6 p) 7 q, Blk.far (Blk.far hres (p := ⟨B, 6, none⟩) h.ne _) (p := ⟨B, 7, none⟩) h.ne _, h.hA, h.hB, h.ne, s9 h.words, h.nw, ⟨cs ++ [v5], ?_, avn hnp, fun i hi => ?_⟩, hnp, ?_, hnk, Fr.newB (Fr.newB hfX h.hB 6 p) h.hB 7 q⟩
 ·rw [List.length_append, List.length_singleton]
  exact far2 (by decide) m.hp.own
 ·rw [List.length_append, List.length_singleton] at hi
  have hl := h1.len
  by_cases hin : i < P.length
  ·obtain ⟨u, hu, hs, ha⟩ := h3 i hin
   refine ⟨u, ?_, ?_, ha⟩
   ·rw [List.getElem?_append_left (by omega)]; exact hu
   ·rw [List.getElem_append_left hin]; exact s9 hs
  ·obtain rfl : i = P.length := by omega
   refine ⟨v5, ?_, ?_, avn n5⟩
   ·rw [List.getElem?_append_right (by omega), show P.length - cs.length = 0 by omega]; rfl
   ·rw [List.getElem_append_right (Nat.le_refl _)]; simpa using s9 h5
 ·unfold IntS
  rw [List.length_append, List.length_singleton, List.map_append]
  exact far2 (by decide) m.hk.own
end
end Go.Proofs.Ytgpfjcogaheopaa
