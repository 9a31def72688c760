/- A compound's core. -/
import Derived.Test.YtgpfjcogaheopaaPT
import Derived.Test.YtgpfjcogaheopaaPQ
import Derived.Maps.OwnOps
set_option linter.all false
namespace Go.Proofs.Ytgpfjcogaheopaa
open Go.RowKit Lx Go.Maps
set_option maxRecDepth 100000
/-- A node under way in its own block. -/
structure CoAt (av : Nat → Prop) (base : Nat → Prop) (w W : World) (rb : Nat) (T : List Tok) (ns : List Nd) (d B : Nat) (n : Nd) (a b r p k : Value) : Prop where
 ri : RIs (fun x => av x ∨ k.ownBlock = some x) (Bx base B) W rb T ns d
 box : Blk W B 33 #[.int .i64 n.kind, .string ⟨n.name.toArray⟩, .bool n.inn, a, b, r, p, k]
 hB : w.heap.size ≤ B
 nd : NdAt av W a b r p k n
 nk : ∀ x, k.ownBlock = some x → w.heap.size ≤ x
 fr : Fr base w W
section
variable {av : Nat → Prop} {base : Nat → Prop} {rb d B : Nat} {w W W' w5 : World} {T T' T5 : List Tok} {ns ns' n5 : List Nd} {n : Nd} {a b r p k : Value}
theorem CoAt.plain (h : CoAt av base w W rb T ns d B n a b r p k) : RIs av (Bx base B) W rb T ns d := h.ri.mono fun _ hk => .inl hk
theorem CoAt.step (h : CoAt av base w W rb T ns d B n a b r p k) (hr : RIs (fun x => av x ∨ k.ownBlock = some x) (Bx base B) W' rb T' ns' d) (hf : Fr (Bx base B) W W') : CoAt av base w W' rb T' ns' d B n a b r p k :=
 ⟨hr, hf.keep h.box, h.hB, h.nd.fr hf, h.nk, h.fr.trans hf.unbox⟩
theorem NdAt.farT {u : Value} (h : NdAt av W a b r p k n) (hT : HasT W B 33) (j : Nat) : NdAt av (W.setCell ⟨B, j, none⟩ u) a b r p k n := by
 have hc : Chg (fun i => i = B) W (W.setCell ⟨B, j, none⟩ u) := Chg.setCell (S := fun i => i = B) (Chg.refl _ W) (p := ⟨B, j, none⟩) (.inl rfl) u
 have hk : ∀ {e : TypeId} {s m : Nat} {x : Value} {xs : List Value}, e ≠ 33 → Own W e s x m xs 0 → Own (W.setCell ⟨B, j, none⟩ u) e s x m xs 0 := fun {e s m x xs} he ho => Own.chg ho hc (fun g hg e' => he ((Own.hasT ho hg).uniq (e' ▸ hT)))
 refine ⟨hk (by decide) h.sets, hk (by decide) h.words, hk (by decide) h.rds, ?_, hk (by decide) h.kids, h.ha, h.hb, h.hr, h.hk⟩
 obtain ⟨cs, h1, h2, h3⟩ := h.pats
 exact ⟨cs, hk (by decide) h1, h2, fun i hi => by obtain ⟨u, q1, q2, q3⟩ := h3 i hi; exact ⟨u, q1, hk (by decide) q2, q3⟩⟩
/-- Kids of one kid, newly made. -/
theorem kidsNd (hav : ∀ k, av k → k < w.heap.size) (hw : w.heap.size ≤ w5.heap.size) (x : Int) (kd : Int) : NdAt av (w5.alloc (.cells #[.int .i64 x] 3)) (.slice none 0 0) (.slice none 0 0) (.slice none 0 0) (.slice none 0 0) (.slice (some ⟨w5.heap.size, 0, none⟩) 1 1) { kind := kd, kids := [x] } :=
 ndKids (l := [x]) (by simp) (Blk.new w5 3 _) (fun k hk => Nat.lt_of_lt_of_le (hav k hk) hw) kd (by simp)
theorem CoAt.kids (hav : ∀ k, av k → k < w.heap.size) (hfw : Fr base w W) (hbx : Blk W B 33 #[.int .i64 0, .string ⟨#[]⟩, .bool false, .slice none 0 0, .slice none 0 0, .slice none 0 0, .slice none 0 0, .slice none 0 0]) (hB : w.heap.size ≤ B) (hr : RIs av (Bx base B) w5 rb T5 n5 d) (hf : Fr (Bx base B) W w5) (x kd : Int) :
  CoAt av base w (((w5.alloc (.cells #[.int .i64 x] 3)).setCell ⟨B, 0, none⟩ (.int .i64 kd)).setCell ⟨B, 7, none⟩ (.slice (some ⟨w5.heap.size, 0, none⟩) 1 1)) rb T5 n5 d B { kind := kd, kids := [x] } (.slice none 0 0) (.slice none 0 0) (.slice none 0 0) (.slice none 0 0) (.slice (some ⟨w5.heap.size, 0, none⟩) 1 1) := by
 have hb1 := (hf.keep hbx).alloc (.cells #[.int .i64 x] 3)
 have hb2 := Blk.set_ hb1 0 (.int .i64 kd)
 have hr1 := kids_new hr (.cells #[.int .i64 x] 3) 1 1
 have hsz : w.heap.size ≤ w5.heap.size := (hfw.trans hf.unbox).size
 refine ⟨(hr1.farB (fun e => e.2 rfl) hb1.hasT 0 _).farB (fun e => e.2 rfl) hb2.hasT 7 _, Blk.set_ hb2 7 _, hB, ?_, fun y hy => ?_, Fr.newB (Fr.newB ((hfw.trans hf.unbox).alloc _) hB 0 _) hB 7 _⟩
 ·exact ((kidsNd hav hsz x kd).farT hb1.hasT 0).farT hb2.hasT 7
 ·simp [Value.ownBlock] at hy
  omega
/-- The same, whose kids are not appended to. -/
structure CoBt (av : Nat → Prop) (base : Nat → Prop) (w W : World) (rb : Nat) (T : List Tok) (ns : List Nd) (d B : Nat) (n : Nd) (a b r p k : Value) : Prop where
 ri : RIs av (Bx base B) W rb T ns d
 box : Blk W B 33 #[.int .i64 n.kind, .string ⟨n.name.toArray⟩, .bool n.inn, a, b, r, p, k]
 hB : w.heap.size ≤ B
 nd : NdAt av W a b r p k n
 fr : Fr base w W
theorem CoBt.plain (h : CoBt av base w W rb T ns d B n a b r p k) : RIs av (Bx base B) W rb T ns d := h.ri
theorem CoBt.step (h : CoBt av base w W rb T ns d B n a b r p k) (hr : RIs av (Bx base B) W' rb T' ns' d) (hf : Fr (Bx base B) W W') : CoBt av base w W' rb T' ns' d B n a b r p k :=
 ⟨hr, hf.keep h.box, h.hB, h.nd.fr hf, h.fr.trans hf.unbox⟩
theorem NdAt.put8 (h : NdAt av W a b r p k n) (hb : Blk W B 33 #[.int .i64 0, .string ⟨#[]⟩, .bool false, .slice none 0 0, .slice none 0 0, .slice none 0 0, .slice none 0 0, .slice none 0 0]) (c0 c1 c2 c3 c4 c5 c6 c7 : Value) : NdAt av (put8 W B c0 c1 c2 c3 c4 c5 c6 c7) a b r p k n := by
 have b0 := Blk.set_ hb 0 c0
 have b1 := Blk.set_ b0 1 c1
 have b2 := Blk.set_ b1 2 c2
 have b3 := Blk.set_ b2 3 c3
 have b4 := Blk.set_ b3 4 c4
 have b5 := Blk.set_ b4 5 c5
 have b6 := Blk.set_ b5 6 c6
 exact (((((((h.farT hb.hasT 0).farT b0.hasT 1).farT b1.hasT 2).farT b2.hasT 3).farT b3.hasT 4).farT b4.hasT 5).farT b5.hasT 6).farT b6.hasT 7
theorem Blk.put8_ (hb : Blk W B 33 #[.int .i64 0, .string ⟨#[]⟩, .bool false, .slice none 0 0, .slice none 0 0, .slice none 0 0, .slice none 0 0, .slice none 0 0]) (c0 c1 c2 c3 c4 c5 c6 c7 : Value) : Blk (put8 W B c0 c1 c2 c3 c4 c5 c6 c7) B 33 #[c0, c1, c2, c3, c4, c5, c6, c7] := by
 have b0 : Blk _ B 33 #[c0, .string ⟨#[]⟩, .bool false, .slice none 0 0, .slice none 0 0, .slice none 0 0, .slice none 0 0, .slice none 0 0] := Blk.set_ hb 0 c0
 have b1 : Blk _ B 33 #[c0, c1, .bool false, .slice none 0 0, .slice none 0 0, .slice none 0 0, .slice none 0 0, .slice none 0 0] := Blk.set_ b0 1 c1
 have b2 : Blk _ B 33 #[c0, c1, c2, .slice none 0 0, .slice none 0 0, .slice none 0 0, .slice none 0 0, .slice none 0 0] := Blk.set_ b1 2 c2
 have b3 : Blk _ B 33 #[c0, c1, c2, c3, .slice none 0 0, .slice none 0 0, .slice none 0 0, .slice none 0 0] := Blk.set_ b2 3 c3
 have b4 : Blk _ B 33 #[c0, c1, c2, c3, c4, .slice none 0 0, .slice none 0 0, .slice none 0 0] := Blk.set_ b3 4 c4
 have b5 : Blk _ B 33 #[c0, c1, c2, c3, c4, c5, .slice none 0 0, .slice none 0 0] := Blk.set_ b4 5 c5
 have b6 : Blk _ B 33 #[c0, c1, c2, c3, c4, c5, c6, .slice none 0 0] := Blk.set_ b5 6 c6
 exact Blk.set_ b6 7 c7
theorem CoBt.all (hbx : Blk W B 33 #[.int .i64 0, .string ⟨#[]⟩, .bool false, .slice none 0 0, .slice none 0 0, .slice none 0 0, .slice none 0 0, .slice none 0 0]) (hB : w.heap.size ≤ B) (hr : RIs av (Bx base B) W rb T ns d) (hf : Fr base w W) (hn : NdAt av W a b r p k n) :
  CoBt av base w (put8 W B (.int .i64 n.kind) (.string ⟨n.name.toArray⟩) (.bool n.inn) a b r p k) rb T ns d B n a b r p k := by
 refine ⟨hr.put8 (fun e => e.2 rfl) hbx _ _ _ _ _ _ _ _, Blk.put8_ hbx _ _ _ _ _ _ _ _, hB, hn.put8 hbx _ _ _ _ _ _ _ _, ?_⟩
 exact Chg.trans hf (put8_chg W B _ _ _ _ _ _ _ _) fun i hi e => absurd hB (by subst e; omega)
theorem CoBt.kids (h : CoBt av base w W rb T ns d B n a b r p k) (hav : ∀ k, av k → k < w.heap.size) (x : Int) :
  CoBt av base w ((W.alloc (.cells #[.int .i64 x] 3)).setCell ⟨B, 7, none⟩ (.slice (some ⟨W.heap.size, 0, none⟩) 1 1)) rb T ns d B { n with kids := [x] } a b r p (.slice (some ⟨W.heap.size, 0, none⟩) 1 1) := by
 have hb1 := h.box.alloc (.cells #[.int .i64 x] 3)
 have hn1 : NdAt av (W.alloc (.cells #[.int .i64 x] 3)) a b r p k n := h.nd.fr (base := base) ((Fr.refl _ W).alloc _)
 have hn2 := kidsNd hav h.fr.size x 0
 have hn3 : NdAt av (W.alloc (.cells #[.int .i64 x] 3)) a b r p (.slice (some ⟨W.heap.size, 0, none⟩) 1 1) { n with kids := [x] } := ⟨hn1.sets, hn1.words, hn1.rds, hn1.pats, hn2.kids, hn1.ha, hn1.hb, hn1.hr, hn2.hk⟩
 exact ⟨(h.ri.grown (only_alloc (only_refl W none) _)).farB (fun e => e.2 rfl) hb1.hasT 7 _, Blk.set_ hb1 7 _, h.hB, hn3.farT hb1.hasT 7, Fr.newB (h.fr.alloc _) h.hB 7 _⟩
theorem CoAt.lt_ (h : CoAt av base w W rb T ns d B n a b r p k) (ha : ∀ k, av k → k < w.heap.size) : ∀ x, (av x ∨ k.ownBlock = some x) → x < W.heap.size := fun x hx => by
 rcases hx with hx | hx
 ·exact Nat.lt_of_lt_of_le (ha x hx) h.fr.size
 ·exact Own.lt h.nd.kids hx
theorem CoBt.kidsA (h : CoBt av base w W rb T ns d B n a b r p k) (hav : ∀ k, av k → k < w.heap.size) (x : Int) :
  CoAt av base w ((W.alloc (.cells #[.int .i64 x] 3)).setCell ⟨B, 7, none⟩ (.slice (some ⟨W.heap.size, 0, none⟩) 1 1)) rb T ns d B { n with kids := [x] } a b r p (.slice (some ⟨W.heap.size, 0, none⟩) 1 1) := by
 have h1 := h.kids hav x
 refine ⟨(kids_new h.ri (.cells #[.int .i64 x] 3) 1 1).farB (fun e => e.2 rfl) (h.box.alloc (.cells #[.int .i64 x] 3)).hasT 7 _, h1.box, h1.hB, h1.nd, fun y hy => ?_, h1.fr⟩
 simp [Value.ownBlock] at hy
 have := h.fr.size
 omega
theorem CoBt.setKind (h : CoBt av base w W rb T ns d B n a b r p k) (c : Int) : CoBt av base w (W.setCell ⟨B, 0, none⟩ (.int .i64 c)) rb T ns d B { n with kind := c } a b r p k := by
 have h1 := h.nd.farT (u := .int .i64 c) h.box.hasT 0
 exact ⟨h.ri.farB (fun e => e.2 rfl) h.box.hasT 0 _, Blk.set_ h.box 0 _, h.hB, ⟨h1.sets, h1.words, h1.rds, h1.pats, h1.kids, h1.ha, h1.hb, h1.hr, h1.hk⟩, Fr.newB h.fr h.hB 0 _⟩
theorem CoAt.appBox (h : CoAt av base w W rb T ns d B n a b r p k) (o : Obj) {wA : World} (hc : Chg (fun x => k.ownBlock = some x) (W.alloc o) wA) : Blk wA B 33 #[.int .i64 n.kind, .string ⟨n.name.toArray⟩, .bool n.inn, a, b, r, p, k] :=
 Blk.chg (h.box.alloc o) hc (fun e => absurd ((Own.hasT h.nd.kids e).uniq h.box.hasT) (by decide))
theorem CoAt.app (h : CoAt av base w W rb T ns d B n a b r p k) (hav : ∀ k, av k → k < w.heap.size) (o : Obj) {wA : World} {vA : Value} {y : Int} (ho : Own wA 3 1 vA (n.kids.length + 1) (n.kids.map (Value.int .i64) ++ [.int .i64 y]) 0) (hc : Chg (fun x => k.ownBlock = some x) (W.alloc o) wA) (hn : ∀ x, vA.ownBlock = some x → k.ownBlock = some x ∨ (W.alloc o).heap.size ≤ x) :
  CoAt av base w (wA.setCell ⟨B, 7, none⟩ vA) rb T ns d B { n with kids := n.kids ++ [y] } a b r p vA := by
 have hbx := h.appBox o hc
 have hT3 : ∀ x, k.ownBlock = some x → HasT (W.alloc o) x 3 := fun x e => Own.hasT (Own.alloc h.nd.kids o) e
 have hr1 := kids_app h.ri h.nd.kids o hc hn
 have nd1 : NdAt av (W.alloc o) a b r p k n := h.nd.fr (base := base) ((Fr.refl _ W).alloc o)
 have hkp : ∀ {e : TypeId} {s m : Nat} {x : Value} {xs : List Value}, e ≠ 3 → Own (W.alloc o) e s x m xs 0 → Own wA e s x m xs 0 := fun {e s m x xs} he hx => Own.chg hx hc (fun g hg e' => he ((Own.hasT hx hg).uniq (hT3 g e')))
 have hnew : ∀ x, vA.ownBlock = some x → w.heap.size ≤ x := fun x hx => by
  rcases hn x hx with e | e
  ·exact h.nk x e
  ·rw [World.size_alloc] at e
   have := h.fr.size
   omega
 have nd2 : NdAt av wA a b r p vA { n with kids := n.kids ++ [y] } := by
  refine ⟨hkp (by decide) nd1.sets, hkp (by decide) nd1.words, hkp (by decide) nd1.rds, ?_, ?_, nd1.ha, nd1.hb, nd1.hr, fun x hx e => by have := hnew x hx; have := hav x e; omega⟩
  ·obtain ⟨cs, q1, q2, q3⟩ := nd1.pats
   exact ⟨cs, hkp (by decide) q1, q2, fun i hi => by obtain ⟨u, s1, s2, s3⟩ := q3 i hi; exact ⟨u, s1, hkp (by decide) s2, s3⟩⟩
  ·show Own wA 3 1 vA (n.kids ++ [y]).length ((n.kids ++ [y]).map (Value.int .i64)) 0
   rw [List.length_append, List.length_singleton, List.map_append]
   exact ho
 refine ⟨hr1.farB (fun e => e.2 rfl) hbx.hasT 7 _, Blk.set_ hbx 7 _, h.hB, nd2.farT hbx.hasT 7, hnew, Fr.newB (fr_app h.fr o hc h.nk) h.hB 7 _⟩
theorem grown_new {a b c : World} {g : Nat} (h : a.grownBy b none) (k : b.grownBy c (some g)) (hg : a.heap.size ≤ g) : a.grownBy c none :=
 ⟨k.os.trans h.os, k.tape.trans h.tape, k.output.trans h.output, Nat.le_trans h.size k.size, fun i hi _ => (k.block i (Nat.lt_of_lt_of_le hi h.size) (by intro e; injection e with e; omega)).trans (h.block i hi (by simp))⟩
end
/-! ### the map of two words -/
open Go.Maps in
theorem wpList_insert_own {H : Type} {P : Program} (w : World) {ops : Array Oper} {rest : List Oper} {o : Oper} {a : Act} {Q : Exit → Act → World → Prop}
  (hg : o.guard = none) (m x v : Operand) (t : TypeId) (hop : o.op = Op.insert t m x v)
  (k e : TypeId) (K : Keyed P k) (ht : P.underlying t = some (.map k e)) (R : Value → Option (DataW H × List MemPlace)) (b n : Nat) (D : DataW H)
  (hm : a.eval m = .map (some b)) (hown : w.ownsMap P k R b n D) (hn : n < maxLen) (key val : Value) (kl : Lit) (hx : a.eval x = key) (hv : a.eval v = val) (hkey : keyOf P k key = some kl)
  (d : DataW H) (ps : List MemPlace) (hval : R val = some (d, ps))
  (hK : ∀ w', w'.ownsMap P k R b (n + 1) (D.put kl d) → w.grownBy w' (some b) → wpList P ops Q rest (a.put o.dst undef) w') :
  wpList P ops Q (o :: rest) a w := by
 refine wpList_plain hg fun K' hK' => ?_
 obtain ⟨w', hrun, r1, r2⟩ := hown.update K ht hn hkey hval
 unfold Oper.wp
 simp [execOp, hop, hm, hx, hv, hrun, Result.andThen]
 exact hK' _ _ (hK w' r1 r2)
theorem kd9 : Keyed Try.prog 9 := string_keyed Try.underlying9
theorem z3 (w : World) : (zeroValue 3).run Try.prog w = .ok (.int .i64 0) w := by kernel_rfl
abbrev wH : List UInt8 := [119, 104, 105, 108, 101]
abbrev uT : List UInt8 := [117, 110, 116, 105, 108]
abbrev D0 : DataW Unit := .map []
abbrev D1 : DataW Unit := D0.put (.string wH) (.lit (.int .i64 11))
abbrev D2 : DataW Unit := D1.put (.string uT) (.lit (.int .i64 12))
theorem D2_w : D2.atKey (.string wH) (.lit (.int .i64 0)) = .lit (.int .i64 11) := by kernel_rfl
theorem D2_u : D2.atKey (.string uT) (.lit (.int .i64 0)) = .lit (.int .i64 12) := by kernel_rfl
set_option maxHeartbeats 16000000 in
theorem core_ok (n : Nat) (lst : Drd) (hd : DecD 2 lst) (Hp : Okc 23 lst n) : Okp (fun ts => cmpH ts = true) 89 (coreF lst) (n + 1) := by
 intro av base rb d ts ns w hav h hn hpre
 have HIFS := hide (fun f av base w ts ns a b c e => ifs_ok n lst hd Hp f av base rb d ts ns w a b c e)
 have HCAS := hide (fun av base w ts ns a b c => cases_ok n lst hd Hp av base rb d ts ns w a b c)
 have HFOR := hide (fun av base w ts ns a (b : RIs av base w rb ts ns d) => (show Calls Try.prog 94 #[.pointer (some ⟨rb, 0, none⟩)] w (GPost (vNode av) av base w rb d (forsF ts ns)) by obtain ⟨vt, vn, hb⟩ := b; exact (fors_any av base rb d vn ts ns w a ⟨vt, hb⟩).mono fun e w' hp => TPost.g hb hp))
 have HAV := hide hav
 have HD := hide (hd d)
 have HC := hide (fun av base w ts ns a b c => Hp av base rb d ts ns w a b c)
 have HNE := hide (fun av base w s tt ns (h : RIs av base w rb tt ns d) => need_g s h)
 have HNX := hide (fun av base w t r ns (h : RIs av base w rb (t :: r) ns d) hk => next_g h hk)
 have HL := hide (fun av base w ts ns n a b r p k h hn hf => lay_any av base rb d ts ns n a b r p k w h hn hf)
 unfold sv at HNE
 unfold GPost vTok tokV sv at HNX
 unfold GPost vInt layR at HL
 obtain ⟨t, r, rfl⟩ := h.good.ne
 have hk4 := cmpH_k hpre
 have HGr := hide (h.good.tail hk4)
 have HFW := hide h.few
 have HLen := hide (show (t :: r).length = r.length + 1 from rfl)
 have HLr := hide (show r.length ≤ n by simpa using hn)
 obtain ⟨B, hB⟩ : ∃ B, w.heap.size = B := ⟨_, rfl⟩
 have HB0 := hide hB
 have HQ0 := hide (HNX.out av (Bx base B) (w.alloc (.cells #[.int .i64 0, .string ⟨#[]⟩, .bool false, .slice none 0 0, .slice none 0 0, .slice none 0 0, .slice none 0 0, .slice none 0 0] 33)) t r ns (RIs.box h _ hB) hk4)
 have HBX0 := hide (show Blk (w.alloc (.cells #[.int .i64 0, .string ⟨#[]⟩, .bool false, .slice none 0 0, .slice none 0 0, .slice none 0 0, .slice none 0 0, .slice none 0 0] 33)) B 33 #[.int .i64 0, .string ⟨#[]⟩, .bool false, .slice none 0 0, .slice none 0 0, .slice none 0 0, .slice none 0 0, .slice none 0 0] by rw [← hB]; exact Blk.new w 33 _)
 have HPRE := hide (show t.t = sPar ∨ t.t = wOpen ∨ t.t = wIf ∨ t.t = wWhile ∨ t.t = wUntil ∨ t.t = wFor ∨ t.t = wCase by
  have h' : cmpB t = true := hpre
  unfold cmpB at h'
  rw [Bool.or_eq_true, Bool.and_eq_true, Bool.and_eq_true] at h'
  rcases h' with h' | h'
  ·exact .inl (eq_of_beq h'.2)
  ·have h2 := h'.2
   unfold cmpW at h2
   simp only [List.contains_cons, Bool.or_eq_true, beq_iff_eq] at h2
   simp at h2
   exact .inr h2)
 show Calls Try.prog 89 #[.pointer (some ⟨rb, 0, none⟩)] w (GPost vInt av base w rb d (coreF lst d (t :: r) ns))
 have HRE := hide (show coreF lst d (t :: r) ns = coreS (lst d) t.t r ns from if_neg hk4)
 rw [HRE.out]
 obtain ⟨R, hR⟩ : ∃ R, coreS (lst d) t.t r ns = R := ⟨_, rfl⟩
 rw [hR]
 have HR := hide hR.symm
 clear hR HRE hk4 hpre h hav hn Hp hd
 obtain ⟨tk, tt, ta⟩ := t
 simp only [] at HQ0 HPRE HR
 go_enter Try.func89, Try.ntmps89
 go_wp2_with fail
 refine HQ0.out.mono ?_
 rintro e w1 ⟨v, rfl, rfl, hr1, hf1⟩
 have HI := hide (hr1.grown (only_alloc (only_refl w1 none) (.cells #[.int .i64 tk, .string ⟨tt.toArray⟩, .int .i64 ta] 41)))
 have HBX := hide ((hf1.keep HBX0.out).alloc (.cells #[.int .i64 tk, .string ⟨tt.toArray⟩, .int .i64 ta] 41))
 have HFI := hide ((((Fr.refl base w).alloc _).trans hf1.unbox).alloc (.cells #[.int .i64 tk, .string ⟨tt.toArray⟩, .int .i64 ta] 41) : Fr base w _)
 have HBl := hide (show w.heap.size ≤ B by have := HB0.out; omega)
 clear hr1 hf1
 go_upto_region 9 with (fail)
 have hbt := Blk.new w1 41 #[.int .i64 tk, .string ⟨tt.toArray⟩, .int .i64 ta]
 have y1 : (w1.alloc (.cells #[.int .i64 tk, .string ⟨tt.toArray⟩, .int .i64 ta] 41)).cell? ⟨w1.heap.size, 1, none⟩ = some (.string ⟨tt.toArray⟩) := Blk.cell hbt 1
 have lT := Blk.lt hbt
 obtain ⟨W1, hW1⟩ : ∃ W1, w1.alloc (.cells #[.int .i64 tk, .string ⟨tt.toArray⟩, .int .i64 ta] 41) = W1 := ⟨_, rfl⟩
 obtain ⟨bt, hbt'⟩ : ∃ bt, w1.heap.size = bt := ⟨_, rfl⟩
 rw [hW1] at HI HBX HFI y1 lT ⊢
 rw [hbt'] at y1 lT ⊢
 (try rw [hB])
 clear hW1 hbt' hbt hB
 have HAV2 := hide (fun k (hk : av k) => Nat.lt_of_lt_of_le (HAV.out k hk) HFI.out.size)
 rcases HPRE.out with h | h | h | h | h | h | h
 ·obtain rfl : tt = [40] := h
  have HRc := hide (show R = (lst d r ns).bind fun x ts ns => (needR sRap ts ns).bind fun _ ts ns => layR { kind := 9, kids := [x] } ts ns from HR.out)
  clear HR HPRE
  have HQ5 := hide (HC.out av _ _ r ns HAV2.out HI.out HLr.out)
  obtain ⟨PL5, hpl5⟩ : ∃ PL, lst d r ns = PL := ⟨_, rfl⟩
  rw [hpl5] at HQ5
  have HPL5 := hide hpl5
  have HGL5 := hide (HI.out).good
  have HRL5 := hide (show R = PL5.bind fun x ts ns => (needR sRap ts ns).bind fun _ ts ns => layR { kind := 9, kids := [x] } ts ns by rw [HRc.out, HPL5.out])
  unfold GPost vInt at HQ5
  clear hpl5
  go_wp2_with fail
  refine HQ5.out.mono ?_
  cases PL5 with
  | bad a e =>
   rintro e wz ⟨rfl, hfc⟩
   refine post_panicP rfl ?_
   rw [HRL5.out]
   exact (⟨rfl, HFI.out.trans hfc.unbox⟩ : _ ∧ _)
  | ok x5 T5 n5 =>
   have HLF5 := hide (HD.out _ _ _ _ _ HGL5.out HPL5.out)
   have HR5 := hide (show R = (needR sRap T5 n5).bind fun _ ts ns => layR { kind := 9, kids := [x5] } ts ns by rw [HRL5.out]; rfl)
   rintro e w5 ⟨v, rfl, rfl, hr5, hf5⟩
   have KA := hide (CoAt.kids HAV.out HFI.out HBX.out HBl.out hr5 hf5 x5 9)
   obtain ⟨y0, y1, y2, y3, y4, y5, y6, y7, lB⟩ := box8 ((hf5.keep HBX.out).alloc (.cells #[.int .i64 x5] 3))
   have zb0 := Blk.frozen ((hf5.keep HBX.out).alloc (.cells #[.int .i64 x5] 3)) 0
   have zb7 := Blk.frozen (Blk.set_ ((hf5.keep HBX.out).alloc (.cells #[.int .i64 x5] 3)) 0 (.int .i64 9)) 7
   have yb7 : ((w5.alloc (.cells #[.int .i64 x5] 3)).setCell ⟨B, 0, none⟩ (.int .i64 9)).cell? ⟨B, 7, none⟩ = some (.slice none 0 0) := Blk.cell (Blk.set_ ((hf5.keep HBX.out).alloc (.cells #[.int .i64 x5] 3)) 0 (.int .i64 9)) 7
   have lb7 := Blk.lt (Blk.set_ ((hf5.keep HBX.out).alloc (.cells #[.int .i64 x5] 3)) 0 (.int .i64 9))
   clear hr5 hf5
   go_upto_region 14 with (fail)
   obtain ⟨W6, hW6⟩ : ∃ W6, ((w5.alloc (.cells #[.int .i64 x5] 3)).setCell ⟨B, 0, none⟩ (.int .i64 9)).setCell ⟨B, 7, none⟩ (.slice (some ⟨w5.heap.size, 0, none⟩) 1 1) = W6 := ⟨_, rfl⟩
   rw [hW6] at KA ⊢
   clear hW6 y0 y1 y2 y3 y4 y5 y6 y7 lB zb0 zb7 yb7 lb7
   have HQ7 := hide (HNE.out _ _ _ sRap _ _ KA.out.ri)
   obtain ⟨bn7, hbn7⟩ : ∃ bn, isB T5 sRap = bn := ⟨_, rfl⟩
   have HBN7 := hide hbn7
   have hgd7 := KA.out.ri.good
   unfold needR at HQ7
   rw [hbn7] at HQ7
   unfold sRap GPost vUnit at HQ7
   clear hbn7
   go_wp2_with fail
   refine HQ7.out.mono ?_
   cases bn7 with
   | false =>
    obtain ⟨tz, rz, hz⟩ := hgd7.ne
    have HRZ := hide (show R = wrongR (T5) by rw [HR5.out]; (try rw [PR.bind_ok]); rw [need_no HBN7.out]; rw [hz]; rfl)
    rw [hz] at HRZ ⊢
    rintro e wc ⟨rfl, hfc⟩
    refine post_panicP rfl ?_
    rw [HRZ.out]
    exact (⟨rfl, KA.out.fr.trans hfc.unbox⟩ : _ ∧ _)
   | true =>
    obtain ⟨hgt7, hlt7⟩ := is_tail hgd7 HBN7.out
    have HGT7 := hide hgt7
    have HLT7 := hide hlt7
    have HR7 := hide (show R = layR { kind := 9, kids := [x5] } T5.tail n5 by rw [HR5.out]; (try rw [PR.bind_ok]); rw [need_yes HBN7.out]; rfl)
    rintro e wc7 ⟨v, rfl, rfl, hr_, hf_⟩
    have K7 := hide (KA.out.step hr_ hf_)
    clear hr_ hf_ hgt7 hlt7 hgd7
    unfold layR at HR7
    obtain ⟨q0, q1, q2, q3, q4, q5, q6, q7, lB⟩ := box8 K7.out.box
    have HLz := hide (by have := HL.out av _ _ T5.tail n5 { kind := 9, kids := [x5] } (.slice none 0 0) (.slice none 0 0) (.slice none 0 0) (.slice none 0 0) (.slice (some ⟨w5.heap.size, 0, none⟩) 1 1) K7.out.plain K7.out.nd (by have := HLF5.out.few; have := HLT7.out; have := HFW.out; have := HLen.out; omega); unfold ndCells sv at this; simp only [] at this; exact this)
    have HZF := hide K7.out.fr
    go_wp2_with fail
    refine HLz.out.mono ?_
    rintro e wl ⟨v, rfl, rfl, hrl, hfl⟩
    have HIl := hide hrl.unbox
    have HFl := hide (HZF.out.trans hfl.unbox)
    clear hrl hfl q0 q1 q2 q3 q4 q5 q6 q7 lB
    go_wp2_with fail
    rw [HR7.out]
    go_ret
    exact ⟨_, rfl, rfl, HIl.out, HFl.out⟩
 ·obtain rfl : tt = [123] := h
  have HRc := hide (show R = (lst d r ns).bind fun x ts ns => (needR wClose ts ns).bind fun _ ts ns => layR { kind := 8, kids := [x] } ts ns from HR.out)
  clear HR HPRE
  have HQ5 := hide (HC.out av _ _ r ns HAV2.out HI.out HLr.out)
  obtain ⟨PL5, hpl5⟩ : ∃ PL, lst d r ns = PL := ⟨_, rfl⟩
  rw [hpl5] at HQ5
  have HPL5 := hide hpl5
  have HGL5 := hide (HI.out).good
  have HRL5 := hide (show R = PL5.bind fun x ts ns => (needR wClose ts ns).bind fun _ ts ns => layR { kind := 8, kids := [x] } ts ns by rw [HRc.out, HPL5.out])
  unfold GPost vInt at HQ5
  clear hpl5
  go_wp2_with fail
  refine HQ5.out.mono ?_
  cases PL5 with
  | bad a e =>
   rintro e wz ⟨rfl, hfc⟩
   refine post_panicP rfl ?_
   rw [HRL5.out]
   exact (⟨rfl, HFI.out.trans hfc.unbox⟩ : _ ∧ _)
  | ok x5 T5 n5 =>
   have HLF5 := hide (HD.out _ _ _ _ _ HGL5.out HPL5.out)
   have HR5 := hide (show R = (needR wClose T5 n5).bind fun _ ts ns => layR { kind := 8, kids := [x5] } ts ns by rw [HRL5.out]; rfl)
   rintro e w5 ⟨v, rfl, rfl, hr5, hf5⟩
   have KA := hide (CoAt.kids HAV.out HFI.out HBX.out HBl.out hr5 hf5 x5 8)
   obtain ⟨y0, y1, y2, y3, y4, y5, y6, y7, lB⟩ := box8 ((hf5.keep HBX.out).alloc (.cells #[.int .i64 x5] 3))
   have zb0 := Blk.frozen ((hf5.keep HBX.out).alloc (.cells #[.int .i64 x5] 3)) 0
   have zb7 := Blk.frozen (Blk.set_ ((hf5.keep HBX.out).alloc (.cells #[.int .i64 x5] 3)) 0 (.int .i64 8)) 7
   have yb7 : ((w5.alloc (.cells #[.int .i64 x5] 3)).setCell ⟨B, 0, none⟩ (.int .i64 8)).cell? ⟨B, 7, none⟩ = some (.slice none 0 0) := Blk.cell (Blk.set_ ((hf5.keep HBX.out).alloc (.cells #[.int .i64 x5] 3)) 0 (.int .i64 8)) 7
   have lb7 := Blk.lt (Blk.set_ ((hf5.keep HBX.out).alloc (.cells #[.int .i64 x5] 3)) 0 (.int .i64 8))
   clear hr5 hf5
   go_upto_region 11 with (fail)
   obtain ⟨W6, hW6⟩ : ∃ W6, ((w5.alloc (.cells #[.int .i64 x5] 3)).setCell ⟨B, 0, none⟩ (.int .i64 8)).setCell ⟨B, 7, none⟩ (.slice (some ⟨w5.heap.size, 0, none⟩) 1 1) = W6 := ⟨_, rfl⟩
   rw [hW6] at KA ⊢
   clear hW6 y0 y1 y2 y3 y4 y5 y6 y7 lB zb0 zb7 yb7 lb7
   have HQ7 := hide (HNE.out _ _ _ wClose _ _ KA.out.ri)
   obtain ⟨bn7, hbn7⟩ : ∃ bn, isB T5 wClose = bn := ⟨_, rfl⟩
   have HBN7 := hide hbn7
   have hgd7 := KA.out.ri.good
   unfold needR at HQ7
   rw [hbn7] at HQ7
   unfold wClose GPost vUnit at HQ7
   clear hbn7
   go_wp2_with fail
   refine HQ7.out.mono ?_
   cases bn7 with
   | false =>
    obtain ⟨tz, rz, hz⟩ := hgd7.ne
    have HRZ := hide (show R = wrongR (T5) by rw [HR5.out]; (try rw [PR.bind_ok]); rw [need_no HBN7.out]; rw [hz]; rfl)
    rw [hz] at HRZ ⊢
    rintro e wc ⟨rfl, hfc⟩
    refine post_panicP rfl ?_
    rw [HRZ.out]
    exact (⟨rfl, KA.out.fr.trans hfc.unbox⟩ : _ ∧ _)
   | true =>
    obtain ⟨hgt7, hlt7⟩ := is_tail hgd7 HBN7.out
    have HGT7 := hide hgt7
    have HLT7 := hide hlt7
    have HR7 := hide (show R = layR { kind := 8, kids := [x5] } T5.tail n5 by rw [HR5.out]; (try rw [PR.bind_ok]); rw [need_yes HBN7.out]; rfl)
    rintro e wc7 ⟨v, rfl, rfl, hr_, hf_⟩
    have K7 := hide (KA.out.step hr_ hf_)
    clear hr_ hf_ hgt7 hlt7 hgd7
    unfold layR at HR7
    obtain ⟨q0, q1, q2, q3, q4, q5, q6, q7, lB⟩ := box8 K7.out.box
    have HLz := hide (by have := HL.out av _ _ T5.tail n5 { kind := 8, kids := [x5] } (.slice none 0 0) (.slice none 0 0) (.slice none 0 0) (.slice none 0 0) (.slice (some ⟨w5.heap.size, 0, none⟩) 1 1) K7.out.plain K7.out.nd (by have := HLF5.out.few; have := HLT7.out; have := HFW.out; have := HLen.out; omega); unfold ndCells sv at this; simp only [] at this; exact this)
    have HZF := hide K7.out.fr
    go_wp2_with fail
    refine HLz.out.mono ?_
    rintro e wl ⟨v, rfl, rfl, hrl, hfl⟩
    have HIl := hide hrl.unbox
    have HFl := hide (HZF.out.trans hfl.unbox)
    clear hrl hfl q0 q1 q2 q3 q4 q5 q6 q7 lB
    go_wp2_with fail
    rw [HR7.out]
    go_ret
    exact ⟨_, rfl, rfl, HIl.out, HFl.out⟩
 ·obtain rfl : tt = [105, 102] := h
  have HRc := hide (show R = ifsF (lst d) (r.length + 1) r ns from HR.out)
  have HQ5 := hide (HIFS.out (r.length + 1) av (Bx base B) W1 r ns HAV2.out HI.out HLr.out (Nat.lt_succ_self _))
  rw [← HRc.out] at HQ5
  clear HR HPRE
  go_wp2_with fail
  refine HQ5.out.mono ?_
  cases R with
  | bad a e =>
   unfold GPost
   rintro e w2 ⟨rfl, hf⟩
   exact post_panicP rfl ⟨rfl, HFI.out.trans hf.unbox⟩
  | ok x T ns1 =>
   unfold GPost vInt
   rintro e w2 ⟨v, rfl, rfl, hr2, hf2⟩
   have HR2 := hide hr2.unbox
   have HF2 := hide (HFI.out.trans hf2.unbox)
   clear hr2 hf2
   go_wp2_with fail
   go_ret
   exact ⟨_, rfl, rfl, HR2.out, HF2.out⟩
 ·obtain rfl : tt = [119, 104, 105, 108, 101] := h
  have HRc := hide (show R = (lst d r ns).bind fun x ts ns => (needR wDo ts ns).bind fun _ ts ns => (lst d ts ns).bind fun y ts ns => (needR wDone ts ns).bind fun _ ts ns => layR { kind := 11, kids := [x, y] } ts ns from HR.out)
  clear HR HPRE
  have hmm := @run_makeMap Try.prog
  have HO0 := hide (World.ownsMap_made W1 Try.prog 9 (plainElem (H := Unit) Try.prog 3))
  go_upto_region 5 with (first | (refine wpList_insert_own _ rfl _ _ _ 98 rfl 9 3 kd9 Try.underlying98 _ _ 0 D0 rfl HO0.out (by unfold maxLen; omega) _ _ (.string wH) rfl rfl (WideMaps.keyOf_string_mk Try.underlying9 (show (5 : Nat) ≤ maxLen from by unfold maxLen; omega)) _ [] (plainElem_int Try.underlying3 (by decide)) ?_; intro w2 hO1 hg1; have HO1 := hide hO1; have HG1 := hide hg1; clear hO1 hg1) | (refine wpList_insert_own _ rfl _ _ _ 98 rfl 9 3 kd9 Try.underlying98 _ _ 1 D1 rfl HO1.out (by unfold maxLen; omega) _ _ (.string uT) rfl rfl (WideMaps.keyOf_string_mk Try.underlying9 (show (5 : Nat) ≤ maxLen from by unfold maxLen; omega)) _ [] (plainElem_int Try.underlying3 (by decide)) ?_; intro w3 hO2 hg2; (have HO2 := hide hO2); (have HG3 := hide (grown_new (grown_new (World.grownBy_alloc W1 (.map #[] 0) none) HG1.out (Nat.le_refl _)) hg2 (Nat.le_refl _))); (have yt := old_cell HG3.out lT y1); (have lT3 := Nat.lt_of_lt_of_le lT HG3.out.size); (have hb3 := Blk.grown HBX.out HG3.out (by simp)); (have b30 : w3.cell? ⟨B, 0, none⟩ = some (.int .i64 0) := Blk.cell hb3 0); (have z30 := Blk.frozen hb3 0); (have l30 := Blk.lt hb3); clear hO2 hg2 hb3) | (refine wpList_lookup_own_int _ rfl _ _ 98 rfl 9 3 .i64 kd9 Try.underlying98 Try.underlying3 (z3 _) _ _ D2 rfl HO2.out _ (.string wH) rfl (WideMaps.keyOf_string_mk Try.underlying9 (show (5 : Nat) ≤ maxLen from by unfold maxLen; omega)) ?_; intro c hat hwc; obtain rfl : c = 11 := (by rw [D2_w] at hat; injection hat with hat; injection hat with _ hat; exact hat.symm)))
  have K3 := hide (CoBt.setKind (⟨HI.out.grown HG3.out, Blk.grown HBX.out HG3.out (by simp), HBl.out, ⟨Own.nil _ _ _ _, Own.nil _ _ _ _, Own.nil _ _ _ _, ⟨[], Own.nil _ _ _ _, fun b hb => (by cases hb), fun i hi => absurd hi (by simp)⟩, Own.nil _ _ _ _, fun k hk => (by cases hk), fun k hk => (by cases hk), fun k hk => (by cases hk), fun k hk => (by cases hk)⟩, HFI.out.trans (Fr.of_grown HG3.out)⟩ : CoBt av base w w3 rb r ns d B { kind := 0 } (.slice none 0 0) (.slice none 0 0) (.slice none 0 0) (.slice none 0 0) (.slice none 0 0)) 11)
  generalize w3.setCell ⟨B, 0, none⟩ (.int .i64 11) = W3 at K3 ⊢
  clear HO0 HO1 HO2 HG1 HG3 yt lT3 b30 z30 l30 hmm
  have HQ5 := hide (HC.out av _ _ r ns (fun k hk => Nat.lt_of_lt_of_le (HAV.out k hk) K3.out.fr.size) K3.out.ri HLr.out)
  obtain ⟨PL5, hpl5⟩ : ∃ PL, lst d r ns = PL := ⟨_, rfl⟩
  rw [hpl5] at HQ5
  have HPL5 := hide hpl5
  have HGL5 := hide (K3.out.ri).good
  have HRL5 := hide (show R = PL5.bind fun x ts ns => (needR wDo ts ns).bind fun _ ts ns => (lst d ts ns).bind fun y ts ns => (needR wDone ts ns).bind fun _ ts ns => layR { kind := 11, kids := [x, y] } ts ns by rw [HRc.out, HPL5.out])
  unfold GPost vInt at HQ5
  clear hpl5
  go_wp2_with fail
  refine HQ5.out.mono ?_
  cases PL5 with
  | bad a e =>
   rintro e wz ⟨rfl, hfc⟩
   refine post_panicP rfl ?_
   rw [HRL5.out]
   exact (⟨rfl, K3.out.fr.trans hfc.unbox⟩ : _ ∧ _)
  | ok x5 T5 n5 =>
   have HLF5 := hide (HD.out _ _ _ _ _ HGL5.out HPL5.out)
   have HR5 := hide (show R = (needR wDo T5 n5).bind fun _ ts ns => (lst d ts ns).bind fun y ts ns => (needR wDone ts ns).bind fun _ ts ns => layR { kind := 11, kids := [x5, y] } ts ns by rw [HRL5.out]; rfl)
   rintro e w5 ⟨v, rfl, rfl, hr5, hf5⟩
   have kb := CoBt.step K3.out hr5 hf5
   have KB := hide (CoBt.kidsA kb HAV.out x5)
   have hbx5 := kb.box.alloc (.cells #[.int .i64 x5] 3)
   have yb7 : (w5.alloc (.cells #[.int .i64 x5] 3)).cell? ⟨B, 7, none⟩ = some (.slice none 0 0) := Blk.cell hbx5 7
   have zb7 := Blk.frozen hbx5 7
   have lb7 := Blk.lt hbx5
   obtain ⟨kb5, hkb5⟩ : ∃ kb5, w5.heap.size = kb5 := ⟨_, rfl⟩
   clear hr5 hf5 kb hbx5
   go_upto_region 6 with (fail)
   obtain ⟨W7, hW7⟩ : ∃ W7, (w5.alloc (.cells #[.int .i64 x5] 3)).setCell ⟨B, 7, none⟩ (.slice (some ⟨w5.heap.size, 0, none⟩) 1 1) = W7 := ⟨_, rfl⟩
   (try rw [hkb5])
   rw [hkb5] at hW7
   rw [hkb5] at KB
   rw [hW7] at KB ⊢
   clear hW7 yb7 zb7 lb7 hkb5
   have HQ7 := hide (HNE.out _ _ _ wDo _ _ KB.out.ri)
   obtain ⟨bn7, hbn7⟩ : ∃ bn, isB T5 wDo = bn := ⟨_, rfl⟩
   have HBN7 := hide hbn7
   have hgd7 := KB.out.ri.good
   unfold needR at HQ7
   rw [hbn7] at HQ7
   unfold wDo GPost vUnit at HQ7
   clear hbn7
   go_wp2_with fail
   refine HQ7.out.mono ?_
   cases bn7 with
   | false =>
    obtain ⟨tz, rz, hz⟩ := hgd7.ne
    have HRZ := hide (show R = wrongR (T5) by rw [HR5.out]; (try rw [PR.bind_ok]); rw [need_no HBN7.out]; rw [hz]; rfl)
    rw [hz] at HRZ ⊢
    rintro e wc ⟨rfl, hfc⟩
    refine post_panicP rfl ?_
    rw [HRZ.out]
    exact (⟨rfl, KB.out.fr.trans hfc.unbox⟩ : _ ∧ _)
   | true =>
    obtain ⟨hgt7, hlt7⟩ := is_tail hgd7 HBN7.out
    have HGT7 := hide hgt7
    have HLT7 := hide hlt7
    have HR7 := hide (show R = (lst d T5.tail n5).bind fun y ts ns => (needR wDone ts ns).bind fun _ ts ns => layR { kind := 11, kids := [x5, y] } ts ns by rw [HR5.out]; (try rw [PR.bind_ok]); rw [need_yes HBN7.out]; rfl)
    rintro e wc7 ⟨v, rfl, rfl, hr_, hf_⟩
    have K7 := hide (KB.out.step hr_ hf_)
    clear hr_ hf_ hgt7 hlt7 hgd7
    obtain ⟨T7, hT7⟩ : ∃ T7, T5.tail = T7 := ⟨_, rfl⟩
    rw [hT7] at HGT7 HLT7 HR7 K7
    clear hT7
    go_upto_region 7 with (fail)
    go_cut [] (fun wx => ∃ (y : Int) (T8 : List Tok) (n8 : List Nd) (vA : Value), R = (needR wDone T8 n8).bind (fun _ ts ns => layR { kind := 11, kids := [x5, y] } ts ns) ∧ Good T8 ∧ T8.length ≤ r.length ∧ n8.length + 10 * T8.length + 1 ≤ 100000 ∧ CoAt av base w wx rb T8 n8 d B { kind := 11, kids := [x5, y] } (.slice none 0 0) (.slice none 0 0) (.slice none 0 0) (.slice none 0 0) vA)
    case first =>
     have K8 := hide (K7.out.step (K7.out.ri.grown (only_drew (only_refl wc7 none))) (Fr.of_grown (only_drew (only_refl wc7 none))))
     have x7 : wc7.cell? ⟨B, 7, none⟩ = some (.slice (some ⟨kb5, 0, none⟩) 1 1) := Blk.cell K7.out.box 7
     have lB := Blk.lt K7.out.box
     have HLn := hide (show T7.length ≤ n by have := HLF5.out.len; have := HLT7.out; have := HLr.out; omega)
     have HQ8 := hide (HC.out _ _ _ T7 n5 (K8.out.lt_ HAV.out) K8.out.ri HLn.out)
     obtain ⟨PL8, hpl8⟩ : ∃ PL, lst d T7 n5 = PL := ⟨_, rfl⟩
     rw [hpl8] at HQ8
     have HPL8 := hide hpl8
     have HRL8 := hide (show R = PL8.bind fun y ts ns => (needR wDone ts ns).bind fun _ ts ns => layR { kind := 11, kids := [x5, y] } ts ns by rw [HR7.out, HPL8.out])
     unfold GPost vInt at HQ8
     clear hpl8
     refine wp_region_permP [0, 1, 2] [3, 4, 5, 6, 7] (by kernel_rfl) (by kernel_rfl) (fun W' => W'.cell? ⟨B, 7, none⟩ = some (.slice (some ⟨kb5, 0, none⟩) 1 1)) x7 (by intro c a w d v h; cases d <;> exact h) ?_
     simp only [pick, List.getElem?_cons_zero, List.getElem?_cons_succ]
     refine wpTake_cons ?_ (by rfl) ?_ ?_
     rotate_left
     ·(intro W9 hSW; go_simp; try with_reducible rfl)
     simp only [Act.put, List.setIfInBounds_toArray, List.set_cons_zero, List.set_cons_succ]
     refine wpTake_cons ?_ (by rfl) ?_ ?_
     rotate_left
     ·(intro W9 hSW; go_simp; try with_reducible rfl)
     simp only [Act.put, List.setIfInBounds_toArray, List.set_cons_zero, List.set_cons_succ]
     refine wpTake_cons ?_ (by rfl) ?_ ?_
     rotate_left
     ·(intro W9 hSW; go_simp; try with_reducible rfl)
     simp only [Act.put, List.setIfInBounds_toArray, List.set_cons_zero, List.set_cons_succ]
     refine wpTake_nil ?_
     refine wpForce_cons fun K1 hK1 => ?_
     cases PL8 with
     | bad a e =>
      refine step_callP (by rfl) (by simp [go_sem]) HQ8.out (fun w' h => by cases h.1) (fun v w' h => by cases h.1) ?_
      rintro c w' ⟨hc, hfc⟩
      injection hc with hc
      subst hc
      refine post_panicP (P := Try.prog) (fn := Try.f89) rfl ?_
      rw [HRL8.out]
      exact (⟨rfl, K8.out.fr.trans hfc.unbox⟩ : _ ∧ _)
     | ok y T8 n8 =>
      refine step_callP (by rfl) (by simp [go_sem]) HQ8.out (fun w' h => by obtain ⟨_, h, _⟩ := h; cases h) ?_ (fun c w' h => by obtain ⟨_, h, _⟩ := h; cases h)
      rintro v w9 ⟨v', hv, rfl, hr9, hf9⟩
      injection hv with hv
      subst hv
      have HLF8 := hide (HD.out _ _ _ _ _ HGT7.out HPL8.out)
      have k9 := K8.out.step hr9 hf9
      have x79 : w9.cell? ⟨B, 7, none⟩ = some (.slice (some ⟨kb5, 0, none⟩) 1 1) := Blk.cell k9.box 7
      refine hK1.out _ _ x79 ?_
      simp only [Act.put, List.setIfInBounds_toArray, List.set_cons_zero, List.set_cons_succ]
      refine wpForce_cons fun K2 hK2 => ?_
      refine step_val (.slice (some ⟨w9.heap.size, 0, none⟩) 1 1) (w9.alloc (.cells #[.int .i64 y] 3)) (by rfl) (by go_simp) ?_
      have hbx9 := k9.box.alloc (.cells #[.int .i64 y] 3)
      refine hK2.out _ _ (Blk.cell hbx9 7) ?_
      simp only [Act.put, List.setIfInBounds_toArray, List.set_cons_zero, List.set_cons_succ]
      refine wpForce_cons fun K3 hK3 => ?_
      refine step_appAt (by rfl) (.tmp 23) (.tmp 26) 31 31 (by rfl) 3 (.int .i64 0) 1 8 Try.underlying31 infoInt rfl (.slice (some ⟨kb5, 0, none⟩) 1 1) 1 [.int .i64 x5] 0 _ 1 [.int .i64 y] (by rfl) (by rfl) (Own.alloc k9.nd.kids _) (by omega) (srcI _ _ y rfl) (by unfold maxLen; omega) (by omega) ?_
      intro vA wA ho hc hn _
      obtain ⟨fa, ca, rfl, _, _⟩ := Own.form ho
      have hbA := k9.appBox _ hc
      have x7A : wA.cell? ⟨B, 7, none⟩ = some (.slice (some ⟨kb5, 0, none⟩) 1 1) := Blk.cell hbA 7
      have zA := Blk.frozen hbA 7
      have lA := Blk.lt hbA
      have K10 := hide (k9.app HAV.out _ ho hc hn)
      refine hK3.out _ _ x7A ?_
      simp only [Act.put, List.setIfInBounds_toArray, List.set_cons_zero, List.set_cons_succ]
      refine wpForce_cons fun K4 hK4 => ?_
      refine step_val (.pointer (some ⟨B, 7, none⟩)) wA (by rfl) (by go_simp) ?_
      refine hK4.out _ _ x7A ?_
      simp only [Act.put, List.setIfInBounds_toArray, List.set_cons_zero, List.set_cons_succ]
      refine wpForce_one ?_
      clear hK1 hK2 hK3 hK4 K1 K2 K3 K4 k9 ho hc hn hbA hbx9 x7 x79 lB hr9 hf9
      go_wp2_with fail
      go_meet
      case rel => exact ⟨y, T8, n8, _, by rw [HRL8.out]; rfl, HLF8.out.good, by have := HLF8.out.len; have := HLF5.out.len; have := HLT7.out; omega, by have := HLF8.out.few; have := HLF5.out.few; have := HLT7.out; have := HFW.out; have := HLen.out; omega, K10.out⟩
    case rest =>
     obtain ⟨y, T8, n8, vA, hR8, hg8, hl8, hf8, hK8⟩ := hcut
     have HR8 := hide hR8
     have K9 := hide hK8
     have HF8 := hide hf8
     obtain ⟨fa, ca, rfl, _, _⟩ := Own.form hK8.nd.kids
     clear hR8 hg8 hl8 hf8 hK8
     have HQ11 := hide (HNE.out _ _ _ wDone _ _ K9.out.ri)
     obtain ⟨bn11, hbn11⟩ : ∃ bn, isB T8 wDone = bn := ⟨_, rfl⟩
     have HBN11 := hide hbn11
     have hgd11 := K9.out.ri.good
     unfold needR at HQ11
     rw [hbn11] at HQ11
     unfold wDone GPost vUnit at HQ11
     clear hbn11
     go_wp2_with fail
     refine HQ11.out.mono ?_
     cases bn11 with
     | false =>
      obtain ⟨tz, rz, hz⟩ := hgd11.ne
      have HRZ := hide (show R = wrongR (T8) by rw [HR8.out]; (try rw [PR.bind_ok]); rw [need_no HBN11.out]; rw [hz]; rfl)
      rw [hz] at HRZ ⊢
      rintro e wc ⟨rfl, hfc⟩
      refine post_panicP rfl ?_
      rw [HRZ.out]
      exact (⟨rfl, K9.out.fr.trans hfc.unbox⟩ : _ ∧ _)
     | true =>
      obtain ⟨hgt11, hlt11⟩ := is_tail hgd11 HBN11.out
      have HGT11 := hide hgt11
      have HLT11 := hide hlt11
      have HR11 := hide (show R = layR { kind := 11, kids := [x5, y] } T8.tail n8 by rw [HR8.out]; (try rw [PR.bind_ok]); rw [need_yes HBN11.out]; rfl)
      rintro e wc11 ⟨v, rfl, rfl, hr_, hf_⟩
      have K11 := hide (K9.out.step hr_ hf_)
      clear hr_ hf_ hgt11 hlt11 hgd11
      unfold layR at HR11
      obtain ⟨q0, q1, q2, q3, q4, q5, q6, q7, lB⟩ := box8 K11.out.box
      have HLz := hide (by have := HL.out av _ _ T8.tail n8 { kind := 11, kids := [x5, y] } (.slice none 0 0) (.slice none 0 0) (.slice none 0 0) (.slice none 0 0) (.slice fa 2 ca) K11.out.plain K11.out.nd (by have := HF8.out; have := HLT11.out; omega); unfold ndCells sv at this; simp only [] at this; exact this)
      have HZF := hide K11.out.fr
      go_wp2_with fail
      refine HLz.out.mono ?_
      rintro e wl ⟨v, rfl, rfl, hrl, hfl⟩
      have HIl := hide hrl.unbox
      have HFl := hide (HZF.out.trans hfl.unbox)
      clear hrl hfl q0 q1 q2 q3 q4 q5 q6 q7 lB
      go_wp2_with fail
      rw [HR11.out]
      go_ret
      exact ⟨_, rfl, rfl, HIl.out, HFl.out⟩
 ·obtain rfl : tt = [117, 110, 116, 105, 108] := h
  have HRc := hide (show R = (lst d r ns).bind fun x ts ns => (needR wDo ts ns).bind fun _ ts ns => (lst d ts ns).bind fun y ts ns => (needR wDone ts ns).bind fun _ ts ns => layR { kind := 12, kids := [x, y] } ts ns from HR.out)
  clear HR HPRE
  have hmm := @run_makeMap Try.prog
  have HO0 := hide (World.ownsMap_made W1 Try.prog 9 (plainElem (H := Unit) Try.prog 3))
  go_upto_region 5 with (first | (refine wpList_insert_own _ rfl _ _ _ 98 rfl 9 3 kd9 Try.underlying98 _ _ 0 D0 rfl HO0.out (by unfold maxLen; omega) _ _ (.string wH) rfl rfl (WideMaps.keyOf_string_mk Try.underlying9 (show (5 : Nat) ≤ maxLen from by unfold maxLen; omega)) _ [] (plainElem_int Try.underlying3 (by decide)) ?_; intro w2 hO1 hg1; have HO1 := hide hO1; have HG1 := hide hg1; clear hO1 hg1) | (refine wpList_insert_own _ rfl _ _ _ 98 rfl 9 3 kd9 Try.underlying98 _ _ 1 D1 rfl HO1.out (by unfold maxLen; omega) _ _ (.string uT) rfl rfl (WideMaps.keyOf_string_mk Try.underlying9 (show (5 : Nat) ≤ maxLen from by unfold maxLen; omega)) _ [] (plainElem_int Try.underlying3 (by decide)) ?_; intro w3 hO2 hg2; (have HO2 := hide hO2); (have HG3 := hide (grown_new (grown_new (World.grownBy_alloc W1 (.map #[] 0) none) HG1.out (Nat.le_refl _)) hg2 (Nat.le_refl _))); (have yt := old_cell HG3.out lT y1); (have lT3 := Nat.lt_of_lt_of_le lT HG3.out.size); (have hb3 := Blk.grown HBX.out HG3.out (by simp)); (have b30 : w3.cell? ⟨B, 0, none⟩ = some (.int .i64 0) := Blk.cell hb3 0); (have z30 := Blk.frozen hb3 0); (have l30 := Blk.lt hb3); clear hO2 hg2 hb3) | (refine wpList_lookup_own_int _ rfl _ _ 98 rfl 9 3 .i64 kd9 Try.underlying98 Try.underlying3 (z3 _) _ _ D2 rfl HO2.out _ (.string uT) rfl (WideMaps.keyOf_string_mk Try.underlying9 (show (5 : Nat) ≤ maxLen from by unfold maxLen; omega)) ?_; intro c hat hwc; obtain rfl : c = 12 := (by rw [D2_u] at hat; injection hat with hat; injection hat with _ hat; exact hat.symm)))
  have K3 := hide (CoBt.setKind (⟨HI.out.grown HG3.out, Blk.grown HBX.out HG3.out (by simp), HBl.out, ⟨Own.nil _ _ _ _, Own.nil _ _ _ _, Own.nil _ _ _ _, ⟨[], Own.nil _ _ _ _, fun b hb => (by cases hb), fun i hi => absurd hi (by simp)⟩, Own.nil _ _ _ _, fun k hk => (by cases hk), fun k hk => (by cases hk), fun k hk => (by cases hk), fun k hk => (by cases hk)⟩, HFI.out.trans (Fr.of_grown HG3.out)⟩ : CoBt av base w w3 rb r ns d B { kind := 0 } (.slice none 0 0) (.slice none 0 0) (.slice none 0 0) (.slice none 0 0) (.slice none 0 0)) 12)
  generalize w3.setCell ⟨B, 0, none⟩ (.int .i64 12) = W3 at K3 ⊢
  clear HO0 HO1 HO2 HG1 HG3 yt lT3 b30 z30 l30 hmm
  have HQ5 := hide (HC.out av _ _ r ns (fun k hk => Nat.lt_of_lt_of_le (HAV.out k hk) K3.out.fr.size) K3.out.ri HLr.out)
  obtain ⟨PL5, hpl5⟩ : ∃ PL, lst d r ns = PL := ⟨_, rfl⟩
  rw [hpl5] at HQ5
  have HPL5 := hide hpl5
  have HGL5 := hide (K3.out.ri).good
  have HRL5 := hide (show R = PL5.bind fun x ts ns => (needR wDo ts ns).bind fun _ ts ns => (lst d ts ns).bind fun y ts ns => (needR wDone ts ns).bind fun _ ts ns => layR { kind := 12, kids := [x, y] } ts ns by rw [HRc.out, HPL5.out])
  unfold GPost vInt at HQ5
  clear hpl5
  go_wp2_with fail
  refine HQ5.out.mono ?_
  cases PL5 with
  | bad a e =>
   rintro e wz ⟨rfl, hfc⟩
   refine post_panicP rfl ?_
   rw [HRL5.out]
   exact (⟨rfl, K3.out.fr.trans hfc.unbox⟩ : _ ∧ _)
  | ok x5 T5 n5 =>
   have HLF5 := hide (HD.out _ _ _ _ _ HGL5.out HPL5.out)
   have HR5 := hide (show R = (needR wDo T5 n5).bind fun _ ts ns => (lst d ts ns).bind fun y ts ns => (needR wDone ts ns).bind fun _ ts ns => layR { kind := 12, kids := [x5, y] } ts ns by rw [HRL5.out]; rfl)
   rintro e w5 ⟨v, rfl, rfl, hr5, hf5⟩
   have kb := CoBt.step K3.out hr5 hf5
   have KB := hide (CoBt.kidsA kb HAV.out x5)
   have hbx5 := kb.box.alloc (.cells #[.int .i64 x5] 3)
   have yb7 : (w5.alloc (.cells #[.int .i64 x5] 3)).cell? ⟨B, 7, none⟩ = some (.slice none 0 0) := Blk.cell hbx5 7
   have zb7 := Blk.frozen hbx5 7
   have lb7 := Blk.lt hbx5
   obtain ⟨kb5, hkb5⟩ : ∃ kb5, w5.heap.size = kb5 := ⟨_, rfl⟩
   clear hr5 hf5 kb hbx5
   go_upto_region 6 with (fail)
   obtain ⟨W7, hW7⟩ : ∃ W7, (w5.alloc (.cells #[.int .i64 x5] 3)).setCell ⟨B, 7, none⟩ (.slice (some ⟨w5.heap.size, 0, none⟩) 1 1) = W7 := ⟨_, rfl⟩
   (try rw [hkb5])
   rw [hkb5] at hW7
   rw [hkb5] at KB
   rw [hW7] at KB ⊢
   clear hW7 yb7 zb7 lb7 hkb5
   have HQ7 := hide (HNE.out _ _ _ wDo _ _ KB.out.ri)
   obtain ⟨bn7, hbn7⟩ : ∃ bn, isB T5 wDo = bn := ⟨_, rfl⟩
   have HBN7 := hide hbn7
   have hgd7 := KB.out.ri.good
   unfold needR at HQ7
   rw [hbn7] at HQ7
   unfold wDo GPost vUnit at HQ7
   clear hbn7
   go_wp2_with fail
   refine HQ7.out.mono ?_
   cases bn7 with
   | false =>
    obtain ⟨tz, rz, hz⟩ := hgd7.ne
    have HRZ := hide (show R = wrongR (T5) by rw [HR5.out]; (try rw [PR.bind_ok]); rw [need_no HBN7.out]; rw [hz]; rfl)
    rw [hz] at HRZ ⊢
    rintro e wc ⟨rfl, hfc⟩
    refine post_panicP rfl ?_
    rw [HRZ.out]
    exact (⟨rfl, KB.out.fr.trans hfc.unbox⟩ : _ ∧ _)
   | true =>
    obtain ⟨hgt7, hlt7⟩ := is_tail hgd7 HBN7.out
    have HGT7 := hide hgt7
    have HLT7 := hide hlt7
    have HR7 := hide (show R = (lst d T5.tail n5).bind fun y ts ns => (needR wDone ts ns).bind fun _ ts ns => layR { kind := 12, kids := [x5, y] } ts ns by rw [HR5.out]; (try rw [PR.bind_ok]); rw [need_yes HBN7.out]; rfl)
    rintro e wc7 ⟨v, rfl, rfl, hr_, hf_⟩
    have K7 := hide (KB.out.step hr_ hf_)
    clear hr_ hf_ hgt7 hlt7 hgd7
    obtain ⟨T7, hT7⟩ : ∃ T7, T5.tail = T7 := ⟨_, rfl⟩
    rw [hT7] at HGT7 HLT7 HR7 K7
    clear hT7
    go_upto_region 7 with (fail)
    go_cut [] (fun wx => ∃ (y : Int) (T8 : List Tok) (n8 : List Nd) (vA : Value), R = (needR wDone T8 n8).bind (fun _ ts ns => layR { kind := 12, kids := [x5, y] } ts ns) ∧ Good T8 ∧ T8.length ≤ r.length ∧ n8.length + 10 * T8.length + 1 ≤ 100000 ∧ CoAt av base w wx rb T8 n8 d B { kind := 12, kids := [x5, y] } (.slice none 0 0) (.slice none 0 0) (.slice none 0 0) (.slice none 0 0) vA)
    case first =>
     have K8 := hide (K7.out.step (K7.out.ri.grown (only_drew (only_refl wc7 none))) (Fr.of_grown (only_drew (only_refl wc7 none))))
     have x7 : wc7.cell? ⟨B, 7, none⟩ = some (.slice (some ⟨kb5, 0, none⟩) 1 1) := Blk.cell K7.out.box 7
     have lB := Blk.lt K7.out.box
     have HLn := hide (show T7.length ≤ n by have := HLF5.out.len; have := HLT7.out; have := HLr.out; omega)
     have HQ8 := hide (HC.out _ _ _ T7 n5 (K8.out.lt_ HAV.out) K8.out.ri HLn.out)
     obtain ⟨PL8, hpl8⟩ : ∃ PL, lst d T7 n5 = PL := ⟨_, rfl⟩
     rw [hpl8] at HQ8
     have HPL8 := hide hpl8
     have HRL8 := hide (show R = PL8.bind fun y ts ns => (needR wDone ts ns).bind fun _ ts ns => layR { kind := 12, kids := [x5, y] } ts ns by rw [HR7.out, HPL8.out])
     unfold GPost vInt at HQ8
     clear hpl8
     refine wp_region_permP [0, 1, 2] [3, 4, 5, 6, 7] (by kernel_rfl) (by kernel_rfl) (fun W' => W'.cell? ⟨B, 7, none⟩ = some (.slice (some ⟨kb5, 0, none⟩) 1 1)) x7 (by intro c a w d v h; cases d <;> exact h) ?_
     simp only [pick, List.getElem?_cons_zero, List.getElem?_cons_succ]
     refine wpTake_cons ?_ (by rfl) ?_ ?_
     rotate_left
     ·(intro W9 hSW; go_simp; try with_reducible rfl)
     simp only [Act.put, List.setIfInBounds_toArray, List.set_cons_zero, List.set_cons_succ]
     refine wpTake_cons ?_ (by rfl) ?_ ?_
     rotate_left
     ·(intro W9 hSW; go_simp; try with_reducible rfl)
     simp only [Act.put, List.setIfInBounds_toArray, List.set_cons_zero, List.set_cons_succ]
     refine wpTake_cons ?_ (by rfl) ?_ ?_
     rotate_left
     ·(intro W9 hSW; go_simp; try with_reducible rfl)
     simp only [Act.put, List.setIfInBounds_toArray, List.set_cons_zero, List.set_cons_succ]
     refine wpTake_nil ?_
     refine wpForce_cons fun K1 hK1 => ?_
     cases PL8 with
     | bad a e =>
      refine step_callP (by rfl) (by simp [go_sem]) HQ8.out (fun w' h => by cases h.1) (fun v w' h => by cases h.1) ?_
      rintro c w' ⟨hc, hfc⟩
      injection hc with hc
      subst hc
      refine post_panicP (P := Try.prog) (fn := Try.f89) rfl ?_
      rw [HRL8.out]
      exact (⟨rfl, K8.out.fr.trans hfc.unbox⟩ : _ ∧ _)
     | ok y T8 n8 =>
      refine step_callP (by rfl) (by simp [go_sem]) HQ8.out (fun w' h => by obtain ⟨_, h, _⟩ := h; cases h) ?_ (fun c w' h => by obtain ⟨_, h, _⟩ := h; cases h)
      rintro v w9 ⟨v', hv, rfl, hr9, hf9⟩
      injection hv with hv
      subst hv
      have HLF8 := hide (HD.out _ _ _ _ _ HGT7.out HPL8.out)
      have k9 := K8.out.step hr9 hf9
      have x79 : w9.cell? ⟨B, 7, none⟩ = some (.slice (some ⟨kb5, 0, none⟩) 1 1) := Blk.cell k9.box 7
      refine hK1.out _ _ x79 ?_
      simp only [Act.put, List.setIfInBounds_toArray, List.set_cons_zero, List.set_cons_succ]
      refine wpForce_cons fun K2 hK2 => ?_
      refine step_val (.slice (some ⟨w9.heap.size, 0, none⟩) 1 1) (w9.alloc (.cells #[.int .i64 y] 3)) (by rfl) (by go_simp) ?_
      have hbx9 := k9.box.alloc (.cells #[.int .i64 y] 3)
      refine hK2.out _ _ (Blk.cell hbx9 7) ?_
      simp only [Act.put, List.setIfInBounds_toArray, List.set_cons_zero, List.set_cons_succ]
      refine wpForce_cons fun K3 hK3 => ?_
      refine step_appAt (by rfl) (.tmp 23) (.tmp 26) 31 31 (by rfl) 3 (.int .i64 0) 1 8 Try.underlying31 infoInt rfl (.slice (some ⟨kb5, 0, none⟩) 1 1) 1 [.int .i64 x5] 0 _ 1 [.int .i64 y] (by rfl) (by rfl) (Own.alloc k9.nd.kids _) (by omega) (srcI _ _ y rfl) (by unfold maxLen; omega) (by omega) ?_
      intro vA wA ho hc hn _
      obtain ⟨fa, ca, rfl, _, _⟩ := Own.form ho
      have hbA := k9.appBox _ hc
      have x7A : wA.cell? ⟨B, 7, none⟩ = some (.slice (some ⟨kb5, 0, none⟩) 1 1) := Blk.cell hbA 7
      have zA := Blk.frozen hbA 7
      have lA := Blk.lt hbA
      have K10 := hide (k9.app HAV.out _ ho hc hn)
      refine hK3.out _ _ x7A ?_
      simp only [Act.put, List.setIfInBounds_toArray, List.set_cons_zero, List.set_cons_succ]
      refine wpForce_cons fun K4 hK4 => ?_
      refine step_val (.pointer (some ⟨B, 7, none⟩)) wA (by rfl) (by go_simp) ?_
      refine hK4.out _ _ x7A ?_
      simp only [Act.put, List.setIfInBounds_toArray, List.set_cons_zero, List.set_cons_succ]
      refine wpForce_one ?_
      clear hK1 hK2 hK3 hK4 K1 K2 K3 K4 k9 ho hc hn hbA hbx9 x7 x79 lB hr9 hf9
      go_wp2_with fail
      go_meet
      case rel => exact ⟨y, T8, n8, _, by rw [HRL8.out]; rfl, HLF8.out.good, by have := HLF8.out.len; have := HLF5.out.len; have := HLT7.out; omega, by have := HLF8.out.few; have := HLF5.out.few; have := HLT7.out; have := HFW.out; have := HLen.out; omega, K10.out⟩
    case rest =>
     obtain ⟨y, T8, n8, vA, hR8, hg8, hl8, hf8, hK8⟩ := hcut
     have HR8 := hide hR8
     have K9 := hide hK8
     have HF8 := hide hf8
     obtain ⟨fa, ca, rfl, _, _⟩ := Own.form hK8.nd.kids
     clear hR8 hg8 hl8 hf8 hK8
     have HQ11 := hide (HNE.out _ _ _ wDone _ _ K9.out.ri)
     obtain ⟨bn11, hbn11⟩ : ∃ bn, isB T8 wDone = bn := ⟨_, rfl⟩
     have HBN11 := hide hbn11
     have hgd11 := K9.out.ri.good
     unfold needR at HQ11
     rw [hbn11] at HQ11
     unfold wDone GPost vUnit at HQ11
     clear hbn11
     go_wp2_with fail
     refine HQ11.out.mono ?_
     cases bn11 with
     | false =>
      obtain ⟨tz, rz, hz⟩ := hgd11.ne
      have HRZ := hide (show R = wrongR (T8) by rw [HR8.out]; (try rw [PR.bind_ok]); rw [need_no HBN11.out]; rw [hz]; rfl)
      rw [hz] at HRZ ⊢
      rintro e wc ⟨rfl, hfc⟩
      refine post_panicP rfl ?_
      rw [HRZ.out]
      exact (⟨rfl, K9.out.fr.trans hfc.unbox⟩ : _ ∧ _)
     | true =>
      obtain ⟨hgt11, hlt11⟩ := is_tail hgd11 HBN11.out
      have HGT11 := hide hgt11
      have HLT11 := hide hlt11
      have HR11 := hide (show R = layR { kind := 12, kids := [x5, y] } T8.tail n8 by rw [HR8.out]; (try rw [PR.bind_ok]); rw [need_yes HBN11.out]; rfl)
      rintro e wc11 ⟨v, rfl, rfl, hr_, hf_⟩
      have K11 := hide (K9.out.step hr_ hf_)
      clear hr_ hf_ hgt11 hlt11 hgd11
      unfold layR at HR11
      obtain ⟨q0, q1, q2, q3, q4, q5, q6, q7, lB⟩ := box8 K11.out.box
      have HLz := hide (by have := HL.out av _ _ T8.tail n8 { kind := 12, kids := [x5, y] } (.slice none 0 0) (.slice none 0 0) (.slice none 0 0) (.slice none 0 0) (.slice fa 2 ca) K11.out.plain K11.out.nd (by have := HF8.out; have := HLT11.out; omega); unfold ndCells sv at this; simp only [] at this; exact this)
      have HZF := hide K11.out.fr
      go_wp2_with fail
      refine HLz.out.mono ?_
      rintro e wl ⟨v, rfl, rfl, hrl, hfl⟩
      have HIl := hide hrl.unbox
      have HFl := hide (HZF.out.trans hfl.unbox)
      clear hrl hfl q0 q1 q2 q3 q4 q5 q6 q7 lB
      go_wp2_with fail
      rw [HR11.out]
      go_ret
      exact ⟨_, rfl, rfl, HIl.out, HFl.out⟩
 ·obtain rfl : tt = [102, 111, 114] := h
  have HRc := hide (show R = (forsF r ns).bind fun n ts ns => (lst d ts ns).bind fun x ts ns => (needR wDone ts ns).bind fun _ ts ns => layR { n with kids := [x] } ts ns from HR.out)
  have HQ4 := hide (HFOR.out av (Bx base B) W1 r ns HAV2.out HI.out)
  obtain ⟨PF, hpf⟩ : ∃ PF, forsF r ns = PF := ⟨_, rfl⟩
  rw [hpf] at HQ4
  have HPF := hide hpf
  unfold GPost vNode at HQ4
  clear HR HPRE hpf
  go_wp2_with fail
  refine HQ4.out.mono ?_
  cases PF with
  | bad a e =>
   rintro e w2 ⟨rfl, hf⟩
   refine post_panicP rfl ?_
   rw [HRc.out, HPF.out]
   exact (⟨rfl, HFI.out.trans hf.unbox⟩ : _ ∧ _)
  | ok nd Tf nf =>
   obtain ⟨hgf, hlf, rfl⟩ := fors_ok HGr.out HPF.out
   rintro e w4 ⟨v, rfl, ⟨ca, cb, cr, cp, ck, rfl, hnd⟩, hr4, hf4⟩
   have HR4 := hide (show R = (lst d Tf nf).bind fun x ts ns => (needR wDone ts ns).bind fun _ ts ns => layR { nd with kids := [x] } ts ns by rw [HRc.out, HPF.out]; rfl)
   obtain ⟨a1, a2, a3, b1, b2, b3, r1, r2, r3, p1, p2, p3, k1, k2, k3, rfl, rfl, rfl, rfl, rfl⟩ := hnd.forms
   obtain ⟨kd, nm, inn, sets, words, rds, pats, kids⟩ := nd
   have hbx4 := hf4.keep HBX.out
   have KA := hide (CoBt.all (n := ⟨kd, nm, inn, sets, words, rds, pats, kids⟩) hbx4 HBl.out hr4 (HFI.out.trans hf4.unbox) hnd)
   unfold put8 at KA
   obtain ⟨y0, y1, y2, y3, y4, y5, y6, y7, lB⟩ := box8 hbx4
   have zb0 := Blk.frozen hbx4 0
   have zb1 := Blk.frozen hbx4 1
   have zb2 := Blk.frozen hbx4 2
   have zb3 := Blk.frozen hbx4 3
   have zb4 := Blk.frozen hbx4 4
   have zb5 := Blk.frozen hbx4 5
   have zb6 := Blk.frozen hbx4 6
   have zb7 := Blk.frozen hbx4 7
   simp only [ndCells, sv]
   go_upto_region 19 with (fail)
   generalize ((((((((w4.setCell ⟨B, 0, none⟩ (.int .i64 kd)).setCell ⟨B, 1, none⟩ (.string ⟨nm.toArray⟩)).setCell ⟨B, 2, none⟩ (.bool inn)).setCell ⟨B, 3, none⟩ (.slice a1 a2 a3)).setCell ⟨B, 4, none⟩ (.slice b1 b2 b3)).setCell ⟨B, 5, none⟩ (.slice r1 r2 r3)).setCell ⟨B, 6, none⟩ (.slice p1 p2 p3)).setCell ⟨B, 7, none⟩ (.slice k1 k2 k3)) = W6 at KA ⊢
   clear y0 y1 y2 y3 y4 y5 y6 y7 lB zb0 zb1 zb2 zb3 zb4 zb5 zb6 zb7
   have HLf := hide (And.intro hgf hlf)
   clear hr4 hf4 hgf hlf hnd hbx4
   have HQ5 := hide (HC.out av _ _ Tf nf (fun k hk => Nat.lt_of_lt_of_le (HAV.out k hk) KA.out.fr.size) KA.out.ri (by have := HLf.out.2; have := HLr.out; omega))
   obtain ⟨PL5, hpl5⟩ : ∃ PL, lst d Tf nf = PL := ⟨_, rfl⟩
   rw [hpl5] at HQ5
   have HPL5 := hide hpl5
   have HGL5 := hide (KA.out.ri).good
   have HRL5 := hide (show R = PL5.bind fun x ts ns => (needR wDone ts ns).bind fun _ ts ns => layR { kind := kd, name := nm, inn := inn, sets := sets, words := words, redirs := rds, pats := pats, kids := [x] } ts ns by rw [HR4.out, HPL5.out])
   unfold GPost vInt at HQ5
   clear hpl5
   go_wp2_with fail
   refine HQ5.out.mono ?_
   cases PL5 with
   | bad a e =>
    rintro e wz ⟨rfl, hfc⟩
    refine post_panicP rfl ?_
    rw [HRL5.out]
    exact (⟨rfl, KA.out.fr.trans hfc.unbox⟩ : _ ∧ _)
   | ok x5 T5 n5 =>
    have HLF5 := hide (HD.out _ _ _ _ _ HGL5.out HPL5.out)
    have HR5 := hide (show R = (needR wDone T5 n5).bind fun _ ts ns => layR { kind := kd, name := nm, inn := inn, sets := sets, words := words, redirs := rds, pats := pats, kids := [x5] } ts ns by rw [HRL5.out]; rfl)
    rintro e w5 ⟨v, rfl, rfl, hr5, hf5⟩
    have kb := CoBt.step KA.out hr5 hf5
    have KB := hide (CoBt.kids kb HAV.out x5)
    have hbx5 := kb.box.alloc (.cells #[.int .i64 x5] 3)
    have yb7 : (w5.alloc (.cells #[.int .i64 x5] 3)).cell? ⟨B, 7, none⟩ = some (.slice k1 k2 k3) := Blk.cell hbx5 7
    have zb7 := Blk.frozen hbx5 7
    have lb7 := Blk.lt hbx5
    clear hr5 hf5 kb hbx5
    go_upto_region 20 with (fail)
    obtain ⟨W7, hW7⟩ : ∃ W7, (w5.alloc (.cells #[.int .i64 x5] 3)).setCell ⟨B, 7, none⟩ (.slice (some ⟨w5.heap.size, 0, none⟩) 1 1) = W7 := ⟨_, rfl⟩
    rw [hW7] at KB ⊢
    clear hW7 yb7 zb7 lb7
    have HQ7 := hide (HNE.out _ _ _ wDone _ _ KB.out.ri)
    obtain ⟨bn7, hbn7⟩ : ∃ bn, isB T5 wDone = bn := ⟨_, rfl⟩
    have HBN7 := hide hbn7
    have hgd7 := KB.out.ri.good
    unfold needR at HQ7
    rw [hbn7] at HQ7
    unfold wDone GPost vUnit at HQ7
    clear hbn7
    go_wp2_with fail
    refine HQ7.out.mono ?_
    cases bn7 with
    | false =>
     obtain ⟨tz, rz, hz⟩ := hgd7.ne
     have HRZ := hide (show R = wrongR (T5) by rw [HR5.out]; (try rw [PR.bind_ok]); rw [need_no HBN7.out]; rw [hz]; rfl)
     rw [hz] at HRZ ⊢
     rintro e wc ⟨rfl, hfc⟩
     refine post_panicP rfl ?_
     rw [HRZ.out]
     exact (⟨rfl, KB.out.fr.trans hfc.unbox⟩ : _ ∧ _)
    | true =>
     obtain ⟨hgt7, hlt7⟩ := is_tail hgd7 HBN7.out
     have HGT7 := hide hgt7
     have HLT7 := hide hlt7
     have HR7 := hide (show R = layR { kind := kd, name := nm, inn := inn, sets := sets, words := words, redirs := rds, pats := pats, kids := [x5] } T5.tail n5 by rw [HR5.out]; (try rw [PR.bind_ok]); rw [need_yes HBN7.out]; rfl)
     rintro e wc7 ⟨v, rfl, rfl, hr_, hf_⟩
     have K7 := hide (KB.out.step hr_ hf_)
     clear hr_ hf_ hgt7 hlt7 hgd7
     unfold layR at HR7
     obtain ⟨q0, q1, q2, q3, q4, q5, q6, q7, lB⟩ := box8 K7.out.box
     have HLz := hide (by have := HL.out av _ _ T5.tail n5 { kind := kd, name := nm, inn := inn, sets := sets, words := words, redirs := rds, pats := pats, kids := [x5] } (.slice a1 a2 a3) (.slice b1 b2 b3) (.slice r1 r2 r3) (.slice p1 p2 p3) (.slice (some ⟨w5.heap.size, 0, none⟩) 1 1) K7.out.plain K7.out.nd (by have := HLF5.out.few; have := HLT7.out; have := HFW.out; have := HLen.out; have := HLf.out.2; omega); unfold ndCells sv at this; simp only [] at this; exact this)
     have HZF := hide K7.out.fr
     go_wp2_with fail
     refine HLz.out.mono ?_
     rintro e wl ⟨v, rfl, rfl, hrl, hfl⟩
     have HIl := hide hrl.unbox
     have HFl := hide (HZF.out.trans hfl.unbox)
     clear hrl hfl q0 q1 q2 q3 q4 q5 q6 q7 lB
     go_wp2_with fail
     rw [HR7.out]
     go_ret
     exact ⟨_, rfl, rfl, HIl.out, HFl.out⟩
 ·obtain rfl : tt = [99, 97, 115, 101] := h
  have HRc := hide (show R = (caseF (lst d) r ns).bind fun n ts ns => layR n ts ns from HR.out)
  have HQ4 := hide (HCAS.out av (Bx base B) W1 r ns HAV2.out HI.out HLr.out)
  obtain ⟨PF, hpf⟩ : ∃ PF, caseF (lst d) r ns = PF := ⟨_, rfl⟩
  rw [hpf] at HQ4
  have HPF := hide hpf
  unfold GPost vNode at HQ4
  clear HR HPRE hpf
  go_wp2_with fail
  refine HQ4.out.mono ?_
  cases PF with
  | bad a e =>
   rintro e w2 ⟨rfl, hf⟩
   refine post_panicP rfl ?_
   rw [HRc.out, HPF.out]
   exact (⟨rfl, HFI.out.trans hf.unbox⟩ : _ ∧ _)
  | ok nd Tf nf =>
   have hco := case_ok HD.out HGr.out HPF.out
   rintro e w4 ⟨v, rfl, ⟨ca, cb, cr, cp, ck, rfl, hnd⟩, hr4, hf4⟩
   have HR4 := hide (show R = layR nd Tf nf by rw [HRc.out, HPF.out]; rfl)
   obtain ⟨a1, a2, a3, b1, b2, b3, r1, r2, r3, p1, p2, p3, k1, k2, k3, rfl, rfl, rfl, rfl, rfl⟩ := hnd.forms
   obtain ⟨kd, nm, inn, sets, words, rds, pats, kids⟩ := nd
   have hbx4 := hf4.keep HBX.out
   have KA := hide (CoBt.all (n := ⟨kd, nm, inn, sets, words, rds, pats, kids⟩) hbx4 HBl.out hr4 (HFI.out.trans hf4.unbox) hnd)
   unfold put8 at KA
   obtain ⟨y0, y1, y2, y3, y4, y5, y6, y7, lB⟩ := box8 hbx4
   have zb0 := Blk.frozen hbx4 0
   have zb1 := Blk.frozen hbx4 1
   have zb2 := Blk.frozen hbx4 2
   have zb3 := Blk.frozen hbx4 3
   have zb4 := Blk.frozen hbx4 4
   have zb5 := Blk.frozen hbx4 5
   have zb6 := Blk.frozen hbx4 6
   have zb7 := Blk.frozen hbx4 7
   simp only [ndCells, sv]
   go_upto_region 23 with (fail)
   generalize ((((((((w4.setCell ⟨B, 0, none⟩ (.int .i64 kd)).setCell ⟨B, 1, none⟩ (.string ⟨nm.toArray⟩)).setCell ⟨B, 2, none⟩ (.bool inn)).setCell ⟨B, 3, none⟩ (.slice a1 a2 a3)).setCell ⟨B, 4, none⟩ (.slice b1 b2 b3)).setCell ⟨B, 5, none⟩ (.slice r1 r2 r3)).setCell ⟨B, 6, none⟩ (.slice p1 p2 p3)).setCell ⟨B, 7, none⟩ (.slice k1 k2 k3)) = W6 at KA ⊢
   clear y0 y1 y2 y3 y4 y5 y6 y7 lB zb0 zb1 zb2 zb3 zb4 zb5 zb6 zb7
   have HFE := hide (show nf.length + 1 + 10 * Tf.length ≤ 100000 by have h1 := hco.2.2.1; have := HFW.out; have := HLen.out; omega)
   unfold layR at HR4
   clear hr4 hf4 hnd hbx4 hco
   obtain ⟨q0, q1, q2, q3, q4, q5, q6, q7, lB⟩ := box8 KA.out.box
   have HLz := hide (by have := HL.out av _ _ Tf nf { kind := kd, name := nm, inn := inn, sets := sets, words := words, redirs := rds, pats := pats, kids := kids } (.slice a1 a2 a3) (.slice b1 b2 b3) (.slice r1 r2 r3) (.slice p1 p2 p3) (.slice k1 k2 k3) KA.out.plain KA.out.nd HFE.out; unfold ndCells sv at this; simp only [] at this; exact this)
   have HZF := hide KA.out.fr
   go_wp2_with fail
   refine HLz.out.mono ?_
   rintro e wl ⟨v, rfl, rfl, hrl, hfl⟩
   have HIl := hide hrl.unbox
   have HFl := hide (HZF.out.trans hfl.unbox)
   clear hrl hfl q0 q1 q2 q3 q4 q5 q6 q7 lB
   go_wp2_with fail
   rw [HR4.out]
   go_ret
   exact ⟨_, rfl, rfl, HIl.out, HFl.out⟩
end Go.Proofs.Ytgpfjcogaheopaa
