/- The printer: node. -/
import Derived.Test.YtdhfhphbkfgamaaME
import Derived.Test.YtdhfhphbkfgamaaPermP
import Derived.Deep.LoopGhost
namespace Go.Proofs.Ytdhfhphbkfgamaa
open Go.RowKit Lx
set_option maxRecDepth 100000

/-- What a list of nodes must be, to be printed. -/
structure Cy (l : List Nd) : Prop extends Cx l where
  li : ∀ n ∈ l, Lite n
  pl : ∀ n ∈ l, n.pats.length ≤ 100000
theorem body_2 {l : List Nd} {rec : Nat → List (List UInt8)} {n : Nd} (h : n.kind = 2) : bodyE l rec n = [[33, 32]] ++ kidE rec n 0 := by
  unfold bodyE
  rw [if_neg (by omega), if_pos h]
theorem body_7 {l : List Nd} {rec : Nat → List (List UInt8)} {n : Nd} (h : n.kind = 7) : bodyE l rec n = kidE rec n 0 ++ [[32, 38]] := by
  unfold bodyE
  rw [if_neg (by omega), if_neg (by omega), if_pos h]
theorem body_3 {l : List Nd} {rec : Nat → List (List UInt8)} {n : Nd} (h : n.kind = 3) : bodyE l rec n = kidsE rec n [32, 124, 32] n.kids.length := by
  unfold bodyE
  rw [if_neg (by omega), if_neg (by omega), if_neg (by omega), if_pos h]
theorem body_4 {l : List Nd} {rec : Nat → List (List UInt8)} {n : Nd} (h : n.kind = 4) : bodyE l rec n = kidsE rec n [32, 38, 38, 32] n.kids.length := by
  unfold bodyE
  rw [if_neg (by omega), if_neg (by omega), if_neg (by omega), if_neg (by omega), if_pos h]
theorem body_5 {l : List Nd} {rec : Nat → List (List UInt8)} {n : Nd} (h : n.kind = 5) : bodyE l rec n = kidsE rec n [32, 124, 124, 32] n.kids.length := by
  unfold bodyE
  rw [if_neg (by omega), if_neg (by omega), if_neg (by omega), if_neg (by omega), if_neg (by omega), if_pos h]
theorem body_6 {l : List Nd} {rec : Nat → List (List UInt8)} {n : Nd} (h : n.kind = 6) : bodyE l rec n = seqE l rec n n.kids.length := by
  unfold bodyE
  rw [if_neg (by omega), if_neg (by omega), if_neg (by omega), if_neg (by omega), if_neg (by omega), if_neg (by omega), if_pos h]
theorem body_8 {l : List Nd} {rec : Nat → List (List UInt8)} {n : Nd} (h : n.kind = 8) : bodyE l rec n = [[123, 32]] ++ listE l rec n 0 ++ [[125]] := by
  unfold bodyE
  rw [if_neg (by omega), if_neg (by omega), if_neg (by omega), if_neg (by omega), if_neg (by omega), if_neg (by omega), if_neg (by omega), if_pos h]
theorem body_9 {l : List Nd} {rec : Nat → List (List UInt8)} {n : Nd} (h : n.kind = 9) : bodyE l rec n = [[40, 32]] ++ kidE rec n 0 ++ [[32, 41]] := by
  unfold bodyE
  rw [if_neg (by omega), if_neg (by omega), if_neg (by omega), if_neg (by omega), if_neg (by omega), if_neg (by omega), if_neg (by omega), if_neg (by omega), if_pos h]
theorem body_10 {l : List Nd} {rec : Nat → List (List UInt8)} {n : Nd} (h : n.kind = 10) : bodyE l rec n = [[105, 102, 32]] ++ listE l rec n 0 ++ [[116, 104, 101, 110, 32]] ++ listE l rec n 1 ++ (if elifB l n = true then [[101, 108]] ++ kidE rec n 2 else if 2 < n.kids.length then [[101, 108, 115, 101, 32]] ++ listE l rec n 2 ++ [[102, 105]] else [[102, 105]]) := by
  unfold bodyE
  rw [if_neg (by omega), if_neg (by omega), if_neg (by omega), if_neg (by omega), if_neg (by omega), if_neg (by omega), if_neg (by omega), if_neg (by omega), if_neg (by omega), if_pos h]
theorem body_11 {l : List Nd} {rec : Nat → List (List UInt8)} {n : Nd} (h : n.kind = 11) : bodyE l rec n = [[119, 104, 105, 108, 101, 32]] ++ listE l rec n 0 ++ [[100, 111, 32]] ++ listE l rec n 1 ++ [[100, 111, 110, 101]] := by
  unfold bodyE
  rw [if_neg (by omega), if_neg (by omega), if_neg (by omega), if_neg (by omega), if_neg (by omega), if_neg (by omega), if_neg (by omega), if_neg (by omega), if_neg (by omega), if_neg (by omega), if_pos (.inl h), if_pos h]
theorem body_12 {l : List Nd} {rec : Nat → List (List UInt8)} {n : Nd} (h : n.kind = 12) : bodyE l rec n = [[117, 110, 116, 105, 108, 32]] ++ listE l rec n 0 ++ [[100, 111, 32]] ++ listE l rec n 1 ++ [[100, 111, 110, 101]] := by
  unfold bodyE
  rw [if_neg (by omega), if_neg (by omega), if_neg (by omega), if_neg (by omega), if_neg (by omega), if_neg (by omega), if_neg (by omega), if_neg (by omega), if_neg (by omega), if_neg (by omega), if_pos (.inr h), if_neg (by omega)]
theorem body_13 {l : List Nd} {rec : Nat → List (List UInt8)} {n : Nd} (h : n.kind = 13) : bodyE l rec n = [[102, 111, 114, 32], n.name] ++ (if n.inn = true then [[32, 105, 110]] ++ wordsE n.words true else []) ++ [[59, 32, 100, 111, 32]] ++ listE l rec n 0 ++ [[100, 111, 110, 101]] := by
  unfold bodyE
  rw [if_neg (by omega), if_neg (by omega), if_neg (by omega), if_neg (by omega), if_neg (by omega), if_neg (by omega), if_neg (by omega), if_neg (by omega), if_neg (by omega), if_neg (by omega), if_neg (by omega), if_pos h]
theorem body_14 {l : List Nd} {rec : Nat → List (List UInt8)} {n : Nd} (h : n.kind = 14) : bodyE l rec n = casesE rec n := by
  unfold bodyE
  rw [if_neg (by omega), if_neg (by omega), if_neg (by omega), if_neg (by omega), if_neg (by omega), if_neg (by omega), if_neg (by omega), if_neg (by omega), if_neg (by omega), if_neg (by omega), if_neg (by omega), if_neg (by omega), if_pos h]
theorem body_15 {l : List Nd} {rec : Nat → List (List UInt8)} {n : Nd} (h : n.kind = 15) : bodyE l rec n = [n.name, [40, 41, 32]] ++ kidE rec n 0 := by
  unfold bodyE
  rw [if_neg (by omega), if_neg (by omega), if_neg (by omega), if_neg (by omega), if_neg (by omega), if_neg (by omega), if_neg (by omega), if_neg (by omega), if_neg (by omega), if_neg (by omega), if_neg (by omega), if_neg (by omega), if_neg (by omega), if_pos h]
theorem words_new (n0 pb : Nat) (l : List Nd) (b s : List UInt8) (m : Bool) (w : World) (h : PrIs n0 w pb l b) :
    Calls Try.prog 29 #[.pointer (some ⟨pb, 0, none⟩), .slice (some ⟨w.heap.size, 0, none⟩) 1 1, .bool m] (w.alloc (.cells #[sv s] 9)) fun e w' => e = .returned (.bool (wordsM [s] m)) ∧ PrIs n0 w' pb l (putsF b (wordsE [s] m)) ∧ PF n0 w w' := by
  have hg := World.grownBy_alloc w (.cells #[sv s] 9) none
  have ho : Own (w.alloc (.cells #[sv s] 9)) 9 1 (.slice (some ⟨w.heap.size, 0, none⟩) 1 1) 1 [sv s] 0 := blk_own (Blk.new w 9 [sv s].toArray) (by simp)
  refine (words_any n0 pb l b [s] m _ _ (h.grown hg) (own_rowsK ho (by decide) (by decide))).mono ?_
  rintro e w' ⟨rfl, h1, h2⟩
  exact ⟨rfl, h1, (PF.of_grown hg).trans h2⟩
theorem rd_len (L : List Rd) : (L.flatMap Rd.cells).length = L.length * 3 := by
  induction L with
  | nil => rfl
  | cons x r ih => rw [List.flatMap_cons, List.length_append, ih, List.length_cons]; show 3 + _ = _; omega
theorem rd_get (L : List Rd) : ∀ (i j : Nat) (h : i < L.length) (_ : j < 3), (L.flatMap Rd.cells)[i * 3 + j]? = (L[i]).cells[j]? := by
  induction L with
  | nil => intro i j h; simp at h
  | cons x r ih =>
    intro i j h hj
    rw [List.flatMap_cons]
    have hl : x.cells.length = 3 := rfl
    cases i with
    | zero => rw [Nat.zero_mul, Nat.zero_add, List.getElem?_append_left (by omega)]; rfl
    | succ i =>
      rw [List.getElem?_append_right (by omega), hl, show (i + 1) * 3 + j - 3 = i * 3 + j by omega]
      exact ih i j (by simpa using h) hj
theorem RdR.get {n0 : Nat} {w : World} {a : Option Addr} {m cap : Nat} {L : List Rd} (h : RdR n0 w (.slice a m cap) L) (i : Nat) (hi : i < L.length) : ∃ g off, a = some ⟨g, off, none⟩ ∧ g < w.heap.size ∧ w.cell? ⟨g, off + i * 3, none⟩ = some (.int .i64 (L[i]).fd) ∧ w.cell? ⟨g, off + i * 3 + 1, none⟩ = some (sv (L[i]).op) ∧ w.cell? ⟨g, off + i * 3 + 2, none⟩ = some (sv (L[i]).wd) := by
  obtain ⟨a2, cap2, hv, h1, _, h2⟩ := h.now
  injection hv with hv _ _
  obtain ⟨g, off, ha, hg, hc⟩ := h2 (by omega)
  refine ⟨g, off, hv.trans ha, hg, hc _ _ (rd_get L i 0 hi (by omega)), ?_, ?_⟩
  · rw [Nat.add_assoc]; exact hc _ _ (rd_get L i 1 hi (by omega))
  · rw [Nat.add_assoc]; exact hc _ _ (rd_get L i 2 hi (by omega))
theorem wpList_convertX {P : Program} {ops : Array Oper} {Q : Exit → Act → World → Prop} {rest : List Oper} {a : Act} {w : World} {d : Option Tmp} {t src dst : TypeId} {pos : String} {af : Array Edge} {x : Operand} (v0 v : Value)
    (hx : a.eval x = v0) (hr : (convert src dst v0).run P w = .ok v w) (h : wpList P ops Q rest (a.put d v) w) : wpList P ops Q (⟨d, .convert src dst x, t, pos, af, none⟩ :: rest) a w := by
  subst hx
  exact wpList_convert v hr h
theorem fd_cases {fd : Int} (h : 0 ≤ fd ∧ fd ≤ 9) : fd = 0 ∨ fd = 1 ∨ fd = 2 ∨ fd = 3 ∨ fd = 4 ∨ fd = 5 ∨ fd = 6 ∨ fd = 7 ∨ fd = 8 ∨ fd = 9 := by omega
theorem enc1 {fd : Int} (h : 0 ≤ fd ∧ fd ≤ 9) : Utf8.encode (48 + fd) = ⟨#[UInt8.ofNat (48 + fd.toNat)]⟩ := by
  rcases fd_cases h with rfl | rfl | rfl | rfl | rfl | rfl | rfl | rfl | rfl | rfl <;> kernel_rfl
set_option maxHeartbeats 64000000 in
theorem node_step (n0 pb f : Nat) (l : List Nd) (hcy : Cy l) (hN : NodeOk n0 pb l (nodeE l f) (min f l.length)) (i : Nat) (hi : i < min (f + 1) l.length) (b : List UInt8) (w : World) (h : PrIs n0 w pb l b) :
    Calls Try.prog 15 #[.pointer (some ⟨pb, 0, none⟩), .int .i64 i] w fun e w' => e = .returned (.tuple #[]) ∧ PrIs n0 w' pb l (putsF b (nodeE l (f + 1) i)) ∧ PF n0 w w' := by
  have hj : i < l.length := by omega
  have HPr := hide h
  obtain ⟨v, p, buf, hA, hp, hNs, hbl⟩ := h
  have z0 := hA.cells.1
  have lpb := Blk.lt hA.blk
  obtain ⟨g, off, cap, x1, x2, x3, x4, x5, rfl, hcap, hmx, hg, hn, e0, e1, e2, e3, e4, e5, e6, e7⟩ := hNs.at_ i hj
  obtain ⟨a1, c1, a2, c2, a3, c3, a4, c4, a, kcap, rfl, rfl, rfl, rfl, rfl⟩ := hn.forms
  have hko1 := hcy.ko i hj
  have hkl := hcy.ks l[i] (List.getElem_mem hj)
  have hli := hcy.li l[i] (List.getElem_mem hj)
  have hpl := hcy.pl l[i] (List.getElem_mem hj)
  have hjb : (0 : Int) ≤ i ∧ (i : Int) < (l.length : Int) := by omega
  have hnode : nodeE l (f + 1) i = bodyE l (nodeE l f) l[i] ++ wordsE (l[i].redirs.map redE) (moreB l[i]) := by
    show bodyE l (nodeE l f) (ndF l i) ++ wordsE ((ndF l i).redirs.map redE) (moreB (ndF l i)) = _
    rw [ndF_at rfl hj]
  obtain ⟨n, hne⟩ : ∃ n, l[i] = n := ⟨_, rfl⟩
  rw [hne] at hn e0 e1 e2 e3 e4 e5 e6 e7 hko1 hkl hli hpl hnode
  rw [hnode, puts_app]
  have hkm : KidsLt n (min f l.length) := ⟨hkl, fun k hk => by rcases hko1 k hk with h | h <;> omega⟩
  have hgw := World.grownBy_alloc w (.cells #[.int .i64 n.kind, .string ⟨n.name.toArray⟩, .bool n.inn, .slice a1 n.sets.length c1, .slice a2 n.words.length c2, .slice a3 n.redirs.length c3, .slice a4 n.pats.length c4, .slice a n.kids.length kcap] 35) none
  have hB := Blk.new w 35 #[.int .i64 n.kind, .string ⟨n.name.toArray⟩, .bool n.inn, .slice a1 n.sets.length c1, .slice a2 n.words.length c2, .slice a3 n.redirs.length c3, .slice a4 n.pats.length c4, .slice a n.kids.length kcap]
  have HNd := hide (NdR.pf hn (PF.of_grown (n0 := n0) hgw))
  have HP := hide (HPr.out.grown hgw)
  have HF := hide (PF.of_grown (n0 := n0) hgw)
  obtain ⟨W, hW⟩ : ∃ W, w.alloc (.cells #[.int .i64 n.kind, .string ⟨n.name.toArray⟩, .bool n.inn, .slice a1 n.sets.length c1, .slice a2 n.words.length c2, .slice a3 n.redirs.length c3, .slice a4 n.pats.length c4, .slice a n.kids.length kcap] 35) = W := ⟨_, rfl⟩
  rw [hW] at hB HNd HP HF
  have HW := hide hW
  obtain ⟨B, hBe⟩ : ∃ B, w.heap.size = B := ⟨_, rfl⟩
  rw [hBe] at hB
  have HBe := hide hBe
  have HB := hide hB
  have HF0 := hide (PF.refl n0 W)
  have HP1 := hide (fun b L W (hW : PrIs n0 W pb l b) (hL : L.length ≤ 1000) => put_new n0 pb l b L W hW hL)
  have HWd := hide (fun b L m v W (hW : PrIs n0 W pb l b) (hL : StrR n0 W v L) => words_any n0 pb l b L m v W hW hL)
  have HKid := hide (fun i b W (hW : PrIs n0 W pb l b) (hN2 : NdR n0 W (.slice a1 n.sets.length c1) (.slice a2 n.words.length c2) (.slice a3 n.redirs.length c3) (.slice a4 n.pats.length c4) (.slice a n.kids.length kcap) n) (hi : i ≤ 100000) => kid_any n0 pb _ l _ hN b n _ _ _ _ _ i W hkm hW hN2 hi)
  have HLst := hide (fun i b W (hW : PrIs n0 W pb l b) (hN2 : NdR n0 W (.slice a1 n.sets.length c1) (.slice a2 n.words.length c2) (.slice a3 n.redirs.length c3) (.slice a4 n.pats.length c4) (.slice a n.kids.length kcap) n) (hi : i ≤ 100000) => list_any16 n0 pb _ l _ hN hcy.toCx (by omega) b n _ _ _ _ _ i W hkm hW hN2 hi)
  have HKs := hide (fun u b W (hW : PrIs n0 W pb l b) (hN2 : NdR n0 W (.slice a1 n.sets.length c1) (.slice a2 n.words.length c2) (.slice a3 n.redirs.length c3) (.slice a4 n.pats.length c4) (.slice a n.kids.length kcap) n) => kids_any n0 pb _ l _ hN b n _ _ _ _ _ u W hkm hW hN2)
  have HSq := hide (fun (hk0 : ∀ k ∈ n.kids, 0 ≤ k) b W (hW : PrIs n0 W pb l b) (hN2 : NdR n0 W (.slice a1 n.sets.length c1) (.slice a2 n.words.length c2) (.slice a3 n.redirs.length c3) (.slice a4 n.pats.length c4) (.slice a n.kids.length kcap) n) => seq_any n0 pb _ l _ hN hcy.toCx (by omega) b n _ _ _ _ _ W hkm hk0 hW hN2)
  have HCs := hide (fun b W (hW : PrIs n0 W pb l b) (hN2 : NdR n0 W (.slice a1 n.sets.length c1) (.slice a2 n.words.length c2) (.slice a3 n.redirs.length c3) (.slice a4 n.pats.length c4) (.slice a n.kids.length kcap) n) => cases_any n0 pb _ l _ hN b n _ _ _ _ _ W hkm hli hW hN2 hpl)
  have HEl := hide (fun b W (hW : PrIs n0 W pb l b) (hN2 : NdR n0 W (.slice a1 n.sets.length c1) (.slice a2 n.words.length c2) (.slice a3 n.redirs.length c3) (.slice a4 n.pats.length c4) (.slice a n.kids.length kcap) n) => elif_any n0 pb _ l hcy.toCx (Nat.min_le_right f l.length) b n _ _ _ _ _ W hkm hW hN2)
  unfold ndCells sv at HKid HLst HKs HSq HCs HEl
  unfold sv at e1
  clear hA hNs hp hnode hne hn hgw hW hBe hB HPr hkm hN
  go_enter Try.func15, Try.ntmps15
  go_upto_region 1 with (fail)
  rw [HW.out, HBe.out]
  clear e0 e1 e2 e3 e4 e5 e6 e7 z0 lpb hg
  have k0 := Blk.cell HB.out 0
  have k1 := Blk.cell HB.out 1
  have k2 := Blk.cell HB.out 2
  have k3 := Blk.cell HB.out 3
  have k4 := Blk.cell HB.out 4
  have k5 := Blk.cell HB.out 5
  have k6 := Blk.cell HB.out 6
  have k7 := Blk.cell HB.out 7
  have lB := Blk.lt HB.out
  go_upto_block 0 with (fail)
  go_cut [5] (fun v wc => v = .bool (moreB n) ∧ PrIs n0 wc pb l (putsF b (bodyE l (nodeE l f) n)) ∧ PF n0 W wc)
  case first =>
    by_cases h1 : n.kind = 1
    · as_aux_lemma =>
        have qs : (n.kind == 1) = true := by rw [beq_iff_eq]; exact h1
        have HMO := hide (show moreB n = wordsM n.words (wordsM n.sets false) by unfold moreB; rw [if_pos h1])
        have HBODY := hide (show bodyE l (nodeE l f) n = wordsE n.sets false ++ wordsE n.words (wordsM n.sets false) by unfold bodyE; rw [if_pos h1])
        have H1 := hide h1
        clear h1
        go_upto_region 4 with (fail)
        have gd := only_drew (only_refl W none)
        have HPd := hide (HP.out.grown gd)
        have HFd := hide (PF.of_grown (n0 := n0) gd)
        refine wp_region_perm [0, 1, 2, 3, 4, 5] [6, 7, 8] (by kernel_rfl) (by kernel_rfl) (fun W2 => W2.cell? ⟨B, 3, none⟩ = some (.slice a1 n.sets.length c1) ∧ W2.cell? ⟨B, 4, none⟩ = some (.slice a2 n.words.length c2)) ⟨k3, k4⟩ ?_
        simp only [pick, List.getElem?_cons_zero, List.getElem?_cons_succ]
        refine wpTake_cons ?_ (by rfl) ?_ ?_
        rotate_left
        · (intro W9 hSW; obtain ⟨j0, j1⟩ := hSW; go_simp; try with_reducible rfl)
        simp only [Act.put, List.setIfInBounds_toArray, List.set_cons_zero, List.set_cons_succ]
        refine wpTake_cons ?_ (by rfl) ?_ ?_
        rotate_left
        · (intro W9 hSW; obtain ⟨j0, j1⟩ := hSW; go_simp; try with_reducible rfl)
        simp only [Act.put, List.setIfInBounds_toArray, List.set_cons_zero, List.set_cons_succ]
        refine wpTake_cons ?_ (by rfl) ?_ ?_
        rotate_left
        · (intro W9 hSW; obtain ⟨j0, j1⟩ := hSW; go_simp; try with_reducible rfl)
        simp only [Act.put, List.setIfInBounds_toArray, List.set_cons_zero, List.set_cons_succ]
        refine wpTake_cons ?_ (by rfl) ?_ ?_
        rotate_left
        · (intro W9 hSW; obtain ⟨j0, j1⟩ := hSW; go_simp; try with_reducible rfl)
        simp only [Act.put, List.setIfInBounds_toArray, List.set_cons_zero, List.set_cons_succ]
        refine wpTake_cons ?_ (by rfl) ?_ ?_
        rotate_left
        · (intro W9 hSW; obtain ⟨j0, j1⟩ := hSW; go_simp; try with_reducible rfl)
        simp only [Act.put, List.setIfInBounds_toArray, List.set_cons_zero, List.set_cons_succ]
        refine wpTake_cons ?_ (by rfl) ?_ ?_
        rotate_left
        · (intro W9 hSW; obtain ⟨j0, j1⟩ := hSW; go_simp; try with_reducible rfl)
        simp only [Act.put, List.setIfInBounds_toArray, List.set_cons_zero, List.set_cons_succ]
        refine wpTake_nil ?_
        refine wpForce_cons fun K1 hK1 => ?_
        refine step_callP (by rfl) (by simp [execOp, resolve, invoke, go_sem]) (HWd.out b n.sets false _ _ HPd.out (StrR.pf HNd.out.sets HFd.out)) (fun w' h => by cases h.1) ?_ (fun c w' h => by cases h.1)
        rintro v wa ⟨hv, hPa, hFa⟩
        injection hv with hv
        subst hv
        have HPa := hide hPa
        have HFa := hide (HFd.out.trans hFa)
        clear hPa hFa
        have hBa := HFa.out.blk HB.out (by decide) (by decide)
        refine hK1.out _ _ ⟨Blk.cell hBa 3, Blk.cell hBa 4⟩ ?_
        simp only [Act.put, List.setIfInBounds_toArray, List.set_cons_zero, List.set_cons_succ]
        refine wpForce_cons fun K2 hK2 => ?_
        refine step_callP (by rfl) (by simp [execOp, resolve, invoke, go_sem]) (HWd.out _ n.words (wordsM n.sets false) _ _ HPa.out (StrR.pf HNd.out.words HFa.out)) (fun w' h => by cases h.1) ?_ (fun c w' h => by cases h.1)
        rintro v wb ⟨hv, hPb, hFb⟩
        injection hv with hv
        subst hv
        have HPb := hide hPb
        have HFb := hide (HFa.out.trans hFb)
        clear hPb hFb
        have hBb := HFb.out.blk HB.out (by decide) (by decide)
        refine hK2.out _ _ ⟨Blk.cell hBb 3, Blk.cell hBb 4⟩ ?_
        simp only [Act.put, List.setIfInBounds_toArray, List.set_cons_zero, List.set_cons_succ]
        refine wpForce_one ?_
        clear hK1 hK2 K1 K2 hBa hBb k0 k1 k2 k3 k4 k5 k6 k7 lB gd
        go_wp2_with fail
        refine NoPanic.normal ?_
        go_wp2_with fail
        go_meet
        case rel => exact ⟨by rw [HMO.out], by rw [HBODY.out, puts_app]; exact HPb.out, HFb.out⟩
    have q1 : (n.kind == 1) = false := by rw [beq_eq_false_iff_ne]; exact h1
    have H1 := hide h1
    clear h1
    by_cases h2 : n.kind = 2
    · as_aux_lemma =>
        have qs : (n.kind == 2) = true := by rw [beq_iff_eq]; exact h2
        have hmo : moreB n = true := by unfold moreB; rw [if_neg H1.out]
        have hbody0 := body_2 (l := l) (rec := nodeE l f) h2
        have HMO := hide hmo
        have HBODY := hide (show bodyE l (nodeE l f) n = [[33, 32]] ++ kidE (nodeE l f) n 0 from hbody0)
        have H2 := hide h2
        clear hbody0 hmo h2
        go_wp2_with fail
        refine (HP1.out _ [[33, 32]] _ HP.out (by simp)).mono ?_
        rintro e v1 ⟨rfl, hP, hF⟩
        have HPs1 := hide hP
        have HFs1 := hide (HF0.out.trans hF)
        clear hP hF k0 k1 k2 k3 k4 k5 k6 k7 lB
        have hB5 := HFs1.out.blk HB.out (by decide) (by decide)
        have k0 := Blk.cell hB5 0
        have k1 := Blk.cell hB5 1
        have k2 := Blk.cell hB5 2
        have k3 := Blk.cell hB5 3
        have k4 := Blk.cell hB5 4
        have k5 := Blk.cell hB5 5
        have k6 := Blk.cell hB5 6
        have k7 := Blk.cell hB5 7
        have lB := Blk.lt hB5
        clear hB5
        go_wp2_with fail
        refine (HKid.out 0 _ _ HPs1.out (HNd.out.pf HFs1.out) (by omega)).mono ?_
        rintro e v2 ⟨rfl, hP, hF⟩
        have HPs2 := hide hP
        have HFs2 := hide (HFs1.out.trans hF)
        clear hP hF k0 k1 k2 k3 k4 k5 k6 k7 lB
        go_wp2_with fail
        go_meet
        case rel => exact ⟨by rw [HMO.out], by rw [HBODY.out]; (try simp only [puts_app]); exact HPs2.out, HFs2.out⟩
    have q2 : (n.kind == 2) = false := by rw [beq_eq_false_iff_ne]; exact h2
    have H2 := hide h2
    clear h2
    by_cases h7 : n.kind = 7
    · as_aux_lemma =>
        have qs : (n.kind == 7) = true := by rw [beq_iff_eq]; exact h7
        have hmo : moreB n = true := by unfold moreB; rw [if_neg H1.out]
        have hbody0 := body_7 (l := l) (rec := nodeE l f) h7
        have HMO := hide hmo
        have HBODY := hide (show bodyE l (nodeE l f) n = kidE (nodeE l f) n 0 ++ [[32, 38]] from hbody0)
        have H7 := hide h7
        clear hbody0 hmo h7
        go_wp2_with fail
        refine (HKid.out 0 _ _ HP.out (HNd.out.pf HF0.out) (by omega)).mono ?_
        rintro e v3 ⟨rfl, hP, hF⟩
        have HPs3 := hide hP
        have HFs3 := hide (HF0.out.trans hF)
        clear hP hF k0 k1 k2 k3 k4 k5 k6 k7 lB
        have hB5 := HFs3.out.blk HB.out (by decide) (by decide)
        have k0 := Blk.cell hB5 0
        have k1 := Blk.cell hB5 1
        have k2 := Blk.cell hB5 2
        have k3 := Blk.cell hB5 3
        have k4 := Blk.cell hB5 4
        have k5 := Blk.cell hB5 5
        have k6 := Blk.cell hB5 6
        have k7 := Blk.cell hB5 7
        have lB := Blk.lt hB5
        clear hB5
        go_wp2_with fail
        refine (HP1.out _ [[32, 38]] _ HPs3.out (by simp)).mono ?_
        rintro e v4 ⟨rfl, hP, hF⟩
        have HPs4 := hide hP
        have HFs4 := hide (HFs3.out.trans hF)
        clear hP hF k0 k1 k2 k3 k4 k5 k6 k7 lB
        go_wp2_with fail
        go_meet
        case rel => exact ⟨by rw [HMO.out], by rw [HBODY.out]; (try simp only [puts_app]); exact HPs4.out, HFs4.out⟩
    have q7 : (n.kind == 7) = false := by rw [beq_eq_false_iff_ne]; exact h7
    have H7 := hide h7
    clear h7
    by_cases h3 : n.kind = 3
    · as_aux_lemma =>
        have qs : (n.kind == 3) = true := by rw [beq_iff_eq]; exact h3
        have hmo : moreB n = true := by unfold moreB; rw [if_neg H1.out]
        have hbody0 := body_3 (l := l) (rec := nodeE l f) h3
        have HMO := hide hmo
        have HBODY := hide (show bodyE l (nodeE l f) n = kidsE (nodeE l f) n [32, 124, 32] n.kids.length from hbody0)
        have H3 := hide h3
        clear hbody0 hmo h3
        go_wp2_with fail
        refine (HKs.out [32, 124, 32] _ _ HP.out (HNd.out.pf HF0.out)).mono ?_
        rintro e v5 ⟨rfl, hP, hF⟩
        have HPs5 := hide hP
        have HFs5 := hide (HF0.out.trans hF)
        clear hP hF k0 k1 k2 k3 k4 k5 k6 k7 lB
        go_wp2_with fail
        go_meet
        case rel => exact ⟨by rw [HMO.out], by rw [HBODY.out]; (try simp only [puts_app]); exact HPs5.out, HFs5.out⟩
    have q3 : (n.kind == 3) = false := by rw [beq_eq_false_iff_ne]; exact h3
    have H3 := hide h3
    clear h3
    by_cases h4 : n.kind = 4
    · as_aux_lemma =>
        have qs : (n.kind == 4) = true := by rw [beq_iff_eq]; exact h4
        have hmo : moreB n = true := by unfold moreB; rw [if_neg H1.out]
        have hbody0 := body_4 (l := l) (rec := nodeE l f) h4
        have HMO := hide hmo
        have HBODY := hide (show bodyE l (nodeE l f) n = kidsE (nodeE l f) n [32, 38, 38, 32] n.kids.length from hbody0)
        have H4 := hide h4
        clear hbody0 hmo h4
        go_wp2_with fail
        refine (HKs.out [32, 38, 38, 32] _ _ HP.out (HNd.out.pf HF0.out)).mono ?_
        rintro e v6 ⟨rfl, hP, hF⟩
        have HPs6 := hide hP
        have HFs6 := hide (HF0.out.trans hF)
        clear hP hF k0 k1 k2 k3 k4 k5 k6 k7 lB
        go_wp2_with fail
        go_meet
        case rel => exact ⟨by rw [HMO.out], by rw [HBODY.out]; (try simp only [puts_app]); exact HPs6.out, HFs6.out⟩
    have q4 : (n.kind == 4) = false := by rw [beq_eq_false_iff_ne]; exact h4
    have H4 := hide h4
    clear h4
    by_cases h5 : n.kind = 5
    · as_aux_lemma =>
        have qs : (n.kind == 5) = true := by rw [beq_iff_eq]; exact h5
        have hmo : moreB n = true := by unfold moreB; rw [if_neg H1.out]
        have hbody0 := body_5 (l := l) (rec := nodeE l f) h5
        have HMO := hide hmo
        have HBODY := hide (show bodyE l (nodeE l f) n = kidsE (nodeE l f) n [32, 124, 124, 32] n.kids.length from hbody0)
        have H5 := hide h5
        clear hbody0 hmo h5
        go_wp2_with fail
        refine (HKs.out [32, 124, 124, 32] _ _ HP.out (HNd.out.pf HF0.out)).mono ?_
        rintro e v7 ⟨rfl, hP, hF⟩
        have HPs7 := hide hP
        have HFs7 := hide (HF0.out.trans hF)
        clear hP hF k0 k1 k2 k3 k4 k5 k6 k7 lB
        go_wp2_with fail
        go_meet
        case rel => exact ⟨by rw [HMO.out], by rw [HBODY.out]; (try simp only [puts_app]); exact HPs7.out, HFs7.out⟩
    have q5 : (n.kind == 5) = false := by rw [beq_eq_false_iff_ne]; exact h5
    have H5 := hide h5
    clear h5
    by_cases h6 : n.kind = 6
    · as_aux_lemma =>
        have qs : (n.kind == 6) = true := by rw [beq_iff_eq]; exact h6
        have hmo : moreB n = true := by unfold moreB; rw [if_neg H1.out]
        have hk0 : ∀ k ∈ n.kids, 0 ≤ k := fun k hk => by rcases hko1 k hk with h | h <;> omega
        have hbody0 := body_6 (l := l) (rec := nodeE l f) h6
        have HMO := hide hmo
        have HBODY := hide (show bodyE l (nodeE l f) n = seqE l (nodeE l f) n n.kids.length from hbody0)
        have H6 := hide h6
        clear hbody0 hmo h6
        go_wp2_with fail
        refine (HSq.out hk0 _ _ HP.out (HNd.out.pf HF0.out)).mono ?_
        rintro e v8 ⟨rfl, hP, hF⟩
        have HPs8 := hide hP
        have HFs8 := hide (HF0.out.trans hF)
        clear hP hF k0 k1 k2 k3 k4 k5 k6 k7 lB
        go_wp2_with fail
        go_meet
        case rel => exact ⟨by rw [HMO.out], by rw [HBODY.out]; (try simp only [puts_app]); exact HPs8.out, HFs8.out⟩
    have q6 : (n.kind == 6) = false := by rw [beq_eq_false_iff_ne]; exact h6
    have H6 := hide h6
    clear h6
    by_cases h8 : n.kind = 8
    · as_aux_lemma =>
        have qs : (n.kind == 8) = true := by rw [beq_iff_eq]; exact h8
        have hmo : moreB n = true := by unfold moreB; rw [if_neg H1.out]
        have hbody0 := body_8 (l := l) (rec := nodeE l f) h8
        have HMO := hide hmo
        have HBODY := hide (show bodyE l (nodeE l f) n = [[123, 32]] ++ listE l (nodeE l f) n 0 ++ [[125]] from hbody0)
        have H8 := hide h8
        clear hbody0 hmo h8
        go_wp2_with fail
        refine (HP1.out _ [[123, 32]] _ HP.out (by simp)).mono ?_
        rintro e v9 ⟨rfl, hP, hF⟩
        have HPs9 := hide hP
        have HFs9 := hide (HF0.out.trans hF)
        clear hP hF k0 k1 k2 k3 k4 k5 k6 k7 lB
        have hB5 := HFs9.out.blk HB.out (by decide) (by decide)
        have k0 := Blk.cell hB5 0
        have k1 := Blk.cell hB5 1
        have k2 := Blk.cell hB5 2
        have k3 := Blk.cell hB5 3
        have k4 := Blk.cell hB5 4
        have k5 := Blk.cell hB5 5
        have k6 := Blk.cell hB5 6
        have k7 := Blk.cell hB5 7
        have lB := Blk.lt hB5
        clear hB5
        go_wp2_with fail
        refine (HLst.out 0 _ _ HPs9.out (HNd.out.pf HFs9.out) (by omega)).mono ?_
        rintro e v10 ⟨rfl, hP, hF⟩
        have HPs10 := hide hP
        have HFs10 := hide (HFs9.out.trans hF)
        clear hP hF k0 k1 k2 k3 k4 k5 k6 k7 lB
        have hB5 := HFs10.out.blk HB.out (by decide) (by decide)
        have k0 := Blk.cell hB5 0
        have k1 := Blk.cell hB5 1
        have k2 := Blk.cell hB5 2
        have k3 := Blk.cell hB5 3
        have k4 := Blk.cell hB5 4
        have k5 := Blk.cell hB5 5
        have k6 := Blk.cell hB5 6
        have k7 := Blk.cell hB5 7
        have lB := Blk.lt hB5
        clear hB5
        go_wp2_with fail
        refine (HP1.out _ [[125]] _ HPs10.out (by simp)).mono ?_
        rintro e v11 ⟨rfl, hP, hF⟩
        have HPs11 := hide hP
        have HFs11 := hide (HFs10.out.trans hF)
        clear hP hF k0 k1 k2 k3 k4 k5 k6 k7 lB
        go_wp2_with fail
        go_meet
        case rel => exact ⟨by rw [HMO.out], by rw [HBODY.out]; (try simp only [puts_app]); exact HPs11.out, HFs11.out⟩
    have q8 : (n.kind == 8) = false := by rw [beq_eq_false_iff_ne]; exact h8
    have H8 := hide h8
    clear h8
    by_cases h9 : n.kind = 9
    · as_aux_lemma =>
        have qs : (n.kind == 9) = true := by rw [beq_iff_eq]; exact h9
        have hmo : moreB n = true := by unfold moreB; rw [if_neg H1.out]
        have hbody0 := body_9 (l := l) (rec := nodeE l f) h9
        have HMO := hide hmo
        have HBODY := hide (show bodyE l (nodeE l f) n = [[40, 32]] ++ kidE (nodeE l f) n 0 ++ [[32, 41]] from hbody0)
        have H9 := hide h9
        clear hbody0 hmo h9
        go_wp2_with fail
        refine (HP1.out _ [[40, 32]] _ HP.out (by simp)).mono ?_
        rintro e v12 ⟨rfl, hP, hF⟩
        have HPs12 := hide hP
        have HFs12 := hide (HF0.out.trans hF)
        clear hP hF k0 k1 k2 k3 k4 k5 k6 k7 lB
        have hB5 := HFs12.out.blk HB.out (by decide) (by decide)
        have k0 := Blk.cell hB5 0
        have k1 := Blk.cell hB5 1
        have k2 := Blk.cell hB5 2
        have k3 := Blk.cell hB5 3
        have k4 := Blk.cell hB5 4
        have k5 := Blk.cell hB5 5
        have k6 := Blk.cell hB5 6
        have k7 := Blk.cell hB5 7
        have lB := Blk.lt hB5
        clear hB5
        go_wp2_with fail
        refine (HKid.out 0 _ _ HPs12.out (HNd.out.pf HFs12.out) (by omega)).mono ?_
        rintro e v13 ⟨rfl, hP, hF⟩
        have HPs13 := hide hP
        have HFs13 := hide (HFs12.out.trans hF)
        clear hP hF k0 k1 k2 k3 k4 k5 k6 k7 lB
        have hB5 := HFs13.out.blk HB.out (by decide) (by decide)
        have k0 := Blk.cell hB5 0
        have k1 := Blk.cell hB5 1
        have k2 := Blk.cell hB5 2
        have k3 := Blk.cell hB5 3
        have k4 := Blk.cell hB5 4
        have k5 := Blk.cell hB5 5
        have k6 := Blk.cell hB5 6
        have k7 := Blk.cell hB5 7
        have lB := Blk.lt hB5
        clear hB5
        go_wp2_with fail
        refine (HP1.out _ [[32, 41]] _ HPs13.out (by simp)).mono ?_
        rintro e v14 ⟨rfl, hP, hF⟩
        have HPs14 := hide hP
        have HFs14 := hide (HFs13.out.trans hF)
        clear hP hF k0 k1 k2 k3 k4 k5 k6 k7 lB
        go_wp2_with fail
        go_meet
        case rel => exact ⟨by rw [HMO.out], by rw [HBODY.out]; (try simp only [puts_app]); exact HPs14.out, HFs14.out⟩
    have q9 : (n.kind == 9) = false := by rw [beq_eq_false_iff_ne]; exact h9
    have H9 := hide h9
    clear h9
    by_cases h10 : n.kind = 10
    · as_aux_lemma =>
        have qs : (n.kind == 10) = true := by rw [beq_iff_eq]; exact h10
        have hmo : moreB n = true := by unfold moreB; rw [if_neg H1.out]
        have hbody0 := body_10 (l := l) (rec := nodeE l f) h10
        have HMO := hide hmo
        have H10 := hide h10
        clear hmo h10
        go_wp2_with fail
        refine (HP1.out _ [[105, 102, 32]] _ HP.out (by simp)).mono ?_
        rintro e v15 ⟨rfl, hP, hF⟩
        have HPs15 := hide hP
        have HFs15 := hide (HF0.out.trans hF)
        clear hP hF k0 k1 k2 k3 k4 k5 k6 k7 lB
        have hB5 := HFs15.out.blk HB.out (by decide) (by decide)
        have k0 := Blk.cell hB5 0
        have k1 := Blk.cell hB5 1
        have k2 := Blk.cell hB5 2
        have k3 := Blk.cell hB5 3
        have k4 := Blk.cell hB5 4
        have k5 := Blk.cell hB5 5
        have k6 := Blk.cell hB5 6
        have k7 := Blk.cell hB5 7
        have lB := Blk.lt hB5
        clear hB5
        go_wp2_with fail
        refine (HLst.out 0 _ _ HPs15.out (HNd.out.pf HFs15.out) (by omega)).mono ?_
        rintro e v16 ⟨rfl, hP, hF⟩
        have HPs16 := hide hP
        have HFs16 := hide (HFs15.out.trans hF)
        clear hP hF k0 k1 k2 k3 k4 k5 k6 k7 lB
        have hB5 := HFs16.out.blk HB.out (by decide) (by decide)
        have k0 := Blk.cell hB5 0
        have k1 := Blk.cell hB5 1
        have k2 := Blk.cell hB5 2
        have k3 := Blk.cell hB5 3
        have k4 := Blk.cell hB5 4
        have k5 := Blk.cell hB5 5
        have k6 := Blk.cell hB5 6
        have k7 := Blk.cell hB5 7
        have lB := Blk.lt hB5
        clear hB5
        go_wp2_with fail
        refine (HP1.out _ [[116, 104, 101, 110, 32]] _ HPs16.out (by simp)).mono ?_
        rintro e v17 ⟨rfl, hP, hF⟩
        have HPs17 := hide hP
        have HFs17 := hide (HFs16.out.trans hF)
        clear hP hF k0 k1 k2 k3 k4 k5 k6 k7 lB
        have hB5 := HFs17.out.blk HB.out (by decide) (by decide)
        have k0 := Blk.cell hB5 0
        have k1 := Blk.cell hB5 1
        have k2 := Blk.cell hB5 2
        have k3 := Blk.cell hB5 3
        have k4 := Blk.cell hB5 4
        have k5 := Blk.cell hB5 5
        have k6 := Blk.cell hB5 6
        have k7 := Blk.cell hB5 7
        have lB := Blk.lt hB5
        clear hB5
        go_wp2_with fail
        refine (HLst.out 1 _ _ HPs17.out (HNd.out.pf HFs17.out) (by omega)).mono ?_
        rintro e v18 ⟨rfl, hP, hF⟩
        have HPs18 := hide hP
        have HFs18 := hide (HFs17.out.trans hF)
        clear hP hF k0 k1 k2 k3 k4 k5 k6 k7 lB
        have hB5 := HFs18.out.blk HB.out (by decide) (by decide)
        have k0 := Blk.cell hB5 0
        have k1 := Blk.cell hB5 1
        have k2 := Blk.cell hB5 2
        have k3 := Blk.cell hB5 3
        have k4 := Blk.cell hB5 4
        have k5 := Blk.cell hB5 5
        have k6 := Blk.cell hB5 6
        have k7 := Blk.cell hB5 7
        have lB := Blk.lt hB5
        clear hB5
        go_wp2_with fail
        refine (HEl.out _ _ HPs18.out (HNd.out.pf HFs18.out)).mono ?_
        rintro e ve ⟨rfl, hP, hF⟩
        have HPe := hide hP
        have HFe := hide (HFs18.out.trans hF)
        clear hP hF k0 k1 k2 k3 k4 k5 k6 k7 lB
        have hB5 := HFe.out.blk HB.out (by decide) (by decide)
        have k0 := Blk.cell hB5 0
        have k1 := Blk.cell hB5 1
        have k2 := Blk.cell hB5 2
        have k3 := Blk.cell hB5 3
        have k4 := Blk.cell hB5 4
        have k5 := Blk.cell hB5 5
        have k6 := Blk.cell hB5 6
        have k7 := Blk.cell hB5 7
        have lB := Blk.lt hB5
        clear hB5
        cases hel : elifB l n with
        | true =>
          have HBODY := hide (show bodyE l (nodeE l f) n = [[105, 102, 32]] ++ listE l (nodeE l f) n 0 ++ [[116, 104, 101, 110, 32]] ++ listE l (nodeE l f) n 1 ++ ([[101, 108]] ++ kidE (nodeE l f) n 2) from hbody0.trans (by rw [hel, if_pos rfl]))
          clear hbody0 hel
          go_wp2_with fail
          refine (HP1.out _ [[101, 108]] _ HPe.out (by simp)).mono ?_
          rintro e v19 ⟨rfl, hP, hF⟩
          have HPs19 := hide hP
          have HFs19 := hide (HFe.out.trans hF)
          clear hP hF k0 k1 k2 k3 k4 k5 k6 k7 lB
          have hB5 := HFs19.out.blk HB.out (by decide) (by decide)
          have k0 := Blk.cell hB5 0
          have k1 := Blk.cell hB5 1
          have k2 := Blk.cell hB5 2
          have k3 := Blk.cell hB5 3
          have k4 := Blk.cell hB5 4
          have k5 := Blk.cell hB5 5
          have k6 := Blk.cell hB5 6
          have k7 := Blk.cell hB5 7
          have lB := Blk.lt hB5
          clear hB5
          go_wp2_with fail
          refine (HKid.out 2 _ _ HPs19.out (HNd.out.pf HFs19.out) (by omega)).mono ?_
          rintro e v20 ⟨rfl, hP, hF⟩
          have HPs20 := hide hP
          have HFs20 := hide (HFs19.out.trans hF)
          clear hP hF k0 k1 k2 k3 k4 k5 k6 k7 lB
          go_wp2_with fail
          go_meet
          case rel => exact ⟨by rw [HMO.out], by rw [HBODY.out]; (try simp only [puts_app]); exact HPs20.out, HFs20.out⟩
        | false =>
          by_cases h2k : 2 < n.kids.length
          · have q2 : decide ((2 : Int) < (n.kids.length : Int)) = true := decide_eq_true (by omega)
            have HBODY := hide (show bodyE l (nodeE l f) n = [[105, 102, 32]] ++ listE l (nodeE l f) n 0 ++ [[116, 104, 101, 110, 32]] ++ listE l (nodeE l f) n 1 ++ ([[101, 108, 115, 101, 32]] ++ listE l (nodeE l f) n 2 ++ [[102, 105]]) from hbody0.trans (by rw [hel, if_neg (by decide), if_pos h2k]))
            clear hbody0 hel
            go_wp2_with fail
            refine (HP1.out _ [[101, 108, 115, 101, 32]] _ HPe.out (by simp)).mono ?_
            rintro e v21 ⟨rfl, hP, hF⟩
            have HPs21 := hide hP
            have HFs21 := hide (HFe.out.trans hF)
            clear hP hF k0 k1 k2 k3 k4 k5 k6 k7 lB
            have hB5 := HFs21.out.blk HB.out (by decide) (by decide)
            have k0 := Blk.cell hB5 0
            have k1 := Blk.cell hB5 1
            have k2 := Blk.cell hB5 2
            have k3 := Blk.cell hB5 3
            have k4 := Blk.cell hB5 4
            have k5 := Blk.cell hB5 5
            have k6 := Blk.cell hB5 6
            have k7 := Blk.cell hB5 7
            have lB := Blk.lt hB5
            clear hB5
            go_wp2_with fail
            refine (HLst.out 2 _ _ HPs21.out (HNd.out.pf HFs21.out) (by omega)).mono ?_
            rintro e v22 ⟨rfl, hP, hF⟩
            have HPs22 := hide hP
            have HFs22 := hide (HFs21.out.trans hF)
            clear hP hF k0 k1 k2 k3 k4 k5 k6 k7 lB
            have hB5 := HFs22.out.blk HB.out (by decide) (by decide)
            have k0 := Blk.cell hB5 0
            have k1 := Blk.cell hB5 1
            have k2 := Blk.cell hB5 2
            have k3 := Blk.cell hB5 3
            have k4 := Blk.cell hB5 4
            have k5 := Blk.cell hB5 5
            have k6 := Blk.cell hB5 6
            have k7 := Blk.cell hB5 7
            have lB := Blk.lt hB5
            clear hB5
            go_wp2_with fail
            refine (HP1.out _ [[102, 105]] _ HPs22.out (by simp)).mono ?_
            rintro e v23 ⟨rfl, hP, hF⟩
            have HPs23 := hide hP
            have HFs23 := hide (HFs22.out.trans hF)
            clear hP hF k0 k1 k2 k3 k4 k5 k6 k7 lB
            go_wp2_with fail
            go_meet
            case rel => exact ⟨by rw [HMO.out], by rw [HBODY.out]; (try simp only [puts_app]); exact HPs23.out, HFs23.out⟩
          · have q2 : decide ((2 : Int) < (n.kids.length : Int)) = false := decide_eq_false (by omega)
            have HBODY := hide (show bodyE l (nodeE l f) n = [[105, 102, 32]] ++ listE l (nodeE l f) n 0 ++ [[116, 104, 101, 110, 32]] ++ listE l (nodeE l f) n 1 ++ [[102, 105]] from hbody0.trans (by rw [hel, if_neg (by decide), if_neg h2k]))
            clear hbody0 hel
            go_wp2_with fail
            refine (HP1.out _ [[102, 105]] _ HPe.out (by simp)).mono ?_
            rintro e v24 ⟨rfl, hP, hF⟩
            have HPs24 := hide hP
            have HFs24 := hide (HFe.out.trans hF)
            clear hP hF k0 k1 k2 k3 k4 k5 k6 k7 lB
            go_wp2_with fail
            go_meet
            case rel => exact ⟨by rw [HMO.out], by rw [HBODY.out]; (try simp only [puts_app]); exact HPs24.out, HFs24.out⟩
    have q10 : (n.kind == 10) = false := by rw [beq_eq_false_iff_ne]; exact h10
    have H10 := hide h10
    clear h10
    by_cases h11 : n.kind = 11
    · as_aux_lemma =>
        have qs : (n.kind == 11) = true := by rw [beq_iff_eq]; exact h11
        have hmo : moreB n = true := by unfold moreB; rw [if_neg H1.out]
        have hbody0 := body_11 (l := l) (rec := nodeE l f) h11
        have HMO := hide hmo
        have HBODY := hide (show bodyE l (nodeE l f) n = [[119, 104, 105, 108, 101, 32]] ++ listE l (nodeE l f) n 0 ++ [[100, 111, 32]] ++ listE l (nodeE l f) n 1 ++ [[100, 111, 110, 101]] from hbody0)
        have H11 := hide h11
        clear hbody0 hmo h11
        rw [H11.out] at k0
        have gz := World.grownBy_alloc W (.cells #[.string ⟨#[119, 104, 105, 108, 101, 32]⟩, .string ⟨#[117, 110, 116, 105, 108, 32]⟩] 9) none
        have hsz : (W.alloc (.cells #[.string ⟨#[119, 104, 105, 108, 101, 32]⟩, .string ⟨#[117, 110, 116, 105, 108, 32]⟩] 9)).heap.size = W.heap.size + 1 := World.size_alloc _ _
        obtain ⟨WZ, hWZ⟩ : ∃ WZ, W.alloc (.cells #[.string ⟨#[119, 104, 105, 108, 101, 32]⟩, .string ⟨#[117, 110, 116, 105, 108, 32]⟩] 9) = WZ := ⟨_, rfl⟩
        rw [hWZ] at gz hsz
        have HPz := hide (HP.out.grown gz)
        have HFz := hide (PF.of_grown (n0 := n0) gz)
        have HWZ := hide hWZ
        have HSZ := hide hsz
        clear gz hsz hWZ
        go_wp2_with fail
        rw [HWZ.out, ← HSZ.out]
        refine (HP1.out _ [[119, 104, 105, 108, 101, 32]] _ HPz.out (by simp)).mono ?_
        rintro e v25 ⟨rfl, hP, hF⟩
        have HPs25 := hide hP
        have HFs25 := hide (HFz.out.trans hF)
        clear hP hF k0 k1 k2 k3 k4 k5 k6 k7 lB
        have hB5 := HFs25.out.blk HB.out (by decide) (by decide)
        have k0 := Blk.cell hB5 0
        have k1 := Blk.cell hB5 1
        have k2 := Blk.cell hB5 2
        have k3 := Blk.cell hB5 3
        have k4 := Blk.cell hB5 4
        have k5 := Blk.cell hB5 5
        have k6 := Blk.cell hB5 6
        have k7 := Blk.cell hB5 7
        have lB := Blk.lt hB5
        clear hB5
        go_wp2_with fail
        refine (HLst.out 0 _ _ HPs25.out (HNd.out.pf HFs25.out) (by omega)).mono ?_
        rintro e v26 ⟨rfl, hP, hF⟩
        have HPs26 := hide hP
        have HFs26 := hide (HFs25.out.trans hF)
        clear hP hF k0 k1 k2 k3 k4 k5 k6 k7 lB
        have hB5 := HFs26.out.blk HB.out (by decide) (by decide)
        have k0 := Blk.cell hB5 0
        have k1 := Blk.cell hB5 1
        have k2 := Blk.cell hB5 2
        have k3 := Blk.cell hB5 3
        have k4 := Blk.cell hB5 4
        have k5 := Blk.cell hB5 5
        have k6 := Blk.cell hB5 6
        have k7 := Blk.cell hB5 7
        have lB := Blk.lt hB5
        clear hB5
        go_wp2_with fail
        refine (HP1.out _ [[100, 111, 32]] _ HPs26.out (by simp)).mono ?_
        rintro e v27 ⟨rfl, hP, hF⟩
        have HPs27 := hide hP
        have HFs27 := hide (HFs26.out.trans hF)
        clear hP hF k0 k1 k2 k3 k4 k5 k6 k7 lB
        have hB5 := HFs27.out.blk HB.out (by decide) (by decide)
        have k0 := Blk.cell hB5 0
        have k1 := Blk.cell hB5 1
        have k2 := Blk.cell hB5 2
        have k3 := Blk.cell hB5 3
        have k4 := Blk.cell hB5 4
        have k5 := Blk.cell hB5 5
        have k6 := Blk.cell hB5 6
        have k7 := Blk.cell hB5 7
        have lB := Blk.lt hB5
        clear hB5
        go_wp2_with fail
        refine (HLst.out 1 _ _ HPs27.out (HNd.out.pf HFs27.out) (by omega)).mono ?_
        rintro e v28 ⟨rfl, hP, hF⟩
        have HPs28 := hide hP
        have HFs28 := hide (HFs27.out.trans hF)
        clear hP hF k0 k1 k2 k3 k4 k5 k6 k7 lB
        have hB5 := HFs28.out.blk HB.out (by decide) (by decide)
        have k0 := Blk.cell hB5 0
        have k1 := Blk.cell hB5 1
        have k2 := Blk.cell hB5 2
        have k3 := Blk.cell hB5 3
        have k4 := Blk.cell hB5 4
        have k5 := Blk.cell hB5 5
        have k6 := Blk.cell hB5 6
        have k7 := Blk.cell hB5 7
        have lB := Blk.lt hB5
        clear hB5
        go_wp2_with fail
        refine (HP1.out _ [[100, 111, 110, 101]] _ HPs28.out (by simp)).mono ?_
        rintro e v29 ⟨rfl, hP, hF⟩
        have HPs29 := hide hP
        have HFs29 := hide (HFs28.out.trans hF)
        clear hP hF k0 k1 k2 k3 k4 k5 k6 k7 lB
        go_wp2_with fail
        go_meet
        case rel => exact ⟨by rw [HMO.out], by rw [HBODY.out]; (try simp only [puts_app]); exact HPs29.out, HFs29.out⟩
    have q11 : (n.kind == 11) = false := by rw [beq_eq_false_iff_ne]; exact h11
    have H11 := hide h11
    clear h11
    by_cases h12 : n.kind = 12
    · as_aux_lemma =>
        have qs : (n.kind == 12) = true := by rw [beq_iff_eq]; exact h12
        have hmo : moreB n = true := by unfold moreB; rw [if_neg H1.out]
        have hbody0 := body_12 (l := l) (rec := nodeE l f) h12
        have HMO := hide hmo
        have HBODY := hide (show bodyE l (nodeE l f) n = [[117, 110, 116, 105, 108, 32]] ++ listE l (nodeE l f) n 0 ++ [[100, 111, 32]] ++ listE l (nodeE l f) n 1 ++ [[100, 111, 110, 101]] from hbody0)
        have H12 := hide h12
        clear hbody0 hmo h12
        rw [H12.out] at k0
        have gz := World.grownBy_alloc W (.cells #[.string ⟨#[119, 104, 105, 108, 101, 32]⟩, .string ⟨#[117, 110, 116, 105, 108, 32]⟩] 9) none
        have hsz : (W.alloc (.cells #[.string ⟨#[119, 104, 105, 108, 101, 32]⟩, .string ⟨#[117, 110, 116, 105, 108, 32]⟩] 9)).heap.size = W.heap.size + 1 := World.size_alloc _ _
        obtain ⟨WZ, hWZ⟩ : ∃ WZ, W.alloc (.cells #[.string ⟨#[119, 104, 105, 108, 101, 32]⟩, .string ⟨#[117, 110, 116, 105, 108, 32]⟩] 9) = WZ := ⟨_, rfl⟩
        rw [hWZ] at gz hsz
        have HPz := hide (HP.out.grown gz)
        have HFz := hide (PF.of_grown (n0 := n0) gz)
        have HWZ := hide hWZ
        have HSZ := hide hsz
        clear gz hsz hWZ
        go_wp2_with fail
        rw [HWZ.out, ← HSZ.out]
        refine (HP1.out _ [[117, 110, 116, 105, 108, 32]] _ HPz.out (by simp)).mono ?_
        rintro e v30 ⟨rfl, hP, hF⟩
        have HPs30 := hide hP
        have HFs30 := hide (HFz.out.trans hF)
        clear hP hF k0 k1 k2 k3 k4 k5 k6 k7 lB
        have hB5 := HFs30.out.blk HB.out (by decide) (by decide)
        have k0 := Blk.cell hB5 0
        have k1 := Blk.cell hB5 1
        have k2 := Blk.cell hB5 2
        have k3 := Blk.cell hB5 3
        have k4 := Blk.cell hB5 4
        have k5 := Blk.cell hB5 5
        have k6 := Blk.cell hB5 6
        have k7 := Blk.cell hB5 7
        have lB := Blk.lt hB5
        clear hB5
        go_wp2_with fail
        refine (HLst.out 0 _ _ HPs30.out (HNd.out.pf HFs30.out) (by omega)).mono ?_
        rintro e v31 ⟨rfl, hP, hF⟩
        have HPs31 := hide hP
        have HFs31 := hide (HFs30.out.trans hF)
        clear hP hF k0 k1 k2 k3 k4 k5 k6 k7 lB
        have hB5 := HFs31.out.blk HB.out (by decide) (by decide)
        have k0 := Blk.cell hB5 0
        have k1 := Blk.cell hB5 1
        have k2 := Blk.cell hB5 2
        have k3 := Blk.cell hB5 3
        have k4 := Blk.cell hB5 4
        have k5 := Blk.cell hB5 5
        have k6 := Blk.cell hB5 6
        have k7 := Blk.cell hB5 7
        have lB := Blk.lt hB5
        clear hB5
        go_wp2_with fail
        refine (HP1.out _ [[100, 111, 32]] _ HPs31.out (by simp)).mono ?_
        rintro e v32 ⟨rfl, hP, hF⟩
        have HPs32 := hide hP
        have HFs32 := hide (HFs31.out.trans hF)
        clear hP hF k0 k1 k2 k3 k4 k5 k6 k7 lB
        have hB5 := HFs32.out.blk HB.out (by decide) (by decide)
        have k0 := Blk.cell hB5 0
        have k1 := Blk.cell hB5 1
        have k2 := Blk.cell hB5 2
        have k3 := Blk.cell hB5 3
        have k4 := Blk.cell hB5 4
        have k5 := Blk.cell hB5 5
        have k6 := Blk.cell hB5 6
        have k7 := Blk.cell hB5 7
        have lB := Blk.lt hB5
        clear hB5
        go_wp2_with fail
        refine (HLst.out 1 _ _ HPs32.out (HNd.out.pf HFs32.out) (by omega)).mono ?_
        rintro e v33 ⟨rfl, hP, hF⟩
        have HPs33 := hide hP
        have HFs33 := hide (HFs32.out.trans hF)
        clear hP hF k0 k1 k2 k3 k4 k5 k6 k7 lB
        have hB5 := HFs33.out.blk HB.out (by decide) (by decide)
        have k0 := Blk.cell hB5 0
        have k1 := Blk.cell hB5 1
        have k2 := Blk.cell hB5 2
        have k3 := Blk.cell hB5 3
        have k4 := Blk.cell hB5 4
        have k5 := Blk.cell hB5 5
        have k6 := Blk.cell hB5 6
        have k7 := Blk.cell hB5 7
        have lB := Blk.lt hB5
        clear hB5
        go_wp2_with fail
        refine (HP1.out _ [[100, 111, 110, 101]] _ HPs33.out (by simp)).mono ?_
        rintro e v34 ⟨rfl, hP, hF⟩
        have HPs34 := hide hP
        have HFs34 := hide (HFs33.out.trans hF)
        clear hP hF k0 k1 k2 k3 k4 k5 k6 k7 lB
        go_wp2_with fail
        go_meet
        case rel => exact ⟨by rw [HMO.out], by rw [HBODY.out]; (try simp only [puts_app]); exact HPs34.out, HFs34.out⟩
    have q12 : (n.kind == 12) = false := by rw [beq_eq_false_iff_ne]; exact h12
    have H12 := hide h12
    clear h12
    by_cases h13 : n.kind = 13
    · as_aux_lemma =>
        have qs : (n.kind == 13) = true := by rw [beq_iff_eq]; exact h13
        have hmo : moreB n = true := by unfold moreB; rw [if_neg H1.out]
        have hbody0 := body_13 (l := l) (rec := nodeE l f) h13
        have HMO := hide hmo
        have H13 := hide h13
        clear hmo h13
        cases hin : n.inn with
        | true =>
          have HBODY := hide (show bodyE l (nodeE l f) n = [[102, 111, 114, 32], n.name] ++ ([[32, 105, 110]] ++ wordsE n.words true) ++ [[59, 32, 100, 111, 32]] ++ listE l (nodeE l f) n 0 ++ [[100, 111, 110, 101]] from hbody0.trans (by rw [hin, if_pos rfl]))
          clear hbody0
          have HIN := hide hin
          clear hin
          rw [HIN.out] at k2
          go_wp2_with fail
          refine (HP1.out _ [[102, 111, 114, 32], n.name] _ HP.out (by simp)).mono ?_
          rintro e v35 ⟨rfl, hP, hF⟩
          have HPs35 := hide hP
          have HFs35 := hide (HF0.out.trans hF)
          clear hP hF k0 k1 k2 k3 k4 k5 k6 k7 lB
          have hB5 := HFs35.out.blk HB.out (by decide) (by decide)
          have k0 := Blk.cell hB5 0
          have k1 := Blk.cell hB5 1
          have k2 := Blk.cell hB5 2
          have k3 := Blk.cell hB5 3
          have k4 := Blk.cell hB5 4
          have k5 := Blk.cell hB5 5
          have k6 := Blk.cell hB5 6
          have k7 := Blk.cell hB5 7
          have lB := Blk.lt hB5
          clear hB5
          rw [HIN.out] at k2
          go_wp2_with fail
          refine (HP1.out _ [[32, 105, 110]] _ HPs35.out (by simp)).mono ?_
          rintro e v36 ⟨rfl, hP, hF⟩
          have HPs36 := hide hP
          have HFs36 := hide (HFs35.out.trans hF)
          clear hP hF k0 k1 k2 k3 k4 k5 k6 k7 lB
          have hB5 := HFs36.out.blk HB.out (by decide) (by decide)
          have k0 := Blk.cell hB5 0
          have k1 := Blk.cell hB5 1
          have k2 := Blk.cell hB5 2
          have k3 := Blk.cell hB5 3
          have k4 := Blk.cell hB5 4
          have k5 := Blk.cell hB5 5
          have k6 := Blk.cell hB5 6
          have k7 := Blk.cell hB5 7
          have lB := Blk.lt hB5
          clear hB5
          go_wp2_with fail
          refine (HWd.out _ _ _ _ _ HPs36.out (StrR.pf HNd.out.words HFs36.out)).mono ?_
          rintro e v37 ⟨rfl, hP, hF⟩
          have HPs37 := hide hP
          have HFs37 := hide (HFs36.out.trans hF)
          clear hP hF k0 k1 k2 k3 k4 k5 k6 k7 lB
          have hB5 := HFs37.out.blk HB.out (by decide) (by decide)
          have k0 := Blk.cell hB5 0
          have k1 := Blk.cell hB5 1
          have k2 := Blk.cell hB5 2
          have k3 := Blk.cell hB5 3
          have k4 := Blk.cell hB5 4
          have k5 := Blk.cell hB5 5
          have k6 := Blk.cell hB5 6
          have k7 := Blk.cell hB5 7
          have lB := Blk.lt hB5
          clear hB5
          go_wp2_with fail
          refine (HP1.out _ [[59, 32, 100, 111, 32]] _ HPs37.out (by simp)).mono ?_
          rintro e v38 ⟨rfl, hP, hF⟩
          have HPs38 := hide hP
          have HFs38 := hide (HFs37.out.trans hF)
          clear hP hF k0 k1 k2 k3 k4 k5 k6 k7 lB
          have hB5 := HFs38.out.blk HB.out (by decide) (by decide)
          have k0 := Blk.cell hB5 0
          have k1 := Blk.cell hB5 1
          have k2 := Blk.cell hB5 2
          have k3 := Blk.cell hB5 3
          have k4 := Blk.cell hB5 4
          have k5 := Blk.cell hB5 5
          have k6 := Blk.cell hB5 6
          have k7 := Blk.cell hB5 7
          have lB := Blk.lt hB5
          clear hB5
          go_wp2_with fail
          refine (HLst.out 0 _ _ HPs38.out (HNd.out.pf HFs38.out) (by omega)).mono ?_
          rintro e v39 ⟨rfl, hP, hF⟩
          have HPs39 := hide hP
          have HFs39 := hide (HFs38.out.trans hF)
          clear hP hF k0 k1 k2 k3 k4 k5 k6 k7 lB
          have hB5 := HFs39.out.blk HB.out (by decide) (by decide)
          have k0 := Blk.cell hB5 0
          have k1 := Blk.cell hB5 1
          have k2 := Blk.cell hB5 2
          have k3 := Blk.cell hB5 3
          have k4 := Blk.cell hB5 4
          have k5 := Blk.cell hB5 5
          have k6 := Blk.cell hB5 6
          have k7 := Blk.cell hB5 7
          have lB := Blk.lt hB5
          clear hB5
          go_wp2_with fail
          refine (HP1.out _ [[100, 111, 110, 101]] _ HPs39.out (by simp)).mono ?_
          rintro e v40 ⟨rfl, hP, hF⟩
          have HPs40 := hide hP
          have HFs40 := hide (HFs39.out.trans hF)
          clear hP hF k0 k1 k2 k3 k4 k5 k6 k7 lB
          go_wp2_with fail
          go_meet
          case rel => exact ⟨by rw [HMO.out], by rw [HBODY.out]; (try simp only [puts_app]); exact HPs40.out, HFs40.out⟩
        | false =>
          have HBODY := hide (show bodyE l (nodeE l f) n = [[102, 111, 114, 32], n.name] ++ [] ++ [[59, 32, 100, 111, 32]] ++ listE l (nodeE l f) n 0 ++ [[100, 111, 110, 101]] from hbody0.trans (by rw [hin, if_neg (by decide)]))
          clear hbody0
          have HIN := hide hin
          clear hin
          rw [HIN.out] at k2
          go_wp2_with fail
          refine (HP1.out _ [[102, 111, 114, 32], n.name] _ HP.out (by simp)).mono ?_
          rintro e v41 ⟨rfl, hP, hF⟩
          have HPs41 := hide hP
          have HFs41 := hide (HF0.out.trans hF)
          clear hP hF k0 k1 k2 k3 k4 k5 k6 k7 lB
          have hB5 := HFs41.out.blk HB.out (by decide) (by decide)
          have k0 := Blk.cell hB5 0
          have k1 := Blk.cell hB5 1
          have k2 := Blk.cell hB5 2
          have k3 := Blk.cell hB5 3
          have k4 := Blk.cell hB5 4
          have k5 := Blk.cell hB5 5
          have k6 := Blk.cell hB5 6
          have k7 := Blk.cell hB5 7
          have lB := Blk.lt hB5
          clear hB5
          rw [HIN.out] at k2
          go_wp2_with fail
          refine (HP1.out _ [[59, 32, 100, 111, 32]] _ HPs41.out (by simp)).mono ?_
          rintro e v42 ⟨rfl, hP, hF⟩
          have HPs42 := hide hP
          have HFs42 := hide (HFs41.out.trans hF)
          clear hP hF k0 k1 k2 k3 k4 k5 k6 k7 lB
          have hB5 := HFs42.out.blk HB.out (by decide) (by decide)
          have k0 := Blk.cell hB5 0
          have k1 := Blk.cell hB5 1
          have k2 := Blk.cell hB5 2
          have k3 := Blk.cell hB5 3
          have k4 := Blk.cell hB5 4
          have k5 := Blk.cell hB5 5
          have k6 := Blk.cell hB5 6
          have k7 := Blk.cell hB5 7
          have lB := Blk.lt hB5
          clear hB5
          go_wp2_with fail
          refine (HLst.out 0 _ _ HPs42.out (HNd.out.pf HFs42.out) (by omega)).mono ?_
          rintro e v43 ⟨rfl, hP, hF⟩
          have HPs43 := hide hP
          have HFs43 := hide (HFs42.out.trans hF)
          clear hP hF k0 k1 k2 k3 k4 k5 k6 k7 lB
          have hB5 := HFs43.out.blk HB.out (by decide) (by decide)
          have k0 := Blk.cell hB5 0
          have k1 := Blk.cell hB5 1
          have k2 := Blk.cell hB5 2
          have k3 := Blk.cell hB5 3
          have k4 := Blk.cell hB5 4
          have k5 := Blk.cell hB5 5
          have k6 := Blk.cell hB5 6
          have k7 := Blk.cell hB5 7
          have lB := Blk.lt hB5
          clear hB5
          go_wp2_with fail
          refine (HP1.out _ [[100, 111, 110, 101]] _ HPs43.out (by simp)).mono ?_
          rintro e v44 ⟨rfl, hP, hF⟩
          have HPs44 := hide hP
          have HFs44 := hide (HFs43.out.trans hF)
          clear hP hF k0 k1 k2 k3 k4 k5 k6 k7 lB
          go_wp2_with fail
          go_meet
          case rel => exact ⟨by rw [HMO.out], by rw [HBODY.out]; (try simp only [puts_app]); exact HPs44.out, HFs44.out⟩
    have q13 : (n.kind == 13) = false := by rw [beq_eq_false_iff_ne]; exact h13
    have H13 := hide h13
    clear h13
    by_cases h14 : n.kind = 14
    · as_aux_lemma =>
        have qs : (n.kind == 14) = true := by rw [beq_iff_eq]; exact h14
        have hmo : moreB n = true := by unfold moreB; rw [if_neg H1.out]
        have hbody0 := body_14 (l := l) (rec := nodeE l f) h14
        have HMO := hide hmo
        have HBODY := hide (show bodyE l (nodeE l f) n = casesE (nodeE l f) n from hbody0)
        have H14 := hide h14
        clear hbody0 hmo h14
        go_wp2_with fail
        refine (HCs.out _ _ HP.out (HNd.out.pf HF0.out)).mono ?_
        rintro e v45 ⟨rfl, hP, hF⟩
        have HPs45 := hide hP
        have HFs45 := hide (HF0.out.trans hF)
        clear hP hF k0 k1 k2 k3 k4 k5 k6 k7 lB
        go_wp2_with fail
        go_meet
        case rel => exact ⟨by rw [HMO.out], by rw [HBODY.out]; (try simp only [puts_app]); exact HPs45.out, HFs45.out⟩
    have q14 : (n.kind == 14) = false := by rw [beq_eq_false_iff_ne]; exact h14
    have H14 := hide h14
    clear h14
    by_cases h15 : n.kind = 15
    · as_aux_lemma =>
        have qs : (n.kind == 15) = true := by rw [beq_iff_eq]; exact h15
        have hmo : moreB n = true := by unfold moreB; rw [if_neg H1.out]
        have hbody0 := body_15 (l := l) (rec := nodeE l f) h15
        have HMO := hide hmo
        have HBODY := hide (show bodyE l (nodeE l f) n = [n.name, [40, 41, 32]] ++ kidE (nodeE l f) n 0 from hbody0)
        have H15 := hide h15
        clear hbody0 hmo h15
        go_wp2_with fail
        refine (HP1.out _ [n.name, [40, 41, 32]] _ HP.out (by simp)).mono ?_
        rintro e v46 ⟨rfl, hP, hF⟩
        have HPs46 := hide hP
        have HFs46 := hide (HF0.out.trans hF)
        clear hP hF k0 k1 k2 k3 k4 k5 k6 k7 lB
        have hB5 := HFs46.out.blk HB.out (by decide) (by decide)
        have k0 := Blk.cell hB5 0
        have k1 := Blk.cell hB5 1
        have k2 := Blk.cell hB5 2
        have k3 := Blk.cell hB5 3
        have k4 := Blk.cell hB5 4
        have k5 := Blk.cell hB5 5
        have k6 := Blk.cell hB5 6
        have k7 := Blk.cell hB5 7
        have lB := Blk.lt hB5
        clear hB5
        go_wp2_with fail
        refine (HKid.out 0 _ _ HPs46.out (HNd.out.pf HFs46.out) (by omega)).mono ?_
        rintro e v47 ⟨rfl, hP, hF⟩
        have HPs47 := hide hP
        have HFs47 := hide (HFs46.out.trans hF)
        clear hP hF k0 k1 k2 k3 k4 k5 k6 k7 lB
        go_wp2_with fail
        go_meet
        case rel => exact ⟨by rw [HMO.out], by rw [HBODY.out]; (try simp only [puts_app]); exact HPs47.out, HFs47.out⟩
    have q15 : (n.kind == 15) = false := by rw [beq_eq_false_iff_ne]; exact h15
    have H15 := hide h15
    clear h15
    have hbody0 : bodyE l (nodeE l f) n = [] := by unfold bodyE; rw [if_neg H1.out, if_neg H2.out, if_neg H7.out, if_neg H3.out, if_neg H4.out, if_neg H5.out, if_neg H6.out, if_neg H8.out, if_neg H9.out, if_neg H10.out, if_neg (fun h => h.elim H11.out H12.out), if_neg H13.out, if_neg H14.out, if_neg H15.out]
    have hmo : moreB n = true := by unfold moreB; rw [if_neg H1.out]
    have HMO := hide hmo
    have HBODY := hide hbody0
    clear hbody0 hmo
    go_wp2_with fail
    go_meet
    case rel => exact ⟨by rw [HMO.out], by rw [HBODY.out]; exact HP.out, HF0.out⟩
  case rest =>
    obtain ⟨rfl, hPc, hFc⟩ := hcut
    obtain ⟨m0, hm0⟩ : ∃ m, moreB n = m := ⟨_, rfl⟩
    obtain ⟨bb, hbb⟩ : ∃ bb, putsF b (bodyE l (nodeE l f) n) = bb := ⟨_, rfl⟩
    rw [hbb] at hPc
    simp only [hm0]
    have HM0 := hide hm0
    have HBB := hide hbb
    have HPc := hide hPc
    have HFc := hide hFc
    have hBc := hFc.blk HB.out (by decide) (by decide)
    clear k0 k1 k2 k3 k4 k5 k6 k7 lB hPc hFc hbb hm0
    have k5 := Blk.cell hBc 5
    have lB := Blk.lt hBc
    clear hBc HKid HLst HKs HSq HCs HEl HP1
    have HWn := hide (fun b s m W (hW : PrIs n0 W pb l b) => words_new n0 pb l b s m W hW)
    have hrm : (n.redirs.length : Int) ≤ 9223372036854775807 := by
      obtain ⟨_, _, _, _, h3, _⟩ := HNd.out.rds.now
      omega
    go_wp2_with fail
    go_loopw [5, 194] (fun u v wr => ∃ j : Nat, v = .int .i64 j ∧ u = .bool (wordsM ((n.redirs.take j).map redE) m0) ∧ j ≤ n.redirs.length ∧ PrIs n0 wr pb l (putsF bb (wordsE ((n.redirs.take j).map redE) m0)) ∧ PF n0 W wr) (fun _ v _ => n.redirs.length - (intOf v).toNat)
    case atStart => exact ⟨0, rfl, by cases m0 <;> rfl, Nat.zero_le _, HPc.out, HFc.out⟩
    case round =>
      obtain ⟨j, rfl, rfl, hjl, hP, hFr⟩ := hrel
      have HPr := hide hP
      have HFr := hide hFr
      clear k5 lB
      by_cases hlt : j < n.redirs.length
      · have q0 : decide ((j : Int) < (n.redirs.length : Int)) = true := decide_eq_true (by omega)
        have hjb2 : (0 : Int) ≤ j ∧ (j : Int) < (n.redirs.length : Int) := by omega
        obtain ⟨rg, ro, ha, hrg, f0, f1, f2⟩ := (RdR.pf HNd.out.rds hFr).get j hlt
        have hlr := hli.r n.redirs[j] (List.getElem_mem hlt)
        have hsn := words_snoc (n.redirs.map redE) m0 j (by rw [List.length_map]; exact hlt)
        rw [← List.map_take, ← List.map_take, List.getElem_map] at hsn
        have hmn : wordsM ((n.redirs.take (j + 1)).map redE) m0 = true := by
          unfold wordsM
          rw [List.take_succ_eq_append_getElem hlt, List.map_append]
          cases (n.redirs.take j).map redE <;> simp
        obtain ⟨x, hx⟩ : ∃ x, n.redirs[j] = x := ⟨_, rfl⟩
        rw [hx] at f0 f1 f2 hlr hsn
        obtain ⟨mo, hmo⟩ : ∃ mo, wordsM ((n.redirs.take j).map redE) m0 = mo := ⟨_, rfl⟩
        rw [hmo] at hsn ⊢
        have hput : putsF bb (wordsE ((n.redirs.take (j + 1)).map redE) m0) = putsF (putsF bb (wordsE ((n.redirs.take j).map redE) m0)) (wordsE [redE x] mo) := by
          rw [hsn, puts_app]
          congr 1
          cases mo <;> rfl
        obtain ⟨bc, hbc⟩ : ∃ bc, putsF bb (wordsE ((n.redirs.take j).map redE) m0) = bc := ⟨_, rfl⟩
        rw [hbc] at hput
        rw [hbc] at HPr
        have HPUT := hide hput
        have HMN := hide hmn
        obtain ⟨s0, hs0⟩ : ∃ s, x.op ++ x.wd = s := ⟨_, rfl⟩
        have e1 : ByteArray.mk x.op.toArray ++ ByteArray.mk x.wd.toArray = ⟨s0.toArray⟩ := by rw [cat_ba, hs0]
        have hsl : s0.length = x.op.length + x.wd.length := by rw [← hs0, List.length_append]
        have hre : redE x = (if 0 ≤ x.fd ∧ x.fd ≤ 9 then [UInt8.ofNat (48 + x.fd.toNat)] else []) ++ s0 := by unfold redE; rw [hs0]
        have HRE := hide hre
        have E1 := hide e1
        have HSL := hide hsl
        have hz1 := sz x.op
        have hz2 := sz x.wd
        have hz3 := sz s0
        have HZ := hide (And.intro hz1 (And.intro hz2 hz3))
        unfold sv at f1 f2
        have hgr := World.grownBy_alloc wr (.cells #[.int .i64 x.fd, .string ⟨x.op.toArray⟩, .string ⟨x.wd.toArray⟩] 80) none
        have hD := Blk.new wr 80 #[.int .i64 x.fd, .string ⟨x.op.toArray⟩, .string ⟨x.wd.toArray⟩]
        obtain ⟨WD, hWD⟩ : ∃ WD, wr.alloc (.cells #[.int .i64 x.fd, .string ⟨x.op.toArray⟩, .string ⟨x.wd.toArray⟩] 80) = WD := ⟨_, rfl⟩
        rw [hWD] at hgr hD
        have HPd := hide (HPr.out.grown hgr)
        have HFd := hide (HFr.out.trans (PF.of_grown (n0 := n0) hgr))
        have HWD := hide hWD
        obtain ⟨D, hDe⟩ : ∃ D, wr.heap.size = D := ⟨_, rfl⟩
        rw [hDe] at hD
        have HDe := hide hDe
        have d0 := Blk.cell hD 0
        have d1 := Blk.cell hD 1
        have d2 := Blk.cell hD 2
        have lD := Blk.lt hD
        subst ha
        clear hP hFr hx hsn hmo hput hbc hmn hs0 e1 hsl hre hz1 hz2 hz3 hgr hWD hDe hD HPr HFr
        by_cases hfd : 0 ≤ x.fd ∧ x.fd ≤ 9
        · as_aux_lemma =>
            have q1 : decide ((0 : Int) ≤ x.fd) = true := decide_eq_true hfd.1
            have q2 : decide (x.fd ≤ 9) = true := decide_eq_true hfd.2
            have hfb : 0 ≤ x.fd ∧ x.fd ≤ 9 := hfd
            obtain ⟨c0, hc0⟩ : ∃ c, UInt8.ofNat (48 + x.fd.toNat) = c := ⟨_, rfl⟩
            have henc := enc1 hfd
            rw [hc0] at henc
            have hz4 : (ByteArray.mk #[c0]).size = 1 := rfl
            have hz3 := HZ.out.2.2
            have hsl := HSL.out
            have e2 : ByteArray.mk #[c0] ++ ByteArray.mk s0.toArray = ⟨(c0 :: s0).toArray⟩ := cat_ba [c0] s0
            have E2 := hide e2
            have HRE2 := hide (show redE x = c0 :: s0 by rw [HRE.out, if_pos hfd, hc0]; rfl)
            clear hc0 e2 hfd
            go_upto_region 63 with (fail)
            rw [HWD.out, HDe.out]
            clear f0 f1 f2 hrg
            go_upto_region 64 with (fail)
            rw [E1.out]
            go_upto_region 66 with (fail)
            rw [E2.out]
            go_wp2_with fail
            refine (HWn.out _ (c0 :: s0) mo _ HPd.out).mono ?_
            rintro e ww ⟨rfl, hPw, hFw⟩
            have HPw := hide hPw
            have HFw := hide (HFd.out.trans hFw)
            clear hPw hFw
            go_wp2_with fail
            go_roundw
            case rel => exact ⟨j + 1, by go_num, by rw [HMN.out]; cases mo <;> rfl, by omega, by rw [HPUT.out, HRE2.out]; exact HPw.out, HFw.out⟩
            case measure => simp [intOf]; omega
        · have hq : (decide ((0 : Int) ≤ x.fd) && decide (x.fd ≤ 9)) = false := by
            rw [Bool.and_eq_false_iff, decide_eq_false_iff_not, decide_eq_false_iff_not]
            omega
          have HRE2 := hide (show redE x = s0 by rw [HRE.out, if_neg hfd]; rfl)
          by_cases h0 : 0 ≤ x.fd
          · as_aux_lemma =>
              have q1 : decide ((0 : Int) ≤ x.fd) = true := decide_eq_true h0
              have q2 : decide (x.fd ≤ 9) = false := decide_eq_false (by omega)
              clear hq hfd
              go_upto_region 63 with (fail)
              rw [HWD.out, HDe.out]
              clear f0 f1 f2 hrg
              go_upto_region 64 with (fail)
              rw [E1.out]
              go_wp2_with fail
              refine (HWn.out _ s0 mo _ HPd.out).mono ?_
              rintro e ww ⟨rfl, hPw, hFw⟩
              have HPw := hide hPw
              have HFw := hide (HFd.out.trans hFw)
              clear hPw hFw
              go_wp2_with fail
              go_roundw
              case rel => exact ⟨j + 1, by go_num, by rw [HMN.out]; cases mo <;> rfl, by omega, by rw [HPUT.out, HRE2.out]; exact HPw.out, HFw.out⟩
              case measure => simp [intOf]; omega
          · as_aux_lemma =>
              have q1 : decide ((0 : Int) ≤ x.fd) = false := decide_eq_false h0
              clear hq hfd
              go_upto_region 63 with (fail)
              rw [HWD.out, HDe.out]
              clear f0 f1 f2 hrg
              go_upto_region 64 with (fail)
              rw [E1.out]
              go_wp2_with fail
              refine (HWn.out _ s0 mo _ HPd.out).mono ?_
              rintro e ww ⟨rfl, hPw, hFw⟩
              have HPw := hide hPw
              have HFw := hide (HFd.out.trans hFw)
              clear hPw hFw
              go_wp2_with fail
              go_roundw
              case rel => exact ⟨j + 1, by go_num, by rw [HMN.out]; cases mo <;> rfl, by omega, by rw [HPUT.out, HRE2.out]; exact HPw.out, HFw.out⟩
              case measure => simp [intOf]; omega
      · obtain rfl : j = n.redirs.length := by omega
        have q0 : decide ((n.redirs.length : Int) < (n.redirs.length : Int)) = false := decide_eq_false (by omega)
        rw [List.take_length] at hP ⊢
        clear hFr
        go_wp2_with fail
        go_end0
        exact ⟨rfl, by rw [HBB.out, HM0.out]; exact hP, HF.out.trans HFr.out⟩

end Go.Proofs.Ytdhfhphbkfgamaa
