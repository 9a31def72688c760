/- Several texts in one. -/
import Derived.Test.YtdhfhphbkfgamaaMC
section
/- The printer: kid, back, list, kids, seq, elif, over a node's own call. -/
namespace Go.Proofs.Ytdhfhphbkfgamaa
open Go.RowKit Lx
set_option maxRecDepth 100000

theorem wpList_boxN {P : Program} {ops : Array Oper} {rest : List Oper} {a : Act} {w : World} {Q : Exit → Act → World → Prop} {d : Option Tmp} {T t : TypeId} {pos : String} {af : Array Edge} {x : Operand} (cs : Array Value) (W : World) (B : Nat)
    (hx : a.eval x = .agg cs) (hW : w.alloc (.cells cs T) = W) (hB : w.heap.size = B) (h : wpList P ops Q rest (a.put d (.pointer (some ⟨B, 0, none⟩))) W) : wpList P ops Q (⟨d, .box T x, t, pos, af, none⟩ :: rest) a w := by
  subst hW hB
  refine wpList_plain rfl fun K hK => ?_
  unfold Oper.wp execOp
  simp only [hx, Sem.run_bind, Instr.box, newVar, newRow, run_newObj_alloc, Sem.run_pure, Result.andThen_ok]
  exact hK _ _ h
/-- What the call of a node's answers, for the nodes below m. -/
def NodeOk (n0 pb : Nat) (l : List Nd) (rec : Nat → List (List UInt8)) (m : Nat) : Prop := ∀ (i : Nat), i < m → ∀ (b : List UInt8) (w : World), PrIs n0 w pb l b →
  Calls Try.prog 15 #[.pointer (some ⟨pb, 0, none⟩), .int .i64 i] w fun e w' => e = .returned (.tuple #[]) ∧ PrIs n0 w' pb l (putsF b (rec i)) ∧ PF n0 w w'
def KidsLt (n : Nd) (m : Nat) : Prop := n.kids.length ≤ 100000 ∧ ∀ k ∈ n.kids, -1 ≤ k ∧ k < m
theorem IntR.at_ {n0 : Nat} {w : World} {v : Value} {L : List Int} (h : IntR n0 w v L) : ∃ a cap, v = .slice a L.length cap ∧ L.length ≤ cap ∧ L.length ≤ 9223372036854775807 := by
  obtain ⟨a, cap, hv, h1, h2, _⟩ := h.now
  exact ⟨a, cap, hv, h1, h2⟩
theorem NdR.forms {n0 : Nat} {w : World} {a b r p k : Value} {n : Nd} (h : NdR n0 w a b r p k n) : ∃ a1 c1 a2 c2 a3 c3 a4 c4 a5 c5, a = .slice a1 n.sets.length c1 ∧ b = .slice a2 n.words.length c2 ∧ r = .slice a3 n.redirs.length c3 ∧ p = .slice a4 n.pats.length c4 ∧ k = .slice a5 n.kids.length c5 := by
  obtain ⟨a1, c1, h1, _⟩ := h.sets.now
  obtain ⟨a2, c2, h2, _⟩ := h.words.now
  obtain ⟨a3, c3, h3, _⟩ := h.rds.now
  obtain ⟨cs, h4, _⟩ := h.pats
  obtain ⟨a4, c4, h4, _⟩ := h4.now
  obtain ⟨a5, c5, h5, _⟩ := h.kids.now
  exact ⟨a1, c1, a2, c2, a3, c3, a4, c4, a5, c5, h1, h2, h3, h4, h5⟩
theorem IntR.get {n0 : Nat} {w : World} {a : Option Addr} {m cap : Nat} {L : List Int} (h : IntR n0 w (.slice a m cap) L) (i : Nat) (hi : i < L.length) : ∃ g off, a = some ⟨g, off, none⟩ ∧ g < w.heap.size ∧ w.cell? ⟨g, off + i, none⟩ = some (.int .i64 L[i]) := by
  obtain ⟨a2, cap2, hv, h1, _, h2⟩ := h.now
  injection hv with hv _ _
  obtain ⟨g, off, ha, hg, hc⟩ := h2 (by omega)
  exact ⟨g, off, hv.trans ha, hg, hc i _ (by simp [hi])⟩
set_option maxHeartbeats 4000000 in
theorem kid_any (n0 pb m : Nat) (l : List Nd) (rec : Nat → List (List UInt8)) (hN : NodeOk n0 pb l rec m) (b : List UInt8) (n : Nd) (x1 x2 x3 x4 x5 : Value) (i : Nat) (w : World) (hk : KidsLt n m) (h : PrIs n0 w pb l b) (hn : NdR n0 w x1 x2 x3 x4 x5 n) (hi : i ≤ 100000) :
    Calls Try.prog 31 #[.pointer (some ⟨pb, 0, none⟩), .agg (ndCells n x1 x2 x3 x4 x5).toArray, .int .i64 i] w fun e w' => e = .returned (.tuple #[]) ∧ PrIs n0 w' pb l (putsF b (kidE rec n i)) ∧ PF n0 w w' := by
  obtain ⟨a, cap, rfl, hcap, hmx⟩ := hn.kids.at_
  have hkl := hk.1
  have hB := Blk.new w 35 #[.int .i64 n.kind, sv n.name, .bool n.inn, x1, x2, x3, x4, .slice a n.kids.length cap]
  have hgw := World.grownBy_alloc w (.cells #[.int .i64 n.kind, sv n.name, .bool n.inn, x1, x2, x3, x4, .slice a n.kids.length cap] 35) none
  have hK := IntR.pf hn.kids (PF.of_grown (n0 := n0) hgw)
  have hP := h.grown hgw
  obtain ⟨W, hW⟩ : ∃ W, w.alloc (.cells #[.int .i64 n.kind, sv n.name, .bool n.inn, x1, x2, x3, x4, .slice a n.kids.length cap] 35) = W := ⟨_, rfl⟩
  rw [hW] at hB hK hP hgw
  have HW := hide hW
  have HP := hide hP
  have HF := hide (PF.of_grown (n0 := n0) hgw)
  obtain ⟨B, hBe⟩ : ∃ B, w.heap.size = B := ⟨_, rfl⟩
  rw [hBe] at hB
  have HBe := hide hBe
  have c7 : W.cell? ⟨B, 7, none⟩ = some (.slice a n.kids.length cap) := Blk.cell hB 7
  have lB := Blk.lt hB
  unfold ndCells
  clear hW hP hgw hBe h hB
  by_cases hlt : i < n.kids.length
  · have q0 : decide ((i : Int) < (n.kids.length : Int)) = true := decide_eq_true (by omega)
    have hib : (0 : Int) ≤ i ∧ (i : Int) < (n.kids.length : Int) := by omega
    obtain ⟨g, off, ha, hg, hcell⟩ := hK.get i hlt
    have hkk := hk.2 n.kids[i] (List.getElem_mem hlt)
    have hke : kidE rec n i = if 0 ≤ n.kids[i] then rec n.kids[i].toNat else [] := by unfold kidE; rw [List.getElem?_eq_getElem hlt]
    obtain ⟨k, hkv⟩ : ∃ k, n.kids[i] = k := ⟨_, rfl⟩
    rw [hkv] at hcell hkk hke
    have HKE := hide hke
    clear hke hkv hK
    subst ha
    by_cases h0 : 0 ≤ k
    · obtain ⟨j, rfl⟩ : ∃ j : Nat, k = j := ⟨k.toNat, by omega⟩
      have q1 : decide ((0 : Int) ≤ (j : Int)) = true := decide_eq_true (by omega)
      have hjm : j < m := by omega
      go_enter Try.func31, Try.ntmps31
      go_upto_region 1 with (first | (refine wpList_boxN _ W B (by exact rfl) HW.out HBe.out ?_))
      go_wp2_with fail
      refine (hN j hjm b _ HP.out).mono ?_
      rintro e w1 ⟨rfl, hP1, hF1⟩
      have HP1 := hide hP1
      have HF1 := hide (HF.out.trans hF1)
      clear hP1 hF1
      go_wp2_with fail
      go_end0
      exact ⟨rfl, by rw [HKE.out, if_pos h0]; exact HP1.out, HF1.out⟩
    · have q1 : decide ((0 : Int) ≤ k) = false := decide_eq_false (by omega)
      go_enter Try.func31, Try.ntmps31
      go_upto_region 1 with (first | (refine wpList_boxN _ W B (by exact rfl) HW.out HBe.out ?_))
      go_wp2_with fail
      go_end0
      exact ⟨rfl, by rw [HKE.out, if_neg (by omega)]; exact HP.out, HF.out⟩
  · have q0 : decide ((i : Int) < (n.kids.length : Int)) = false := decide_eq_false (by omega)
    have hke : kidE rec n i = [] := by unfold kidE; rw [List.getElem?_eq_none (by omega)]
    have HKE := hide hke
    clear hke
    go_enter Try.func31, Try.ntmps31
    go_upto_region 1 with (first | (refine wpList_boxN _ W B (by exact rfl) HW.out HBe.out ?_))
    go_wp2_with fail
    go_end0
    exact ⟨rfl, by rw [HKE.out]; exact HP.out, HF.out⟩

theorem ndF_at {l : List Nd} {k : Int} {j : Nat} (hk : k = j) (hj : j < l.length) : ndF l k = l[j] := by
  subst hk
  unfold ndF
  rw [Int.toNat_natCast, List.getD_eq_getElem?_getD, List.getElem?_eq_getElem hj]
  rfl
theorem fin8 {w : World} {b : Nat} {T : TypeId} {x0 x1 x2 x3 x4 x5 x6 x7 : Value} (h : Blk w b T #[x0, x1, x2, x3, x4, x5, x6, x7]) (y0 y1 y2 y3 y4 y5 y6 y7 : Value) :
    Blk ((((((((w.setCell ⟨b, 0, none⟩ y0).setCell ⟨b, 1, none⟩ y1).setCell ⟨b, 2, none⟩ y2).setCell ⟨b, 3, none⟩ y3).setCell ⟨b, 4, none⟩ y4).setCell ⟨b, 5, none⟩ y5).setCell ⟨b, 6, none⟩ y6).setCell ⟨b, 7, none⟩ y7) b T #[y0, y1, y2, y3, y4, y5, y6, y7] := by
  have h1 : Blk (w.setCell ⟨b, 0, none⟩ y0) b T #[y0, x1, x2, x3, x4, x5, x6, x7] := h.set_ 0 y0
  have h2 : Blk ((w.setCell ⟨b, 0, none⟩ y0).setCell ⟨b, 1, none⟩ y1) b T #[y0, y1, x2, x3, x4, x5, x6, x7] := h1.set_ 1 y1
  have h3 : Blk (((w.setCell ⟨b, 0, none⟩ y0).setCell ⟨b, 1, none⟩ y1).setCell ⟨b, 2, none⟩ y2) b T #[y0, y1, y2, x3, x4, x5, x6, x7] := h2.set_ 2 y2
  have h4 : Blk ((((w.setCell ⟨b, 0, none⟩ y0).setCell ⟨b, 1, none⟩ y1).setCell ⟨b, 2, none⟩ y2).setCell ⟨b, 3, none⟩ y3) b T #[y0, y1, y2, y3, x4, x5, x6, x7] := h3.set_ 3 y3
  have h5 : Blk (((((w.setCell ⟨b, 0, none⟩ y0).setCell ⟨b, 1, none⟩ y1).setCell ⟨b, 2, none⟩ y2).setCell ⟨b, 3, none⟩ y3).setCell ⟨b, 4, none⟩ y4) b T #[y0, y1, y2, y3, y4, x5, x6, x7] := h4.set_ 4 y4
  have h6 : Blk ((((((w.setCell ⟨b, 0, none⟩ y0).setCell ⟨b, 1, none⟩ y1).setCell ⟨b, 2, none⟩ y2).setCell ⟨b, 3, none⟩ y3).setCell ⟨b, 4, none⟩ y4).setCell ⟨b, 5, none⟩ y5) b T #[y0, y1, y2, y3, y4, y5, x6, x7] := h5.set_ 5 y5
  have h7 : Blk (((((((w.setCell ⟨b, 0, none⟩ y0).setCell ⟨b, 1, none⟩ y1).setCell ⟨b, 2, none⟩ y2).setCell ⟨b, 3, none⟩ y3).setCell ⟨b, 4, none⟩ y4).setCell ⟨b, 5, none⟩ y5).setCell ⟨b, 6, none⟩ y6) b T #[y0, y1, y2, y3, y4, y5, y6, x7] := h6.set_ 6 y6
  have h8 : Blk ((((((((w.setCell ⟨b, 0, none⟩ y0).setCell ⟨b, 1, none⟩ y1).setCell ⟨b, 2, none⟩ y2).setCell ⟨b, 3, none⟩ y3).setCell ⟨b, 4, none⟩ y4).setCell ⟨b, 5, none⟩ y5).setCell ⟨b, 6, none⟩ y6).setCell ⟨b, 7, none⟩ y7) b T #[y0, y1, y2, y3, y4, y5, y6, y7] := h7.set_ 7 y7
  exact h8
theorem chg8 {S : Nat → Prop} {w0 w : World} {b : Nat} (h : Chg S w0 w) (hb : w0.heap.size ≤ b) (y0 y1 y2 y3 y4 y5 y6 y7 : Value) : Chg S w0 ((((((((w.setCell ⟨b, 0, none⟩ y0).setCell ⟨b, 1, none⟩ y1).setCell ⟨b, 2, none⟩ y2).setCell ⟨b, 3, none⟩ y3).setCell ⟨b, 4, none⟩ y4).setCell ⟨b, 5, none⟩ y5).setCell ⟨b, 6, none⟩ y6).setCell ⟨b, 7, none⟩ y7) :=
  (Chg.setCell (Chg.setCell (Chg.setCell (Chg.setCell (Chg.setCell (Chg.setCell (Chg.setCell (Chg.setCell h (p := ⟨b, 0, none⟩) (.inr hb) _) (p := ⟨b, 1, none⟩) (.inr hb) _) (p := ⟨b, 2, none⟩) (.inr hb) _) (p := ⟨b, 3, none⟩) (.inr hb) _) (p := ⟨b, 4, none⟩) (.inr hb) _) (p := ⟨b, 5, none⟩) (.inr hb) _) (p := ⟨b, 6, none⟩) (.inr hb) _) (p := ⟨b, 7, none⟩) (.inr hb) _)
set_option maxHeartbeats 4000000 in
theorem back_any (n0 pb : Nat) (l : List Nd) (b : List UInt8) (k : Int) (w : World) (hk : -1 ≤ k ∧ k < l.length) (hko : KidsOk l) (hks : ∀ n ∈ l, n.kids.length ≤ 100000) (hl : l.length ≤ 300) (h : PrIs n0 w pb l b) :
    Calls Try.prog 55 #[.pointer (some ⟨pb, 0, none⟩), .int .i64 k] w fun e w' => e = .returned (.bool (backB l k)) ∧ PrIs n0 w' pb l b ∧ PF n0 w w' := by
  by_cases hneg : k < 0
  · have q0 : decide (k < 0) = true := decide_eq_true hneg
    have hb : backB l k = false := by unfold backB; rw [if_pos hneg]
    rw [hb]
    have H := hide h
    clear h
    go_enter Try.func55, Try.ntmps55
    go_wp2_with fail
    go_ret
    exact ⟨rfl, H.out, PF.refl _ _⟩
  · obtain ⟨j, rfl⟩ : ∃ j : Nat, k = j := ⟨k.toNat, by omega⟩
    have q0 : decide ((j : Int) < 0) = false := decide_eq_false (by omega)
    have hj : j < l.length := by omega
    have hbk : backB l (j : Int) = (match l[j].kids.getLast? with
      | some m => if l[j].kind = 6 then (ndF l m).kind == 7 else l[j].kind == 7
      | none => l[j].kind == 7) := by unfold backB; rw [if_neg hneg, ndF_at rfl hj]; rfl
    have HPr := hide h
    obtain ⟨v, p, buf, hA, hp, hN, hbl⟩ := h
    obtain ⟨z0, _, _⟩ := hA.cells
    have lpb := Blk.lt hA.blk
    obtain ⟨g, off, cap, x1, x2, x3, x4, x5, rfl, hcap, hmx, hg, hn, e0, e1, e2, e3, e4, e5, e6, e7⟩ := hN.at_ j hj
    obtain ⟨a1, c1, a2, c2, a3, c3, a4, c4, a, kcap, rfl, rfl, rfl, rfl, rfl⟩ := hn.forms
    have hkl := hks l[j] (List.getElem_mem hj)
    have hjb : (0 : Int) ≤ j ∧ (j : Int) < (l.length : Int) := by omega
    have hko1 := hko j hj
    obtain ⟨n, hne⟩ : ∃ n, l[j] = n := ⟨_, rfl⟩
    rw [hne] at hn e0 e1 e2 e3 e4 e5 e6 e7 hbk hkl hko1
    have HBK := hide hbk
    have hgw := World.grownBy_alloc w (.cells #[.int .i64 n.kind, .string ⟨n.name.toArray⟩, .bool n.inn, .slice a1 n.sets.length c1, .slice a2 n.words.length c2, .slice a3 n.redirs.length c3, .slice a4 n.pats.length c4, .slice a n.kids.length kcap] 35) none
    have hB := Blk.new w 35 #[.int .i64 n.kind, .string ⟨n.name.toArray⟩, .bool n.inn, .slice a1 n.sets.length c1, .slice a2 n.words.length c2, .slice a3 n.redirs.length c3, .slice a4 n.pats.length c4, .slice a n.kids.length kcap]
    obtain ⟨W, hW⟩ : ∃ W, w.alloc (.cells #[.int .i64 n.kind, .string ⟨n.name.toArray⟩, .bool n.inn, .slice a1 n.sets.length c1, .slice a2 n.words.length c2, .slice a3 n.redirs.length c3, .slice a4 n.pats.length c4, .slice a n.kids.length kcap] 35) = W := ⟨_, rfl⟩
    rw [hW] at hgw hB
    have HPF := hide (PF.of_grown (n0 := n0) hgw)
    have HGW := hide hgw
    have HW := hide hW
    obtain ⟨B, hBe⟩ : ∃ B, w.heap.size = B := ⟨_, rfl⟩
    rw [hBe] at hB
    have HBe := hide hBe
    have c0 := Blk.cell hB 0
    have c7 := Blk.cell hB 7
    have lB := Blk.lt hB
    have HB := hide hB
    have hK := IntR.pf hn.kids (PF.of_grown (n0 := n0) hgw)
    have HP2 := hide (HPr.out.grown hgw)
    have HN := hide (NdsR.pf hN (PF.of_grown (n0 := n0) hgw))
    have HA := hide (hA.grown hgw)
    clear hA hN hgw hbk hne hB hW hBe
    unfold sv at e1
    by_cases h6 : n.kind = 6
    · have q1 : (n.kind == 6) = true := by rw [beq_iff_eq]; exact h6
      rcases Nat.eq_zero_or_pos n.kids.length with hz | hz
      · have hres : backB l (j : Int) = false := by
          rw [HBK.out, List.length_eq_zero_iff.1 hz]
          show (n.kind == 7) = false
          rw [h6]
          rfl
        have q2 : (n.kind == 7) = false := by rw [h6]; rfl
        rw [hres]
        have hLi : (n.kids.length : Int) - 1 = -1 := by omega
        clear hres hz h6
        go_enter Try.func55, Try.ntmps55
        go_upto_region 4 with (fail)
        rw [HW.out, HBe.out]
        go_wp2_with fail
        go_ret
        exact ⟨rfl, HP2.out, HPF.out⟩
      · obtain ⟨L, hL⟩ : ∃ L, n.kids.length = L + 1 := ⟨n.kids.length - 1, by omega⟩
        have hLi : (n.kids.length : Int) - 1 = (L : Int) := by omega
        have hLt : L < n.kids.length := by omega
        obtain ⟨kg, ko, ha, hkg, hkc⟩ := hK.get L hLt
        have hkk := hko1 n.kids[L] (List.getElem_mem hLt)
        have hlast : n.kids.getLast? = some n.kids[L] := by rw [List.getLast?_eq_getElem?, show n.kids.length - 1 = L by omega, List.getElem?_eq_getElem hLt]
        obtain ⟨k2, hk2⟩ : ∃ k, n.kids[L] = k := ⟨_, rfl⟩
        rw [hk2] at hkc hkk hlast
        obtain ⟨m, rfl⟩ : ∃ m : Nat, k2 = m := ⟨k2.toNat, by omega⟩
        have hm : m < l.length := by omega
        have hres : backB l (j : Int) = (l[m].kind == 7) := by
          rw [HBK.out, hlast]
          show (if n.kind = 6 then (ndF l (m : Int)).kind == 7 else n.kind == 7) = _
          rw [if_pos h6, ndF_at rfl hm]
        rw [hres]
        obtain ⟨g2, off2, cap2, y1, y2, y3, y4, y5, hv2, _, _, hg2, hn2, f0, f1, f2, f3, f4, f5, f6, f7⟩ := HN.out.at_ m hm
        injection hv2 with hv2 _ hc2
        injection hv2 with hv2
        injection hv2 with e1 e2 _
        subst e1 e2 hc2
        obtain ⟨b1, d1, b2, d2, b3, d3, b4, d4, b5, d5, rfl, rfl, rfl, rfl, rfl⟩ := hn2.forms
        obtain ⟨n2, hne2⟩ : ∃ n2, l[m] = n2 := ⟨_, rfl⟩
        rw [hne2] at f0 f1 f2 f3 f4 f5 f6 f7 ⊢
        unfold sv at f1
        have hmb : (0 : Int) ≤ m ∧ (m : Int) < (l.length : Int) := by omega
        have hLb : (0 : Int) ≤ L ∧ (L : Int) < (n.kids.length : Int) := by omega
        have q2 : decide ((0 : Int) ≤ (L : Int)) = true := decide_eq_true (by omega)
        obtain ⟨kd, hkd⟩ : ∃ kd, (n2.kind == 7) = kd := ⟨_, rfl⟩
        rw [hkd]
        have zW := HA.out.cells.1
        have lW := Blk.lt HA.out.blk
        have c3 := Blk.cell HB.out 3
        subst ha
        clear hres hn hn2 hne2 hK hk2 hlast HBK hkk hko1 hL h6
        go_enter Try.func55, Try.ntmps55
        go_upto_region 4 with (fail)
        rw [HW.out, HBe.out]
        go_upto_region 6 with (fail)
        refine wp_region_qtail 11 (by kernel_rfl) (by kernel_rfl) ?_
        simp only [List.take_succ_cons, List.take_zero, List.drop_succ_cons, List.drop_zero]
        repeat (go_big_quiet_step (fail))
        refine wpQuiet_nil ?_
        rintro _ ⟨nq, rfl⟩
        have hBd := Blk.drewN HB.out nq
        have HBd := hide hBd
        have k0 := Blk.cell hBd 0
        have k1 := Blk.cell hBd 1
        have k2 := Blk.cell hBd 2
        have k3 := Blk.cell hBd 3
        have k4 := Blk.cell hBd 4
        have k5 := Blk.cell hBd 5
        have k6 := Blk.cell hBd 6
        have k7 := Blk.cell hBd 7
        have z0 := Blk.frozen hBd 0
        have z1 := Blk.frozen hBd 1
        have z2 := Blk.frozen hBd 2
        have z3 := Blk.frozen hBd 3
        have z4 := Blk.frozen hBd 4
        have z5 := Blk.frozen hBd 5
        have z6 := Blk.frozen hBd 6
        have z7 := Blk.frozen hBd 7
        have lBd := Blk.lt hBd
        clear hBd
        go_upto_region 7 with (fail)
        have hB2 := fin8 HBd.out (.int .i64 n2.kind) (.string ⟨n2.name.toArray⟩) (.bool n2.inn) (.slice b1 n2.sets.length d1) (.slice b2 n2.words.length d2) (.slice b3 n2.redirs.length d3) (.slice b4 n2.pats.length d4) (.slice b5 n2.kids.length d5)
        have k0 := Blk.cell hB2 0
        have lB2 := Blk.lt hB2
        go_wp2_with fail
        go_ret
        have hsz : w.heap.size ≤ B := by rw [HBe.out]; exact Nat.le_refl _
        refine ⟨rfl, HPr.out.grown (Chg.grown (chg8 (S := nobody) ?_ hsz _ _ _ _ _ _ _ _) (fun _ _ h => h)), chg8 (S := PFS n0 w) ?_ hsz _ _ _ _ _ _ _ _⟩
        · exact Chg.trans (Chg.of_grown HGW.out (fun k hk => by cases hk)) (Chg.drewN (Chg.refl nobody W) nq) (fun _ _ h => h)
        · exact HPF.out.trans (PF.of_grown (grown_drewN W nq))
    · have q1 : (n.kind == 6) = false := by rw [beq_eq_false_iff_ne]; exact h6
      have hres : backB l (j : Int) = (n.kind == 7) := by
        rw [HBK.out]
        cases n.kids.getLast? with
        | none => rfl
        | some m => exact if_neg h6
      rw [hres]
      obtain ⟨kd, hkd⟩ : ∃ kd, (n.kind == 7) = kd := ⟨_, rfl⟩
      rw [hkd]
      clear hres
      go_enter Try.func55, Try.ntmps55
      go_upto_region 4 with (fail)
      rw [HW.out, HBe.out]
      go_wp2_with fail
      go_ret
      exact ⟨rfl, HP2.out, HPF.out⟩

end Go.Proofs.Ytdhfhphbkfgamaa

end
section
/- The printer: list, kids. -/
namespace Go.Proofs.Ytdhfhphbkfgamaa
open Go.RowKit Lx
set_option maxRecDepth 100000

structure Cx (l : List Nd) : Prop where
  ko : KidsOk l
  ks : ∀ n ∈ l, n.kids.length ≤ 100000
  ln : l.length ≤ 300
set_option maxHeartbeats 4000000 in
theorem list_any16 (n0 pb m : Nat) (l : List Nd) (rec : Nat → List (List UInt8)) (hN : NodeOk n0 pb l rec m) (hcx : Cx l) (hm : m ≤ l.length) (b : List UInt8) (n : Nd) (x1 x2 x3 x4 x5 : Value) (i : Nat) (w : World) (hk : KidsLt n m) (h : PrIs n0 w pb l b) (hn : NdR n0 w x1 x2 x3 x4 x5 n) (hi : i ≤ 100000) :
    Calls Try.prog 34 #[.pointer (some ⟨pb, 0, none⟩), .agg (ndCells n x1 x2 x3 x4 x5).toArray, .int .i64 i] w fun e w' => e = .returned (.tuple #[]) ∧ PrIs n0 w' pb l (putsF b (listE l rec n i)) ∧ PF n0 w w' := by
  obtain ⟨a1, c1, a2, c2, a3, c3, a4, c4, a, kcap, rfl, rfl, rfl, rfl, rfl⟩ := hn.forms
  have hkl := hk.1
  have hB := Blk.new w 35 #[.int .i64 n.kind, .string ⟨n.name.toArray⟩, .bool n.inn, .slice a1 n.sets.length c1, .slice a2 n.words.length c2, .slice a3 n.redirs.length c3, .slice a4 n.pats.length c4, .slice a n.kids.length kcap]
  have hgw := World.grownBy_alloc w (.cells #[.int .i64 n.kind, .string ⟨n.name.toArray⟩, .bool n.inn, .slice a1 n.sets.length c1, .slice a2 n.words.length c2, .slice a3 n.redirs.length c3, .slice a4 n.pats.length c4, .slice a n.kids.length kcap] 35) none
  have HNd := hide (NdR.pf hn (PF.of_grown (n0 := n0) hgw))
  have HP := hide (h.grown hgw)
  have HF := hide (PF.of_grown (n0 := n0) hgw)
  obtain ⟨W, hW⟩ : ∃ W, w.alloc (.cells #[.int .i64 n.kind, .string ⟨n.name.toArray⟩, .bool n.inn, .slice a1 n.sets.length c1, .slice a2 n.words.length c2, .slice a3 n.redirs.length c3, .slice a4 n.pats.length c4, .slice a n.kids.length kcap] 35) = W := ⟨_, rfl⟩
  rw [hW] at hB HNd HP HF
  have HW := hide hW
  obtain ⟨B, hBe⟩ : ∃ B, w.heap.size = B := ⟨_, rfl⟩
  rw [hBe] at hB
  have HBe := hide hBe
  have HB := hide hB
  have k0 := Blk.cell hB 0
  have k1 := Blk.cell hB 1
  have k2 := Blk.cell hB 2
  have k3 := Blk.cell hB 3
  have k4 := Blk.cell hB 4
  have k5 := Blk.cell hB 5
  have k6 := Blk.cell hB 6
  have k7 := Blk.cell hB 7
  have lB := Blk.lt hB
  have HKid := hide (fun W (hW : PrIs n0 W pb l b) (hN2 : NdR n0 W (.slice a1 n.sets.length c1) (.slice a2 n.words.length c2) (.slice a3 n.redirs.length c3) (.slice a4 n.pats.length c4) (.slice a n.kids.length kcap) n) => kid_any n0 pb m l rec hN b n _ _ _ _ _ i W hk hW hN2 hi)
  unfold ndCells sv at HKid ⊢
  have HP1 := hide (fun b L W (hW : PrIs n0 W pb l b) (hL : L.length ≤ 1000) => put_new n0 pb l b L W hW hL)
  have HBack := hide (fun b k W hk (hW : PrIs n0 W pb l b) => back_any n0 pb l b k W hk hcx.ko hcx.ks hcx.ln hW)
  clear hW hBe hB h hn hgw
  have hle : listE l rec n i = kidE rec n i ++ endE l n i ++ [[32]] := rfl
  obtain ⟨E1, hE1⟩ : ∃ E, kidE rec n i = E := ⟨_, rfl⟩
  rw [hE1] at hle HKid
  rw [hle]
  clear hle hE1
  have tail : True := trivial
  clear tail
  by_cases hlt : i < n.kids.length
  · have q0 : decide ((n.kids.length : Int) ≤ (i : Int)) = false := decide_eq_false (by omega)
    have hib : (0 : Int) ≤ i ∧ (i : Int) < (n.kids.length : Int) := by omega
    have hkk := hk.2 n.kids[i] (List.getElem_mem hlt)
    have hee : endE l n i = if backB l n.kids[i] = true then [] else [[59]] := by unfold endE; rw [List.getElem?_eq_getElem hlt]
    obtain ⟨k, hkv⟩ : ∃ k, n.kids[i] = k := ⟨_, rfl⟩
    rw [hkv] at hkk hee
    obtain ⟨E2, hE2⟩ : ∃ E, endE l n i = E := ⟨_, rfl⟩
    rw [hE2] at hee ⊢
    have HKV := hide hkv
    have HEE := hide hee
    clear hE2 hkv hee
    go_enter Try.func34, Try.ntmps34
    go_upto_region 1 with (first | (refine wpList_boxN _ W B (by exact rfl) HW.out HBe.out ?_))
    go_wp2_with fail
    refine (HKid.out _ HP.out HNd.out).mono ?_
    rintro e w1 ⟨rfl, hP1, hF1⟩
    have HPa := hide hP1
    have HFa := hide (HF.out.trans hF1)
    obtain ⟨g, off, ha, hg, hcell⟩ := (IntR.pf HNd.out.kids hF1).get i hlt
    rw [HKV.out] at hcell
    have hB1 := hF1.blk HB.out (by decide) (by decide)
    clear hP1 hF1
    subst ha
    have k7' := Blk.cell hB1 7
    have lB1 := Blk.lt hB1
    clear hB1
    go_wp2_with fail
    refine (HBack.out _ k _ (by omega) HPa.out).mono ?_
    rintro e w2 ⟨rfl, hP2, hF2⟩
    have HPb := hide hP2
    have HFb := hide (HFa.out.trans hF2)
    clear hP2 hF2
    obtain ⟨kb, hkb⟩ : ∃ kb, backB l k = kb := ⟨_, rfl⟩
    rw [hkb] at HEE ⊢
    clear hkb
    cases kb with
    | true =>
      go_wp2_with fail
      refine (HP1.out _ [[32]] _ HPb.out (by simp)).mono ?_
      rintro e w3 ⟨rfl, hP3, hF3⟩
      have HPc := hide hP3
      have HFc := hide (HFb.out.trans hF3)
      clear hP3 hF3
      go_wp2_with fail
      go_end0
      exact ⟨rfl, by have hE := HEE.out; simp at hE; rw [hE, List.append_nil, puts_app]; exact HPc.out, HFc.out⟩
    | false =>
      go_wp2_with fail
      refine (HP1.out _ [[59]] _ HPb.out (by simp)).mono ?_
      rintro e w3 ⟨rfl, hP3, hF3⟩
      have HPc := hide hP3
      have HFc := hide (HFb.out.trans hF3)
      clear hP3 hF3
      go_wp2_with fail
      refine (HP1.out _ [[32]] _ HPc.out (by simp)).mono ?_
      rintro e w4 ⟨rfl, hP4, hF4⟩
      have HPd := hide hP4
      have HFd := hide (HFc.out.trans hF4)
      clear hP4 hF4
      go_wp2_with fail
      go_end0
      exact ⟨rfl, by have hE := HEE.out; simp at hE; rw [hE, puts_app, puts_app]; exact HPd.out, HFd.out⟩
  · have q0 : decide ((n.kids.length : Int) ≤ (i : Int)) = true := decide_eq_true (by omega)
    have hee : endE l n i = [[59]] := by unfold endE; rw [List.getElem?_eq_none (by omega)]
    rw [hee]
    clear hee
    go_enter Try.func34, Try.ntmps34
    go_upto_region 1 with (first | (refine wpList_boxN _ W B (by exact rfl) HW.out HBe.out ?_))
    go_wp2_with fail
    refine (HKid.out _ HP.out HNd.out).mono ?_
    rintro e w1 ⟨rfl, hP1, hF1⟩
    have HPa := hide hP1
    have HFa := hide (HF.out.trans hF1)
    have hB1 := hF1.blk HB.out (by decide) (by decide)
    clear hP1 hF1
    have k7' := Blk.cell hB1 7
    have lB1 := Blk.lt hB1
    clear hB1
    go_wp2_with fail
    refine (HP1.out _ [[59]] _ HPa.out (by simp)).mono ?_
    rintro e w3 ⟨rfl, hP3, hF3⟩
    have HPc := hide hP3
    have HFc := hide (HFa.out.trans hF3)
    clear hP3 hF3
    go_wp2_with fail
    refine (HP1.out _ [[32]] _ HPc.out (by simp)).mono ?_
    rintro e w4 ⟨rfl, hP4, hF4⟩
    have HPd := hide hP4
    have HFd := hide (HFc.out.trans hF4)
    clear hP4 hF4
    go_wp2_with fail
    go_end0
    exact ⟨rfl, by rw [puts_app, puts_app]; exact HPd.out, HFd.out⟩

end Go.Proofs.Ytdhfhphbkfgamaa

end
section
/- The printer: kids, seq. -/
namespace Go.Proofs.Ytdhfhphbkfgamaa
open Go.RowKit Lx
set_option maxRecDepth 100000

set_option maxHeartbeats 4000000 in
theorem kids_any (n0 pb m : Nat) (l : List Nd) (rec : Nat → List (List UInt8)) (hN : NodeOk n0 pb l rec m) (b : List UInt8) (n : Nd) (x1 x2 x3 x4 x5 : Value) (u : List UInt8) (w : World) (hk : KidsLt n m) (h : PrIs n0 w pb l b) (hn : NdR n0 w x1 x2 x3 x4 x5 n) :
    Calls Try.prog 32 #[.pointer (some ⟨pb, 0, none⟩), .agg (ndCells n x1 x2 x3 x4 x5).toArray, sv u] w fun e w' => e = .returned (.tuple #[]) ∧ PrIs n0 w' pb l (putsF b (kidsE rec n u n.kids.length)) ∧ PF n0 w w' := by
  obtain ⟨a1, c1, a2, c2, a3, c3, a4, c4, a, kcap, rfl, rfl, rfl, rfl, rfl⟩ := hn.forms
  have hkl := hk.1
  have hB := Blk.new w 35 #[.int .i64 n.kind, .string ⟨n.name.toArray⟩, .bool n.inn, .slice a1 n.sets.length c1, .slice a2 n.words.length c2, .slice a3 n.redirs.length c3, .slice a4 n.pats.length c4, .slice a n.kids.length kcap]
  have hgw := World.grownBy_alloc w (.cells #[.int .i64 n.kind, .string ⟨n.name.toArray⟩, .bool n.inn, .slice a1 n.sets.length c1, .slice a2 n.words.length c2, .slice a3 n.redirs.length c3, .slice a4 n.pats.length c4, .slice a n.kids.length kcap] 35) none
  have HNd := hide (NdR.pf hn (PF.of_grown (n0 := n0) hgw))
  have HP := hide (h.grown hgw)
  have HF := hide (PF.of_grown (n0 := n0) hgw)
  obtain ⟨W, hW⟩ : ∃ W, w.alloc (.cells #[.int .i64 n.kind, .string ⟨n.name.toArray⟩, .bool n.inn, .slice a1 n.sets.length c1, .slice a2 n.words.length c2, .slice a3 n.redirs.length c3, .slice a4 n.pats.length c4, .slice a n.kids.length kcap] 35) = W := ⟨_, rfl⟩
  rw [hW] at hB HNd HP HF
  have HW := hide hW
  obtain ⟨B, hBe⟩ : ∃ B, w.heap.size = B := ⟨_, rfl⟩
  rw [hBe] at hB
  have HBe := hide hBe
  have HB := hide hB
  have k7 := Blk.cell hB 7
  have lB := Blk.lt hB
  have HKid := hide (fun i b W (hW : PrIs n0 W pb l b) (hN2 : NdR n0 W (.slice a1 n.sets.length c1) (.slice a2 n.words.length c2) (.slice a3 n.redirs.length c3) (.slice a4 n.pats.length c4) (.slice a n.kids.length kcap) n) (hi : i ≤ 100000) => kid_any n0 pb m l rec hN b n _ _ _ _ _ i W hk hW hN2 hi)
  unfold ndCells sv at HKid
  unfold ndCells sv
  have HP1 := hide (fun b L W (hW : PrIs n0 W pb l b) (hL : L.length ≤ 1000) => put_new n0 pb l b L W hW hL)
  clear hW hBe hB h hn hgw
  go_enter Try.func32, Try.ntmps32
  go_upto_region 1 with (first | (refine wpList_boxN _ W B (by exact rfl) HW.out HBe.out ?_))
  go_wp2_with fail
  go_loopw [10] (fun v wr => ∃ i : Nat, v = .int .i64 i ∧ i ≤ n.kids.length ∧ PrIs n0 wr pb l (putsF b (kidsE rec n u i)) ∧ PF n0 W wr) (fun v _ => n.kids.length - (intOf v).toNat)
  case atStart => exact ⟨0, rfl, Nat.zero_le _, HP.out, PF.refl _ _⟩
  case round =>
    obtain ⟨i, rfl, hi, hP, hFr⟩ := hrel
    have HPr := hide hP
    have HFr := hide hFr
    by_cases hlt : i < n.kids.length
    · have q0 : decide ((i : Int) < (n.kids.length : Int)) = true := decide_eq_true (by omega)
      have hB1 := hFr.blk HB.out (by decide) (by decide)
      have HB1 := hide hB1
      have hsn : putsF b (kidsE rec n u (i + 1)) = putsF (putsF (putsF b (kidsE rec n u i)) (if 0 < i then [u] else [])) (kidE rec n i) := by
        show putsF b (kidsE rec n u i ++ (if 0 < i then [u] else []) ++ kidE rec n i) = _
        rw [puts_app, puts_app]
      have HSN := hide hsn
      clear hP hFr hB1 hsn
      by_cases h0 : 0 < i
      · have q1 : decide ((0 : Int) < (i : Int)) = true := decide_eq_true (by omega)
        have k0 := Blk.cell HB1.out 0
        have lB1 := Blk.lt HB1.out
        go_wp2_with fail
        refine (HP1.out _ [u] _ HPr.out (by simp)).mono ?_
        rintro e w1 ⟨rfl, hP1, hF1⟩
        have HPa := hide hP1
        have HFa := hide (HFr.out.trans hF1)
        clear hP1 hF1 k0
        have hB2 := HFa.out.blk HB.out (by decide) (by decide)
        have c0 := Blk.cell hB2 0
        have c1' := Blk.cell hB2 1
        have c2' := Blk.cell hB2 2
        have c3' := Blk.cell hB2 3
        have c4' := Blk.cell hB2 4
        have c5' := Blk.cell hB2 5
        have c6' := Blk.cell hB2 6
        have c7' := Blk.cell hB2 7
        have lB2 := Blk.lt hB2
        clear hB2
        have HNe := hide (HNd.out.pf HFa.out)
        go_wp2_with fail
        refine (HKid.out i _ _ HPa.out HNe.out (by omega)).mono ?_
        rintro e w2 ⟨rfl, hP2, hF2⟩
        have HPb := hide hP2
        have HFb := hide (HFa.out.trans hF2)
        clear hP2 hF2
        go_wp2_with fail
        go_roundw
        case rel => exact ⟨i + 1, by go_num, by omega, by rw [HSN.out, if_pos h0]; exact HPb.out, HFb.out⟩
        case measure => simp [intOf]; omega
      · have q1 : decide ((0 : Int) < (i : Int)) = false := decide_eq_false (by omega)
        have hB2 := HB1.out
        have c0 := Blk.cell hB2 0
        have c1' := Blk.cell hB2 1
        have c2' := Blk.cell hB2 2
        have c3' := Blk.cell hB2 3
        have c4' := Blk.cell hB2 4
        have c5' := Blk.cell hB2 5
        have c6' := Blk.cell hB2 6
        have c7' := Blk.cell hB2 7
        have lB2 := Blk.lt hB2
        clear hB2
        have HNe := hide (HNd.out.pf HFr.out)
        go_wp2_with fail
        refine (HKid.out i _ _ HPr.out HNe.out (by omega)).mono ?_
        rintro e w2 ⟨rfl, hP2, hF2⟩
        have HPb := hide hP2
        have HFb := hide (HFr.out.trans hF2)
        clear hP2 hF2
        go_wp2_with fail
        go_roundw
        case rel => exact ⟨i + 1, by go_num, by omega, by rw [HSN.out, if_neg h0]; exact HPb.out, HFb.out⟩
        case measure => simp [intOf]; omega
    · obtain rfl : i = n.kids.length := by omega
      have q0 : decide ((n.kids.length : Int) < (n.kids.length : Int)) = false := decide_eq_false (by omega)
      clear hP hFr
      go_wp2_with fail
      go_end0
      exact ⟨rfl, HPr.out, HF.out.trans HFr.out⟩

set_option maxHeartbeats 4000000 in
theorem seq_any (n0 pb m : Nat) (l : List Nd) (rec : Nat → List (List UInt8)) (hN : NodeOk n0 pb l rec m) (hcx : Cx l) (hm : m ≤ l.length) (b : List UInt8) (n : Nd) (x1 x2 x3 x4 x5 : Value) (w : World) (hk : KidsLt n m) (hk0 : ∀ k ∈ n.kids, 0 ≤ k) (h : PrIs n0 w pb l b) (hn : NdR n0 w x1 x2 x3 x4 x5 n) :
    Calls Try.prog 33 #[.pointer (some ⟨pb, 0, none⟩), .agg (ndCells n x1 x2 x3 x4 x5).toArray] w fun e w' => e = .returned (.tuple #[]) ∧ PrIs n0 w' pb l (putsF b (seqE l rec n n.kids.length)) ∧ PF n0 w w' := by
  obtain ⟨a1, c1, a2, c2, a3, c3, a4, c4, a, kcap, rfl, rfl, rfl, rfl, rfl⟩ := hn.forms
  have hkl := hk.1
  have hB := Blk.new w 35 #[.int .i64 n.kind, .string ⟨n.name.toArray⟩, .bool n.inn, .slice a1 n.sets.length c1, .slice a2 n.words.length c2, .slice a3 n.redirs.length c3, .slice a4 n.pats.length c4, .slice a n.kids.length kcap]
  have hgw := World.grownBy_alloc w (.cells #[.int .i64 n.kind, .string ⟨n.name.toArray⟩, .bool n.inn, .slice a1 n.sets.length c1, .slice a2 n.words.length c2, .slice a3 n.redirs.length c3, .slice a4 n.pats.length c4, .slice a n.kids.length kcap] 35) none
  have HNd := hide (NdR.pf hn (PF.of_grown (n0 := n0) hgw))
  have HP := hide (h.grown hgw)
  have HF := hide (PF.of_grown (n0 := n0) hgw)
  obtain ⟨W, hW⟩ : ∃ W, w.alloc (.cells #[.int .i64 n.kind, .string ⟨n.name.toArray⟩, .bool n.inn, .slice a1 n.sets.length c1, .slice a2 n.words.length c2, .slice a3 n.redirs.length c3, .slice a4 n.pats.length c4, .slice a n.kids.length kcap] 35) = W := ⟨_, rfl⟩
  rw [hW] at hB HNd HP HF
  have HW := hide hW
  obtain ⟨B, hBe⟩ : ∃ B, w.heap.size = B := ⟨_, rfl⟩
  rw [hBe] at hB
  have HBe := hide hBe
  have HB := hide hB
  have k7 := Blk.cell hB 7
  have lB := Blk.lt hB
  have HKid := hide (fun i b W (hW : PrIs n0 W pb l b) (hN2 : NdR n0 W (.slice a1 n.sets.length c1) (.slice a2 n.words.length c2) (.slice a3 n.redirs.length c3) (.slice a4 n.pats.length c4) (.slice a n.kids.length kcap) n) (hi : i ≤ 100000) => kid_any n0 pb m l rec hN b n _ _ _ _ _ i W hk hW hN2 hi)
  unfold ndCells sv at HKid
  unfold ndCells
  have HP1 := hide (fun b L W (hW : PrIs n0 W pb l b) (hL : L.length ≤ 1000) => put_new n0 pb l b L W hW hL)
  clear hW hBe hB h hn hgw
  unfold sv
  go_enter Try.func33, Try.ntmps33
  go_upto_region 1 with (first | (refine wpList_boxN _ W B (by exact rfl) HW.out HBe.out ?_))
  go_wp2_with fail
  go_loopw [8] (fun v wr => ∃ i : Nat, v = .int .i64 i ∧ i ≤ n.kids.length ∧ PrIs n0 wr pb l (putsF b (seqE l rec n i)) ∧ PF n0 W wr) (fun v _ => n.kids.length - (intOf v).toNat)
  case atStart => exact ⟨0, rfl, Nat.zero_le _, HP.out, PF.refl _ _⟩
  case round =>
    obtain ⟨i, rfl, hi, hP, hFr⟩ := hrel
    have HPr := hide hP
    have HFr := hide hFr
    by_cases hlt : i < n.kids.length
    · have q0 : decide ((i : Int) < (n.kids.length : Int)) = true := decide_eq_true (by omega)
      have hB1 := hFr.blk HB.out (by decide) (by decide)
      have HB1 := hide hB1
      have hsn : putsF b (seqE l rec n (i + 1)) = putsF (putsF (putsF b (seqE l rec n i)) (if 0 < i then semE l n i else [])) (kidE rec n i) := by
        show putsF b (seqE l rec n i ++ (if 0 < i then semE l n i else []) ++ kidE rec n i) = _
        rw [puts_app, puts_app]
      have HSN := hide hsn
      by_cases h0 : 0 < i
      · have q1 : decide ((0 : Int) < (i : Int)) = true := decide_eq_true (by omega)
        obtain ⟨L, rfl⟩ : ∃ L, i = L + 1 := ⟨i - 1, by omega⟩
        have hLi : ((L + 1 : Nat) : Int) - 1 = (L : Int) := by omega
        have hLt : L < n.kids.length := by omega
        have hLb : (0 : Int) ≤ L ∧ (L : Int) < (n.kids.length : Int) := by omega
        obtain ⟨kg, ko, ha, hkg, hkc⟩ := (IntR.pf HNd.out.kids hFr).get L hLt
        have hkk := hk.2 n.kids[L] (List.getElem_mem hLt)
        have hkz := hk0 n.kids[L] (List.getElem_mem hLt)
        have hgd : n.kids.getD (L + 1 - 1) 0 = n.kids[L] := by rw [Nat.add_sub_cancel, List.getD_eq_getElem?_getD, List.getElem?_eq_getElem hLt]; rfl
        obtain ⟨k2, hk2⟩ : ∃ k, n.kids[L] = k := ⟨_, rfl⟩
        rw [hk2] at hkc hkk hkz hgd
        obtain ⟨j, rfl⟩ : ∃ j : Nat, k2 = j := ⟨k2.toNat, by omega⟩
        have hj : j < l.length := by omega
        have hsem : semE l n (L + 1) = if l[j].kind = 7 then [[32]] else [[59], [32]] := by unfold semE; rw [hgd, ndF_at rfl hj]
        have HSEM := hide hsem
        obtain ⟨v, p, buf, hA, hp, hNs, hbl⟩ := hP
        have z0 := hA.cells.1
        have lpb := Blk.lt hA.blk
        obtain ⟨g2, off2, cap2, y1, y2, y3, y4, y5, rfl, hcc, hmx, hg2, hn2, f0, _⟩ := hNs.at_ j hj
        obtain ⟨kd, hkd⟩ : ∃ kd, l[j].kind = kd := ⟨_, rfl⟩
        rw [hkd] at f0 HSEM
        have hjb : (0 : Int) ≤ j ∧ (j : Int) < (l.length : Int) := by omega
        have k7' := Blk.cell HB1.out 7
        have lB1 := Blk.lt HB1.out
        subst ha
        clear hFr hB1 hsn hA hNs hn2 hkd hsem hgd hk2 hp hcc
        have fin : True := trivial
        clear fin
        by_cases h7 : kd = 7
        · have q7 : (kd == 7) = true := by rw [beq_iff_eq]; exact h7
          have q7' : (kd != 7) = false := by simp [h7]
          have hs7 : (if 0 < L + 1 then semE l n (L + 1) else []) = [[32]] := by rw [if_pos h0, HSEM.out, if_pos h7]
          have HS7 := hide hs7
          clear h7 hs7
          go_wp2_with fail
          go_quiet (fail)
          rename_i nq
          have HPd := hide (HPr.out.grown (grown_drewN _ nq))
          have HFd := hide (HFr.out.trans (PF.of_grown (n0 := n0) (grown_drewN _ nq)))
          clear f0 hkc hkg hg2 z0 lpb k7' lB1
          go_wp2_with fail
          refine (HP1.out _ [[32]] _ HPd.out (by simp)).mono ?_
          rintro e w1 ⟨rfl, hP1, hF1⟩
          have HPa := hide hP1
          have HFa := hide (HFd.out.trans hF1)
          clear hP1 hF1
          have hB2 := HFa.out.blk HB.out (by decide) (by decide)
          have c0 := Blk.cell hB2 0
          have c1' := Blk.cell hB2 1
          have c2' := Blk.cell hB2 2
          have c3' := Blk.cell hB2 3
          have c4' := Blk.cell hB2 4
          have c5' := Blk.cell hB2 5
          have c6' := Blk.cell hB2 6
          have c7' := Blk.cell hB2 7
          have lB2 := Blk.lt hB2
          clear hB2
          have HNe := hide (HNd.out.pf HFa.out)
          go_wp2_with fail
          refine (HKid.out (L + 1) _ _ HPa.out HNe.out (by omega)).mono ?_
          rintro e w2 ⟨rfl, hP2, hF2⟩
          have HPb := hide hP2
          have HFb := hide (HFa.out.trans hF2)
          clear hP2 hF2
          go_wp2_with fail
          go_roundw
          case rel => exact ⟨L + 1 + 1, by go_num, by omega, by rw [HSN.out, HS7.out]; exact HPb.out, HFb.out⟩
          case measure => simp [intOf]; omega
        · have q7 : (kd == 7) = false := by rw [beq_eq_false_iff_ne]; exact h7
          have q7' : (kd != 7) = true := by simp [h7]
          have hs7 : (if 0 < L + 1 then semE l n (L + 1) else []) = [[59], [32]] := by rw [if_pos h0, HSEM.out, if_neg h7]
          have HS7 := hide hs7
          clear h7 hs7
          go_wp2_with fail
          go_quiet (fail)
          rename_i nq
          have HPd := hide (HPr.out.grown (grown_drewN _ nq))
          have HFd := hide (HFr.out.trans (PF.of_grown (n0 := n0) (grown_drewN _ nq)))
          clear f0 hkc hkg hg2 z0 lpb k7' lB1
          go_wp2_with fail
          refine (HP1.out _ [[59]] _ HPd.out (by simp)).mono ?_
          rintro e w0 ⟨rfl, hP0, hF0⟩
          clear HPd
          have HPd := hide hP0
          have HFe := hide (HFd.out.trans hF0)
          clear hP0 hF0 HFd
          have HFd := HFe
          clear HFe
          go_wp2_with fail
          refine (HP1.out _ [[32]] _ HPd.out (by simp)).mono ?_
          rintro e w1 ⟨rfl, hP1, hF1⟩
          have HPa := hide hP1
          have HFa := hide (HFd.out.trans hF1)
          clear hP1 hF1
          have hB2 := HFa.out.blk HB.out (by decide) (by decide)
          have c0 := Blk.cell hB2 0
          have c1' := Blk.cell hB2 1
          have c2' := Blk.cell hB2 2
          have c3' := Blk.cell hB2 3
          have c4' := Blk.cell hB2 4
          have c5' := Blk.cell hB2 5
          have c6' := Blk.cell hB2 6
          have c7' := Blk.cell hB2 7
          have lB2 := Blk.lt hB2
          clear hB2
          have HNe := hide (HNd.out.pf HFa.out)
          go_wp2_with fail
          refine (HKid.out (L + 1) _ _ HPa.out HNe.out (by omega)).mono ?_
          rintro e w2 ⟨rfl, hP2, hF2⟩
          have HPb := hide hP2
          have HFb := hide (HFa.out.trans hF2)
          clear hP2 hF2
          go_wp2_with fail
          go_roundw
          case rel => exact ⟨L + 1 + 1, by go_num, by omega, by rw [HSN.out, HS7.out]; exact HPb.out, HFb.out⟩
          case measure => simp [intOf]; omega
      · have q1 : decide ((0 : Int) < (i : Int)) = false := decide_eq_false (by omega)
        clear hP hFr hB1 hsn
        have hB2 := HB1.out
        have c0 := Blk.cell hB2 0
        have c1' := Blk.cell hB2 1
        have c2' := Blk.cell hB2 2
        have c3' := Blk.cell hB2 3
        have c4' := Blk.cell hB2 4
        have c5' := Blk.cell hB2 5
        have c6' := Blk.cell hB2 6
        have c7' := Blk.cell hB2 7
        have lB2 := Blk.lt hB2
        clear hB2
        have HNe := hide (HNd.out.pf HFr.out)
        go_wp2_with fail
        refine (HKid.out i _ _ HPr.out HNe.out (by omega)).mono ?_
        rintro e w2 ⟨rfl, hP2, hF2⟩
        have HPb := hide hP2
        have HFb := hide (HFr.out.trans hF2)
        clear hP2 hF2
        go_wp2_with fail
        go_roundw
        case rel => exact ⟨i + 1, by go_num, by omega, by rw [HSN.out, if_neg h0]; exact HPb.out, HFb.out⟩
        case measure => simp [intOf]; omega
    · obtain rfl : i = n.kids.length := by omega
      have q0 : decide ((n.kids.length : Int) < (n.kids.length : Int)) = false := decide_eq_false (by omega)
      clear hP hFr
      go_wp2_with fail
      go_end0
      exact ⟨rfl, HPr.out, HF.out.trans HFr.out⟩

end Go.Proofs.Ytdhfhphbkfgamaa

end
