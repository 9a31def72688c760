/- Print, of. -/
import Derived.Test.YtdhfhphbkfgamaaTP
import Derived.Test.YtdhfhphbkfgamaaPW
namespace Go.Proofs.Ytdhfhphbkfgamaa
open Go.RowKit Lx
set_option maxRecDepth 100000

/-- What must be known of nodes besides their order. -/
def Lts (l : List Nd) : Prop := ∀ n ∈ l, n.kids.length ≤ 100000 ∧ n.pats.length ≤ 100000 ∧ Lite n
theorem ord_kids : ∀ (r : List Nd) (pre : List Nd) (bs bs' : List Nat), bs.length = pre.length → (∀ i, i < bs.length → bs.getD i 0 ≤ i) → ordL r bs = some bs' →
    ∀ j (h : j < r.length), ∀ k ∈ r[j].kids, (k = -1 ∧ r[j].kind = 14) ∨ (0 ≤ k ∧ k < pre.length + j)
  | [], _, _, _, _, _, _, j, h => by simp at h
  | n :: r, pre, bs, bs', hl, hb, ho, j, h => by
    rw [ordL] at ho
    cases hk : ordK bs (n.kind == 14) n.kids.reverse bs.length with
    | none => rw [hk] at ho; cases ho
    | some b =>
      rw [hk] at ho
      obtain ⟨h1, h2⟩ := ordK_le hb _ _ _ (Nat.le_refl _) hk
      cases j with
      | zero =>
        intro k hm
        rcases h2 k (List.mem_reverse.2 hm) with ⟨e1, e2⟩ | e
        · exact .inl ⟨e1, eq_of_beq e2⟩
        · exact .inr (by rw [hl] at e; omega)
      | succ j =>
        have hb2 : ∀ i, i < (bs ++ [b]).length → (bs ++ [b]).getD i 0 ≤ i := by
          intro i hi
          rw [List.length_append, List.length_singleton] at hi
          by_cases hin : i < bs.length
          · rw [List.getD_eq_getElem?_getD, List.getElem?_append_left hin, ← List.getD_eq_getElem?_getD]; exact hb i hin
          · obtain rfl : i = bs.length := by omega
            rw [List.getD_eq_getElem?_getD, List.getElem?_append_right (Nat.le_refl _), Nat.sub_self]
            exact h1
        have := ord_kids r (pre ++ [n]) (bs ++ [b]) bs' (by simp [hl]) hb2 ho j (by simpa using h)
        intro k hm
        rcases this k (by simpa using hm) with e | e
        · exact .inl (by simpa using e)
        · refine .inr ?_
          rw [List.length_append, List.length_singleton] at e
          omega
theorem ord_cy {l : List Nd} (h : ordB l = true) (hl : Lts l) : Cy l ∧ 1 ≤ l.length := by
  unfold ordB at h
  rw [Bool.and_eq_true, Bool.and_eq_true, decide_eq_true_eq, decide_eq_true_eq] at h
  obtain ⟨⟨h1, h2⟩, h3⟩ := h
  cases ho : ordL l [] with
  | none => rw [ho] at h3; cases h3
  | some bs =>
    have hk := ord_kids l [] [] bs rfl (fun i hi => by simp at hi) ho
    refine ⟨⟨⟨fun i hi k hm => ?_, fun n hn => (hl n hn).1, h2⟩, fun n hn => (hl n hn).2.2, fun n hn => (hl n hn).2.1⟩, h1⟩
    have := hk i hi k hm
    simpa using this
set_option maxHeartbeats 8000000 in
theorem print_any (l : List Nd) (v : Value) (w : World) (h : NdsR w.heap.size w v l) (hl : Lts l) :
    Calls Try.prog 7 #[v] w fun e w' => e = .returned (sv (printF l)) ∧ w.grownBy w' none := by
  obtain ⟨n0, hn0⟩ : ∃ n0, w.heap.size = n0 := ⟨_, rfl⟩
  rw [hn0] at h
  obtain ⟨a0, cap0, rfl, hm0⟩ := h.form
  have HO := hide (order_any n0 l _ w h)
  have H := hide h
  have HN0 := hide hn0
  clear h hn0
  by_cases ho : ordB l = true
  · obtain ⟨hcy, h1⟩ := ord_cy ho hl
    obtain ⟨L, hL⟩ : ∃ L, l.length = L + 1 := ⟨l.length - 1, by omega⟩
    have hLi : (l.length : Int) - 1 = (L : Int) := by omega
    have hl300 : (l.length : Int) ≤ 300 := by have := hcy.ln; omega
    have HCY := hide hcy
    have HL := hide hL
    obtain ⟨s, hs⟩ : ∃ s, putsF [] (nodeE l l.length L) = s := ⟨_, rfl⟩
    have hpr : printF l = if 4096 < s.length then [] else if (parseF s).e = 0 ∧ (parseF s).ns = l then s else [] := by
      unfold printF
      rw [if_pos ho]
      simp only []
      rw [show l.length - 1 = L by omega, hs]
    have HPR := hide hpr
    have HS := hide hs
    rw [ho] at HO
    clear hcy hL hpr hs
    unfold sv
    go_enter Try.func7, Try.ntmps7
    go_wp2_with fail
    refine HO.out.mono ?_
    rintro e w1 ⟨rfl, g1⟩
    have hB := Blk.new w1 55 #[.slice a0 l.length cap0, .pointer none, .slice none 0 0]
    have hgw := World.grownBy_alloc w1 (.cells #[.slice a0 l.length cap0, .pointer none, .slice none 0 0] 55) none
    have hN1 := NdsR.pf H.out (PF.of_grown (n0 := n0) (grown2 g1 hgw))
    obtain ⟨W, hW⟩ : ∃ W, w1.alloc (.cells #[.slice a0 l.length cap0, .pointer none, .slice none 0 0] 55) = W := ⟨_, rfl⟩
    rw [hW] at hB hN1 hgw
    obtain ⟨pb, hpb⟩ : ∃ pb, w1.heap.size = pb := ⟨_, rfl⟩
    rw [hpb] at hB
    have hn : n0 ≤ pb := by rw [← HN0.out, ← hpb]; exact g1.size
    have hP : PrIs n0 W pb l [] := ⟨_, _, _, ⟨hn, hB, World.ownsRow_nil _ _ _ _, by simp [Value.ownBlock]⟩, .inl rfl, hN1, by simp⟩
    have HP := hide hP
    have HW := hide hW
    have HPB := hide hpb
    have hbw : Below n0 w W := by rw [← HN0.out]; exact grown_below (grown2 g1 hgw) (Nat.le_refl _)
    have HBW := hide hbw
    have hn2 : n0 ≤ W.heap.size := Nat.le_trans hn (Nat.le_of_lt (Blk.lt hB))
    have HN2 := hide hn2
    have lpb := Blk.lt hB
    clear hB hgw hN1 hW hpb hP hbw g1
    go_upto_region 4 with (fail)
    rw [HW.out, HPB.out]
    go_wp2_with fail
    refine (nodes_ok n0 pb l HCY.out l.length L (by rw [Nat.min_self, HL.out]; omega) [] W HP.out).mono ?_
    rintro e w2 ⟨rfl, hP2, hF2⟩
    rw [HS.out] at hP2
    have HP2 := hide hP2
    have hbw2 : Below n0 w w2 := HBW.out.trans (pf_below hF2 HN2.out)
    have HBW2 := hide hbw2
    clear hP2 hbw2 lpb
    have hN2 := hide (NdsR.pf (NdsR.pf H.out (by
      have := HBW.out
      exact (⟨this.os, this.tape, this.output, this.size, fun k hk hS => this.block k (by rw [HN0.out] at hk; exact hk)⟩ : PF n0 w W))) hF2)
    clear hF2
    have HST := hide (bstr_any n0 pb l s w2 HP2.out)
    unfold selfP sv at HST
    go_wp2_with fail
    refine HST.out.mono ?_
    rintro e w3 ⟨rfl, hb3⟩
    have HBW3 := hide (HBW2.out.trans hb3)
    clear hb3
    have hsz := sz s
    by_cases hlen : 4096 < s.length
    · have q1 : decide ((4096 : Int) < (s.length : Int)) = true := decide_eq_true (by omega)
      go_wp2_with fail
      go_ret
      exact ⟨by rw [HPR.out, if_pos hlen]; rfl, below_grown (by rw [HN0.out]; exact HBW3.out)⟩
    · have q1 : decide ((4096 : Int) < (s.length : Int)) = false := decide_eq_false (by omega)
      have HPa := hide (parse_any s w3 (by omega))
      unfold ParsePost sv at HPa
      obtain ⟨P, hP⟩ : ∃ P, parseF s = P := ⟨_, rfl⟩
      rw [hP] at HPa HPR
      clear hP
      go_wp2_with fail
      refine HPa.out.mono ?_
      rintro e w4 ⟨v2, rfl, hnd, _, g4⟩
      have hb4 : Below n0 w w4 := HBW3.out.trans (grown_below g4 (by have := HBW3.out.size; rw [← HN0.out]; exact this))
      have HBW4 := hide hb4
      by_cases he : P.e = 0
      · have q2 : (P.e != 0) = false := by simp [he]
        have hNA : NdsR n0 w4 _ l := NdsR.pf H.out (⟨hb4.os, hb4.tape, hb4.output, hb4.size, fun k hk _ => hb4.block k (by rw [HN0.out] at hk; exact hk)⟩ : PF n0 w w4)
        have HAL := hide (alike_any n0 l P.ns _ v2 w4 hNA hnd.ndsR)
        obtain ⟨a2, c2, rfl, _⟩ := (hnd.ndsR (n0 := n0)).form
        clear hnd g4 hb4 hNA
        by_cases heq : l = P.ns
        · rw [decide_eq_true heq] at HAL
          have HEQ := hide heq
          clear heq
          go_wp2_with fail
          refine HAL.out.mono ?_
          rintro e w5 ⟨rfl, g5⟩
          have hb5 := HBW4.out.trans (grown_below g5 (by have := HBW4.out.size; rw [← HN0.out]; exact this))
          have HB5 := hide hb5
          clear g5 hb5
          go_wp2_with fail
          go_ret
          exact ⟨by rw [HPR.out, if_neg hlen, if_pos ⟨he, HEQ.out.symm⟩]; rfl, below_grown (by rw [HN0.out]; exact HB5.out)⟩
        · rw [decide_eq_false heq] at HAL
          go_wp2_with fail
          refine HAL.out.mono ?_
          rintro e w5 ⟨rfl, g5⟩
          have hb5 := HBW4.out.trans (grown_below g5 (by have := HBW4.out.size; rw [← HN0.out]; exact this))
          have HB5 := hide hb5
          clear g5 hb5
          go_wp2_with fail
          go_ret
          exact ⟨by rw [HPR.out, if_neg hlen, if_neg (fun h => heq h.2.symm)]; rfl, below_grown (by rw [HN0.out]; exact HB5.out)⟩
      · have q2 : (P.e != 0) = true := by simpa using he
        obtain ⟨a2, c2, rfl, _⟩ := (hnd.ndsR (n0 := n0)).form
        clear hnd g4 hb4
        go_wp2_with fail
        go_ret
        exact ⟨by rw [HPR.out, if_neg hlen, if_neg (fun h => he h.1)]; rfl, below_grown (by rw [HN0.out]; exact HBW4.out)⟩
  · have hpr : printF l = [] := by unfold printF; rw [if_neg ho]
    rw [show ordB l = false by simpa using ho] at HO
    have HPR := hide hpr
    clear hpr
    unfold sv
    go_enter Try.func7, Try.ntmps7
    go_wp2_with fail
    refine HO.out.mono ?_
    rintro e w1 ⟨rfl, g1⟩
    have G1 := hide g1
    clear g1
    go_wp2_with fail
    go_ret
    exact ⟨by rw [HPR.out]; rfl, G1.out⟩

end Go.Proofs.Ytdhfhphbkfgamaa
