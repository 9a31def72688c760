/- The walk of ProcChildren. -/
import Derived.Test.YtljlbdbgocohlaaX4
namespace Go.Proofs.Ytljlbdbgocohlaa
open Go.RowKit Go.Maps Go.Deep

def kid (bs : Nat → Bool) (i : Nat) : Pr := ⟨(i : Int) + 3, 2, 7, if bs i then (i : Int) + 3 else 2, 0, false, false⟩
def kidO (bs : Nat → Bool) (i : Nat) : Pr := ⟨(i : Int) + 3, 1, 7, if bs i then (i : Int) + 3 else 2, 0, false, false⟩
def pr2 : Pr := ⟨2, 1, 7, 2, 0, false, false⟩
structure CK (bs : Nat → Bool) (k : Nat) (st : PS) : Prop where
  inv : Inv st
  L : st.L = pr1 :: pr2 :: (List.range k).map (kid bs)
  last : st.last = (k : Int) + 2
  U : (7 : Int) ∈ st.U
theorem cnt_kid (g : Nat → Pr) (hg : ∀ i, (g i).usr = 7 ∧ (g i).res = false) (k : Nat) : cnt ((List.range k).map g) 7 = k := by
  induction k with
  | zero => rfl
  | succ k ih =>
    rw [List.range_succ, List.map_append, cnt_append, ih]
    simp [cnt, ind, hg k]
theorem CK.f7 {bs : Nat → Bool} {k : Nat} {st : PS} (h : CK bs k st) : st.f 7 = (k : Int) + 1 := by
  rw [h.inv.f, h.L]
  simp only [cnt]
  rw [cnt_kid _ (fun i => ⟨rfl, rfl⟩)]
  have e1 : ind pr1 7 = 0 := rfl
  have e2 : ind pr2 7 = 1 := rfl
  omega
def C0 : PS := (leadsRes (becomesRes (forkRes newPS 1 true).1 2 7).1 2).1
theorem C0_ck (bs : Nat → Bool) : CK bs 0 C0 :=
  ⟨leads_inv (becomes_inv (fork_inv new_inv 1 true).1 2 7) 2, by kernel_rfl, by kernel_rfl, by rw [show C0.U = [7] from by kernel_rfl]; simp⟩
theorem CK.live2 {bs : Nat → Bool} {k : Nat} {st : PS} (h : CK bs k st) : liveN st.L 2 = some 1 := h.inv.live_at (k := 1) (p := pr2) (by rw [h.L]; rfl) rfl
theorem CK.at2 {bs : Nat → Bool} {k : Nat} {st : PS} (h : CK bs k st) : st.L[1]? = some pr2 := by rw [h.L]; rfl
theorem CK.fork {bs : Nat → Bool} {k : Nat} {st : PS} (h : CK bs k st) (hk : k < 5) :
    (forkRes st 2 false).2 = ((k : Int) + 3, 0) ∧ Inv (forkRes st 2 false).1 ∧ (forkRes st 2 false).1.L = st.L ++ [⟨(k : Int) + 3, 2, 7, 2, 0, false, false⟩] ∧ (forkRes st 2 false).1.last = (k : Int) + 3 ∧ (7 : Int) ∈ (forkRes st 2 false).1.U := by
  have hinv := (fork_inv h.inv 2 false).1
  have hroom : roomRes st pr2.usr = ({ st with U := learn st.U 7, f := upd st.f 7 (st.f 7 + 1) }, 0) := by
    unfold roomRes
    rw [if_neg (by intro e; have := e.1; simp [pr2, h.U] at this), if_neg (by show ¬ 6 ≤ st.f 7; rw [h.f7]; omega)]
    rfl
  unfold forkRes at hinv ⊢
  rw [h.live2] at hinv ⊢
  simp only [getD_of h.at2, Bool.false_eq_true, if_false, hroom, if_true] at hinv ⊢
  have hl := h.last
  refine ⟨by simp only [Prod.mk.injEq, and_true]; omega, hinv, ?_, by simp only [addPr]; omega, by simp only [addPr]; exact learn_self _ _⟩
  have e3 : st.last + 1 = (k : Int) + 3 := by omega
  simp only [addPr, child, pr2, e3]
theorem range_kids (g : Nat → Pr) (k : Nat) : (List.range (k + 1)).map g = (List.range k).map g ++ [g k] := by rw [List.range_succ, List.map_append]; rfl
theorem CK.next {bs : Nat → Bool} {k : Nat} {st : PS} (h : CK bs k st) (hk : k < 5) :
    (bs k = false → CK bs (k + 1) (forkRes st 2 false).1) ∧ (bs k = true → CK bs (k + 1) (leadsRes (forkRes st 2 false).1 ((k : Int) + 3)).1) := by
  obtain ⟨h1, h2, h3, h4, h5⟩ := h.fork hk
  refine ⟨fun hb => ⟨h2, ?_, by rw [h4]; omega, h5⟩, fun hb => ?_⟩
  · rw [h3, h.L, range_kids]
    simp [kid, hb]
  · have hat : (forkRes st 2 false).1.L[k + 2]? = some ⟨(k : Int) + 3, 2, 7, 2, 0, false, false⟩ := by
      rw [h3, List.getElem?_append_right (by rw [h.L]; simp)]
      rw [h.L]
      simp
    have hl := h2.live_at hat rfl
    have hinv := leads_inv h2 ((k : Int) + 3)
    unfold leadsRes at hinv ⊢
    rw [hl] at hinv ⊢
    simp only [getD_of hat] at hinv ⊢
    refine ⟨hinv, ?_, by simp only [setL]; rw [h4]; omega, h5⟩
    simp only [setL]
    rw [h3, List.set_append_right _ _ (by rw [h.L]; simp), h.L, range_kids]
    simp [kid, hb, putSes]
theorem CK.exit {bs : Nat → Bool} {k : Nat} {st : PS} (h : CK bs k st) (x : Int) :
    (exitRes st 2 x).2 = 0 ∧ Inv (exitRes st 2 x).1 ∧ (exitRes st 2 x).1.L = pr1 :: die pr2 x :: (List.range k).map (kidO bs) ∧ (exitRes st 2 x).1.f 7 = (k : Int) + 1 := by
  have hinv := exit_inv h.inv 2 x
  unfold exitRes at hinv ⊢
  rw [h.live2] at hinv ⊢
  simp only [getD_of h.at2, show ¬ (2 : Int) = 1 from by decide, if_false] at hinv ⊢
  refine ⟨trivial, hinv, ?_, h.f7⟩
  rw [h.L]
  simp only [List.set_cons_succ, List.set_cons_zero, List.map_cons, List.map_map]
  congr 1
theorem getP_kid {bs : Nat → Bool} {k i : Nat} {st : PS} {x : Int} (hinv : Inv st) (hL : st.L = pr1 :: die pr2 x :: (List.range k).map (kidO bs)) (hi : i < k) : getP st ((i : Int) + 3) = (kidO bs i, true) := by
  have hat : st.L[i + 2]? = some (kidO bs i) := by
    rw [hL]
    simp [hi]
  have := hinv.idx_at hat
  unfold getP
  rw [show (kidO bs i).pid = (i : Int) + 3 from rfl] at this
  rw [this]
  simp only [getD_of hat]
theorem wait_kids {bs : Nat → Bool} {k : Nat} {st : PS} {x : Int} (hinv : Inv st) (hL : st.L = pr1 :: die pr2 x :: (List.range k).map (kidO bs)) :
    (waitRes st 1 0).2 = (2, x, 0) ∧ Inv (waitRes st 1 0).1 ∧ (waitRes st 1 0).1.L = pr1 :: (List.range k).map (kidO bs) := by
  have hlive : liveN st.L 1 = some 0 := hinv.live_at (k := 0) (p := pr1) (by rw [hL]; rfl) rfl
  have hwait : waitAt 1 0 st.L 0 = some 1 := by
    rw [wait_next (s := pr1) (by rw [hL]; rfl) (.inl rfl)]
    exact wait_here (s := die pr2 x) (by rw [hL]; rfl) rfl rfl
  have hi := (wait_inv hinv 1 0).1
  unfold waitRes at hi ⊢
  rw [hlive, hwait] at hi ⊢
  simp only [getD_of (show st.L[1]? = some (die pr2 x) from by rw [hL]; rfl)] at hi ⊢
  refine ⟨rfl, hi, ?_⟩
  rw [leaves_L]
  simp only [withL]
  rw [hL]
  rfl
theorem waitAt_none {pid c : Int} {L : List Pr} (h : L.any (isKid pid c) = false) : waitAt pid c L 0 = none := by
  cases hw : waitAt pid c L 0 with
  | none => rfl
  | some n =>
    obtain ⟨_, s, hs, h1, _⟩ := waitAt_some _ 0 rfl hw
    have := List.any_eq_false.1 h s (List.mem_of_getElem? hs)
    rw [h1] at this
    simp at this
theorem wait_last {bs : Nat → Bool} {k : Nat} {st : PS} (hinv : Inv st) (hL : st.L = pr1 :: (List.range k).map (kidO bs)) : waitRes st 1 2 = (st, 0, 0, 16) ∧ st.f 7 = k := by
  have hlive : liveN st.L 1 = some 0 := hinv.live_at (k := 0) (p := pr1) (by rw [hL]; rfl) rfl
  have hany : st.L.any (isKid 1 2) = false := by
    rw [hL]
    simp only [List.any_cons, List.any_map, Bool.or_eq_false_iff]
    refine ⟨rfl, List.any_eq_false.2 fun i _ => ?_⟩
    have hne : ¬ ((i : Int) + 3 = 2) := by omega
    have : isKid 1 2 (kidO bs i) = false := by simp [isKid, kidO, hne]
    simp only [Function.comp, this]
    decide
  refine ⟨?_, ?_⟩
  · unfold waitRes
    rw [hlive, waitAt_none hany]
    simp [hany]
  · rw [hinv.f, hL]
    simp only [cnt]
    rw [cnt_kid _ (fun i => ⟨rfl, rfl⟩)]
    have e1 : ind pr1 7 = 0 := rfl
    omega

def bitOf (leads : Int) (k : Nat) : Bool := bits BinOp.and .i64 (leads / 2 ^ k) 1 == 1
def pl (k : Nat) : List Int := (List.range k).map fun (i : Nat) => (i : Int) + 3
theorem pl_succ (k : Nat) : pl (k + 1) = pl k ++ [(k : Int) + 3] := by simp [pl, List.range_succ]
theorem pl_length (k : Nat) : (pl k).length = k := by simp [pl]
theorem pl_get {k i : Nat} (h : i < k) : (pl k)[i]? = some ((i : Int) + 3) := by simp [pl, h]
theorem getS {w0 w : World} {b : Nat} {K : Kept} {st : PS} (H : Hid (SoloK w0 w b K st)) (a : Int) {D : Pr} {y : Bool} (hr : getP st a = (D, y)) : Calls Try.prog 14 #[.pointer (some ⟨b, 0, none⟩), .int .i64 a] w fun e w' => e = .returned (.tuple #[D.agg, .bool y]) ∧ w.grownBy w' none := by
  obtain ⟨v, mb, h⟩ := H.out.at
  have := get_any b v mb st a w h
  unfold getP at hr
  cases hi : idx st.L a with
  | none =>
    rw [hi] at this hr
    cases hr
    exact this
  | some n =>
    rw [hi] at this hr
    cases hr
    exact this
theorem SoloK.swap {w0 w w' : World} {b : Nat} {st : PS} {K K' : Kept} {T : Nat → Prop} (h : SoloK w0 w b K st) (hc : Chg T w w') (hT : ∀ i, T i → ∃ o, K i o) (hTn : ∀ i, T i → w0.heap.size ≤ i)
    (hK : ∀ i o, K' i o → w'.heap[i]? = some o ∧ ((∃ o', K i o') ∨ w.heap.size ≤ i)) : SoloK w0 w' b K' st := by
  obtain ⟨S, h⟩ := h
  refine ⟨S, h.tab.chg hc (fun k hk ht => ?_), h.new, ((Chg.of_grown h.gr (fun _ h => by cases h) : Chg T w0 w).trans hc (fun _ _ h => h)).grown (fun k hk ht => by have := hTn k ht; omega), fun i o hi => ?_⟩
  · obtain ⟨o, ho⟩ := hT k ht
    exact (h.kp k o ho).2 hk
  · obtain ⟨h1, h2⟩ := hK i o hi
    refine ⟨h1, fun hs => ?_⟩
    rcases h2 with ⟨o', ho'⟩ | h2
    · exact (h.kp i o' ho').2 hs
    · have := h.tab.lt hs; omega

set_option maxRecDepth 100000 in
set_option maxHeartbeats 4000000 in
theorem children_from (many leads status : Int) (M : Nat) (hM : M ≤ 5) (hcase : (decide (many.tmod 6 < 0) = true ∧ wrap64 (-many.tmod 6) = (M : Int)) ∨ (decide (many.tmod 6 < 0) = false ∧ many.tmod 6 = (M : Int))) (hl : wfi leads) (hs : wfi status) (w : World) :
    Calls Try.prog 3 #[.int .i64 many, .int .i64 leads, .int .i64 status] w fun e w' => e = .returned (.bool true) ∧ w.grownBy w' none := by
  rcases hcase with ⟨qc, qm⟩ | ⟨qc, qm⟩
  all_goals
  have Qm := hide qm
  clear qm
  go_enter Try.func3, Try.ntmps3
  go_wp2_with fail
  go_at_call 7
  refine (shown_true w).mono ?_
  rintro e w1 ⟨rfl, hg⟩
  have G1 := hide hg
  clear hg
  go_wp2_with fail
  go_at_call 8
  refine (solo_new w1).mono ?_
  rintro e w2 ⟨b, rfl, H0⟩
  have H0 := hide (show SoloK w1 w2 b none_ newPS from H0.out)
  go_wp2_with fail
  go_at_call 9
  refine (sFork H0 new_inv (by decide) 1 true (x := 2) (y := 0) (by kernel_rfl)).mono ?_
  rintro e w3 ⟨rfl, H1⟩
  go_wp2_with fail
  go_at_call 10
  refine (sBecomes H1 (fork_inv new_inv 1 true).1 2 7 (x := 0) (by kernel_rfl)).mono ?_
  rintro e w4 ⟨rfl, H2⟩
  go_wp2_with fail
  go_at_call 11
  refine (sLeads H2 2 (x := 0) (by kernel_rfl)).mono ?_
  rintro e w5 ⟨rfl, H3⟩
  have H4 := hide (show SoloK w1 w5 b none_ C0 from H3.out)
  clear H0 H1 H2 H3
  go_wp2_with fail
  rw [Qm.out]
  go_loopw [11, 12] (fun pv u wr => ∃ (k : Nat) (st : PS) (o : Obj), u = .int .i64 k ∧ k ≤ M ∧ CK (bitOf leads) k st ∧ Own wr 3 1 pv k (icells (pl k)) 0 ∧ SoloK w1 wr b (fun g o' => pv.ownBlock = some g ∧ o' = o) st ∧ ∀ g, pv.ownBlock = some g → w1.heap.size ≤ g) (fun _ u _ => M - (intOf u).toNat)
  case atStart => exact ⟨0, C0, .map #[] 0, rfl, by omega, C0_ck _, Own.nil _ _ _ _, H4.out.drop (fun g o h => by simp [Value.ownBlock] at h), fun g h => by simp [Value.ownBlock] at h⟩
  case round =>
    obtain ⟨k, st, o, rfl, hk, hC, hO, hS, hWn⟩ := hrel
    obtain ⟨pa, pcap, rfl, _, _⟩ := Own.form hO
    by_cases hlt : k < M
    · have q0 : decide ((k : Int) < (M : Int)) = true := by simp; omega
      have hf := hC.fork (by omega)
      have hnext := hC.next (by omega)
      have hcall := sFork (hide hS) hC.inv (by have := hC.last; omega) 2 false hf.1
      have Hcall := hide hcall
      have HO := hide hO
      have HS := hide hS
      have HWn := hide hWn
      have Hnext := hide hnext
      clear hcall hf hC hO hS hnext H4 hWn
      go_wp2_with fail
      go_at_call 9
      refine Hcall.out.mono ?_
      rintro e w6 ⟨rfl, H6⟩
      clear Hcall
      cases hb : bitOf leads k with
      | true =>
        have hb1 : (bits BinOp.and .i64 (leads / 2 ^ k) 1 == 1) = true := hb
        go_wp2_with fail
        go_at_call 11
        refine ((SoloK.prog H6.out (fun S hS => leads_any b S _ ((k : Int) + 3) w6 hS))).mono ?_
        rintro e w7 ⟨rfl, H7⟩
        have HC7 := hide (Hnext.out.2 hb)
        have hb2 : (bits BinOp.and .i64 (leads / 2 ^ k) 1 == 1) = true := hb
        have hO7 : Own w7 3 1 (.slice pa k pcap) k (icells (pl k)) 0 := Own.keep HO.out (fun g hg => by rw [H7.out.held ⟨hg, rfl⟩, HS.out.held ⟨hg, rfl⟩])
        have hm : Own (w7.alloc (.cells #[.int .i64 ((k : Int) + 3)] 3)) 3 1 (.slice (some ⟨w7.heap.size, 0, none⟩) 1 1) 1 [.int .i64 ((k : Int) + 3)] 0 := Own.made w7 #[.int .i64 ((k : Int) + 3)] 3 1 1 0 rfl (by unfold maxLen; omega)
        have Hsrc := hide (Own.src (P := Try.prog) (tx := 30) (e' := 3) hm (by kernel_rfl) (by intro y hy; simp at hy; subst hy; rfl))
        have Ho := hide (Own.alloc hO7 (.cells #[.int .i64 ((k : Int) + 3)] 3))
        clear hb HO HS hO7 hm
        go_wp2_with (at_builtin; refine wpList_appAt 3 (.int .i64 0) 1 8 (by kernel_rfl) info3 rfl (.slice pa k pcap) k (icells (pl k)) 0 _ 1 [.int .i64 ((k : Int) + 3)] rfl rfl Ho.out (by omega) Hsrc.out (by unfold maxLen; omega) (by omega) ?_; intro pv2 w8 ho hc hn _; obtain ⟨fa, fc, rfl, _, _⟩ := Own.form ho; (have Ho1 := hide ho); (have Hc1 := hide hc); (have Hn1 := hide hn); clear ho hc hn)
        go_roundw
        case rel =>
          have ho := Ho1.out
          rw [icells_app, ← pl_succ] at ho
          have hc' := ((Chg.refl (fun g => (Value.slice pa k pcap).ownBlock = some g) w7).alloc (.cells #[.int .i64 ((k : Int) + 3)] 3)).trans Hc1.out (fun _ _ h => h)
          have hnew : ∀ g, (Value.slice fa (k + 1) fc).ownBlock = some g → (Value.slice pa k pcap).ownBlock = some g ∨ w7.heap.size ≤ g := by
            intro g hg
            rcases Hn1.out g hg with h | h
            · exact .inl h
            · rw [World.size_alloc] at h
              exact .inr (by omega)
          have hex : ∃ o2, ∀ g, (Value.slice fa (k + 1) fc).ownBlock = some g → w8.heap[g]? = some o2 := by
            cases hfb : (Value.slice fa (k + 1) fc).ownBlock with
            | none => exact ⟨.map #[] 0, fun g hg => by cases hg⟩
            | some g0 =>
              obtain ⟨cur, fz, h0⟩ := Own.typ ho hfb
              exact ⟨_, fun g hg => by cases hg; exact h0⟩
          obtain ⟨o2, ho2⟩ := hex
          refine ⟨k + 1, _, o2, by go_num, by omega, HC7.out, ho, H7.out.swap hc' (fun i hi => ⟨o, hi, rfl⟩) HWn.out ?_, ?_⟩
          · rintro i o' ⟨hi, rfl⟩
            refine ⟨ho2 i hi, ?_⟩
            rcases hnew i hi with h | h
            · exact .inl ⟨o, h, rfl⟩
            · exact .inr h
          · intro g hg
            rcases hnew g hg with h | h
            · exact HWn.out g h
            · exact Nat.le_trans H7.out.grown.size h
        case measure => simp [intOf]; omega
      | false =>
        have hb1 : (bits BinOp.and .i64 (leads / 2 ^ k) 1 == 1) = false := hb
        have H7 := H6
        clear H6
        obtain ⟨w7, hw7⟩ : ∃ w7, w7 = w6 := ⟨_, rfl⟩
        subst hw7
        have HC7 := hide (Hnext.out.1 hb)
        have hb2 : (bits BinOp.and .i64 (leads / 2 ^ k) 1 == 1) = false := hb
        have hO7 : Own w7 3 1 (.slice pa k pcap) k (icells (pl k)) 0 := Own.keep HO.out (fun g hg => by rw [H7.out.held ⟨hg, rfl⟩, HS.out.held ⟨hg, rfl⟩])
        have hm : Own (w7.alloc (.cells #[.int .i64 ((k : Int) + 3)] 3)) 3 1 (.slice (some ⟨w7.heap.size, 0, none⟩) 1 1) 1 [.int .i64 ((k : Int) + 3)] 0 := Own.made w7 #[.int .i64 ((k : Int) + 3)] 3 1 1 0 rfl (by unfold maxLen; omega)
        have Hsrc := hide (Own.src (P := Try.prog) (tx := 30) (e' := 3) hm (by kernel_rfl) (by intro y hy; simp at hy; subst hy; rfl))
        have Ho := hide (Own.alloc hO7 (.cells #[.int .i64 ((k : Int) + 3)] 3))
        clear hb HO HS hO7 hm
        go_wp2_with (at_builtin; refine wpList_appAt 3 (.int .i64 0) 1 8 (by kernel_rfl) info3 rfl (.slice pa k pcap) k (icells (pl k)) 0 _ 1 [.int .i64 ((k : Int) + 3)] rfl rfl Ho.out (by omega) Hsrc.out (by unfold maxLen; omega) (by omega) ?_; intro pv2 w8 ho hc hn _; obtain ⟨fa, fc, rfl, _, _⟩ := Own.form ho; (have Ho1 := hide ho); (have Hc1 := hide hc); (have Hn1 := hide hn); clear ho hc hn)
        go_roundw
        case rel =>
          have ho := Ho1.out
          rw [icells_app, ← pl_succ] at ho
          have hc' := ((Chg.refl (fun g => (Value.slice pa k pcap).ownBlock = some g) w7).alloc (.cells #[.int .i64 ((k : Int) + 3)] 3)).trans Hc1.out (fun _ _ h => h)
          have hnew : ∀ g, (Value.slice fa (k + 1) fc).ownBlock = some g → (Value.slice pa k pcap).ownBlock = some g ∨ w7.heap.size ≤ g := by
            intro g hg
            rcases Hn1.out g hg with h | h
            · exact .inl h
            · rw [World.size_alloc] at h
              exact .inr (by omega)
          have hex : ∃ o2, ∀ g, (Value.slice fa (k + 1) fc).ownBlock = some g → w8.heap[g]? = some o2 := by
            cases hfb : (Value.slice fa (k + 1) fc).ownBlock with
            | none => exact ⟨.map #[] 0, fun g hg => by cases hg⟩
            | some g0 =>
              obtain ⟨cur, fz, h0⟩ := Own.typ ho hfb
              exact ⟨_, fun g hg => by cases hg; exact h0⟩
          obtain ⟨o2, ho2⟩ := hex
          refine ⟨k + 1, _, o2, by go_num, by omega, HC7.out, ho, H7.out.swap hc' (fun i hi => ⟨o, hi, rfl⟩) HWn.out ?_, ?_⟩
          · rintro i o' ⟨hi, rfl⟩
            refine ⟨ho2 i hi, ?_⟩
            rcases hnew i hi with h | h
            · exact .inl ⟨o, h, rfl⟩
            · exact .inr h
          · intro g hg
            rcases hnew g hg with h | h
            · exact HWn.out g h
            · exact Nat.le_trans H7.out.grown.size h
        case measure => simp [intOf]; omega
    · obtain rfl : k = M := by omega
      have q0 : decide ((k : Int) < (k : Int)) = false := by simp
      have hex := hC.exit status
      obtain ⟨X, hX⟩ : ∃ X, (exitRes st 2 status).1 = X := ⟨_, rfl⟩
      have hcall := sExit (hide hS) 2 status hex.1
      rw [hX] at hex hcall
      obtain ⟨_, hXi, hXL, hXf⟩ := hex
      have Hcall := hide hcall
      have HO := hide hO
      have HS := hide hS
      have HXi := hide hXi
      have HXL := hide hXL
      have HXf := hide hXf
      clear hcall hC hO hS hWn H4 hX hXi hXL hXf
      have qw : wrap64 ((k : Int) + 1) = (k : Int) + 1 := by unfold wrap64; omega
      go_wp2_with fail
      go_at_call 12
      refine Hcall.out.mono ?_
      rintro e w6 ⟨rfl, H6⟩
      go_wp2_with fail
      go_at_call 13
      refine (sCount H6 7 (wfi_small (by omega) (by omega))).mono ?_
      rw [HXf.out]
      rintro e w6 ⟨rfl, rfl⟩
      clear Hcall
      have HO6 := hide (Own.keep (w' := w6) HO.out (fun g hg => by rw [H6.out.held ⟨hg, rfl⟩, HS.out.held ⟨hg, rfl⟩]) : Own w6 3 1 (.slice pa k pcap) k (icells (pl k)) 0)
      have HK6 := hide (fun g hg => H6.out.held (k := g) (o := o) ⟨hg, rfl⟩)
      clear HO HS
      go_wp2_with fail
      go_loopw [15] (fun u wr => ∃ (j : Nat), u = .int .i64 j ∧ j ≤ k ∧ SoloK w1 wr b (fun g o' => (Value.slice pa k pcap).ownBlock = some g ∧ o' = o) X) (fun u _ => k - (intOf u).toNat)
      case atStart => exact ⟨0, rfl, by omega, H6.out⟩
      case round =>
        obtain ⟨j, rfl, hj, hS7⟩ := hrel
        by_cases hlt : j < k
        · obtain ⟨pg, poff, pcap', hpv, _, _, hpgl, hpc⟩ := Own.some_ HO6.out (by omega)
          injection hpv with hpa _ hpcap
          subst hpa hpcap
          have hgl : pg < wr.heap.size := by
            have := hS7.held (k := pg) (o := o) ⟨rfl, rfl⟩
            exact (Array.getElem?_eq_some_iff.1 this).1
          have hcell : wr.cell? ⟨pg, poff + j, none⟩ = some (.int .i64 ((j : Int) + 3)) := by
            have h1 := hpc j (by omega)
            rw [icells_get _ _ (by rw [pl_length]; exact hlt)] at h1
            have h2 : (pl k)[j]'(by rw [pl_length]; exact hlt) = (j : Int) + 3 := by
              have := pl_get hlt
              rw [List.getElem?_eq_getElem (by rw [pl_length]; exact hlt)] at this
              injection this
            rw [h2] at h1
            rw [← h1]
            exact World.cell?_of_block ((hS7.held (k := pg) (o := o) ⟨rfl, rfl⟩).trans (HK6.out pg rfl).symm)
          have q1 : decide ((j : Int) < (k : Int)) = true := by simp; omega
          have i1 : (0 : Int) ≤ j ∧ (j : Int) < (k : Int) := by omega
          have H7 := hide hS7
          have Hget := hide (getS H7 ((j : Int) + 3) (getP_kid HXi.out HXL.out hlt))
          clear hS7 hpc
          cases hb : bitOf leads j with
          | true =>
            have hb1 : (bits BinOp.and .i64 (leads / 2 ^ j) 1 == 1) = true := hb
            have hkd : (kidO (bitOf leads) j).agg = .agg #[.int .i64 ((j : Int) + 3), .int .i64 1, .int .i64 7, .int .i64 ((j : Int) + 3), .int .i64 0, .bool false, .bool false] := by simp [kidO, Pr.agg, hb]
            rw [hkd] at Hget
            clear hb hkd
            go_wp2_with fail
            go_at_call 14
            refine Hget.out.mono ?_
            rintro e w7 ⟨rfl, hg⟩
            have H8 := hide (H7.out.gr_ (only_trans hg (only_alloc (only_refl w7 none) (.cells #[.int .i64 ((j : Int) + 3), .int .i64 1, .int .i64 7, .int .i64 ((j : Int) + 3), .int .i64 0, .bool false, .bool false] 34))))
            have hgl7 : pg < w7.heap.size := Nat.lt_of_lt_of_le hgl hg.size
            have hcell7 := none_cell hg hgl hcell
            clear hg
            go_wp2_with fail
            go_roundw
            case rel => exact ⟨j + 1, by go_num, by omega, H8.out⟩
            case measure => simp [intOf]; omega
          | false =>
            have hb1 : (bits BinOp.and .i64 (leads / 2 ^ j) 1 == 1) = false := hb
            have hkd : (kidO (bitOf leads) j).agg = .agg #[.int .i64 ((j : Int) + 3), .int .i64 1, .int .i64 7, .int .i64 (2), .int .i64 0, .bool false, .bool false] := by simp [kidO, Pr.agg, hb]
            rw [hkd] at Hget
            clear hb hkd
            go_wp2_with fail
            go_at_call 14
            refine Hget.out.mono ?_
            rintro e w7 ⟨rfl, hg⟩
            have H8 := hide (H7.out.gr_ (only_trans hg (only_alloc (only_refl w7 none) (.cells #[.int .i64 ((j : Int) + 3), .int .i64 1, .int .i64 7, .int .i64 (2), .int .i64 0, .bool false, .bool false] 34))))
            have hgl7 : pg < w7.heap.size := Nat.lt_of_lt_of_le hgl hg.size
            have hcell7 := none_cell hg hgl hcell
            clear hg
            go_wp2_with fail
            go_roundw
            case rel => exact ⟨j + 1, by go_num, by omega, H8.out⟩
            case measure => simp [intOf]; omega
        · have q1 : decide ((j : Int) < (k : Int)) = false := by simp; omega
          obtain ⟨hw1, hYi, hYL⟩ := wait_kids HXi.out HXL.out
          obtain ⟨Y, hY⟩ : ∃ Y, (waitRes X 1 0).1 = Y := ⟨_, rfl⟩
          have hc1 := sWait (hide hS7) HXi.out 1 0 hw1
          rw [hY] at hc1 hYi hYL
          obtain ⟨hw2, hYf⟩ := wait_last hYi hYL
          have Hc1 := hide hc1
          have HYi := hide hYi
          have Hw2 := hide hw2
          have HYf := hide hYf
          clear hS7 hc1 hYi hw2 hYf hw1 hY hYL
          go_wp2_with fail
          go_at_call 15
          refine Hc1.out.mono ?_
          rintro e w7 ⟨rfl, H8⟩
          go_wp2_with fail
          go_at_call 15
          refine (sWait H8 HYi.out 1 2 (x := 0) (y := 0) (z := 16) (by rw [Hw2.out])).mono ?_
          rw [Hw2.out]
          rintro e w8 ⟨rfl, H9⟩
          go_wp2_with fail
          go_at_call 13
          refine (sCount H9 7 (wfi_small (by omega) (by omega))).mono ?_
          rw [HYf.out]
          rintro e w8 ⟨rfl, rfl⟩
          have HG := hide (only_trans G1.out H9.out.grown)
          clear H8 H9 Hc1
          go_wp2
          go_ret
          exact ⟨rfl, HG.out⟩

theorem children_any (many leads status : Int) (hm : wfi many) (hl : wfi leads) (hs : wfi status) (w : World) :
    Calls Try.prog 3 #[.int .i64 many, .int .i64 leads, .int .i64 status] w fun e w' => e = .returned (.bool true) ∧ Below w.heap.size w w' := by
  have h1 : many.tmod 6 < 6 := Int.tmod_lt_of_pos many (by omega)
  have h2 : -6 < many.tmod 6 := by
    have := Int.tmod_lt_of_pos (-many) (show (0 : Int) < 6 by omega)
    rw [Int.neg_tmod] at this
    omega
  refine (children_from many leads status (many.tmod 6).natAbs (by omega) ?_ hl hs w).mono fun e w' h => ⟨h.1, below_of_none h.2⟩
  by_cases hn : many.tmod 6 < 0
  · refine .inl ⟨by simpa using hn, ?_⟩
    unfold wrap64
    omega
  · exact .inr ⟨by simpa using hn, by omega⟩

end Go.Proofs.Ytljlbdbgocohlaa
