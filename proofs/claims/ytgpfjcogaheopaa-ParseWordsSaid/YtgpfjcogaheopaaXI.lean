/- The reader: next. -/
import Derived.Test.YtgpfjcogaheopaaXH
set_option linter.all false
namespace Go.Proofs.Ytgpfjcogaheopaa.Lx
open Go.RowKit
set_option maxRecDepth 100000

/-- What stands next. -/
inductive Nx
  | tok (k : Nat) (s : List UInt8)
  | more
  | deep (a : Nat)
def ioB (t : List UInt8) (n : Nat) : Bool := decide (n = 1 ∧ 48 ≤ (t.getD 0 0).toNat ∧ (t.getD 0 0).toNat ≤ 57 ∧ 1 < t.length ∧ (t.getD 1 0 = 60 ∨ t.getD 1 0 = 62))
def nextF (t : List UInt8) : Nx := if signF t ≠ [] then .tok 2 (signF t) else match wordR t with
  | .ok n => .tok (if ioB t n = true then 3 else 1) (t.take n)
  | .more => .more
  | .deep a => .deep a
def NxPost (rb i : Nat) (l : List UInt8) (w : World) : Nx → Ending → World → Prop
  | .tok k s, e, w' => e = .returned (.agg #[.int .i64 k, sv s, .int .i64 i]) ∧ w.grownBy w' (some rb) ∧ RAt w' rb l 0
  | .more, e, w' => e = .panicked [faultV l.length 23] ∧ w.grownBy w' (some rb)
  | .deep a, e, w' => e = .panicked [faultV ((i : Int) + a) 17] ∧ w.grownBy w' (some rb)
theorem fin3 {w : World} {b : Nat} {x y z : Value} (h : Blk w b 41 #[x, y, z]) (x' y' z' : Value) : Blk (((w.setCell ⟨b, 0, none⟩ x').setCell ⟨b, 1, none⟩ y').setCell ⟨b, 2, none⟩ z') b 41 #[x', y', z'] := ((Blk.set_ h 0 _).set_ 1 _).set_ 2 _
theorem far3 {w : World} {b g : Nat} {T : TypeId} {cs : Array Value} (h : Blk w g T cs) (hne : g ≠ b) (x' y' z' : Value) : Blk (((w.setCell ⟨b, 0, none⟩ x').setCell ⟨b, 1, none⟩ y').setCell ⟨b, 2, none⟩ z') g T cs := ((Blk.far h hne _).far hne _).far hne _
theorem gr3 {w0 w : World} {b rb : Nat} (h : w0.grownBy w (some rb)) (hb : w0.heap.size ≤ b) (x' y' z' : Value) : w0.grownBy (((w.setCell ⟨b, 0, none⟩ x').setCell ⟨b, 1, none⟩ y').setCell ⟨b, 2, none⟩ z') (some rb) := only_setCell (only_setCell (only_setCell h (p := ⟨b, 0, none⟩) (.inr hb) _) (p := ⟨b, 1, none⟩) (.inr hb) _) (p := ⟨b, 2, none⟩) (.inr hb) _
theorem ext_mid (l : List UInt8) (i n : Nat) (h : i + n ≤ l.length) : (ByteArray.mk l.toArray).extract i (i + n) = ⟨((l.drop i).take n).toArray⟩ := by
  apply ByteArray.ext
  rw [ByteArray.data_extract]
  apply Array.ext'
  rw [Array.toList_extract, List.extract_eq_take_drop]
  simp

set_option maxHeartbeats 4000000 in
theorem next_any (rb i : Nat) (l : List UInt8) (w : World) (h : RAt w rb l 0) (hi : i < l.length) (hl : l.length ≤ 1000000) :
    Calls Try.prog 37 #[.pointer (some ⟨rb, 0, none⟩), .int .i64 i] w fun e w' => NxPost rb i l w (nextF (l.drop i)) e w' := by
  have h1 := sz l
  have hrb := Blk.lt h
  have hV := Blk.new w 41 #[.int .i64 0, .string ⟨#[]⟩, .int .i64 0]
  have hR0 : RAt (w.alloc (.cells #[.int .i64 0, .string ⟨#[]⟩, .int .i64 0] 41)) rb l 0 := Blk.alloc h _
  have hG0 : w.grownBy (w.alloc (.cells #[.int .i64 0, .string ⟨#[]⟩, .int .i64 0] 41)) (some rb) := only_alloc (only_refl w _) _
  have hs := sign_any rb 0 i l _ hR0 (by omega) hl
  obtain ⟨t, ht⟩ : ∃ t, l.drop i = t := ⟨_, rfl⟩
  rw [ht] at hs ⊢
  have HV := hide hV
  have HR0 := hide hR0
  have HG0 := hide hG0
  have Ht := hide ht
  have hsw : w.heap.size < (w.alloc (.cells #[.int .i64 0, .string ⟨#[]⟩, .int .i64 0] 41)).heap.size := by rw [World.size_alloc]; omega
  by_cases hsg : signF t = []
  · have hnx : nextF t = match wordR t with
        | .ok n => .tok (if ioB t n = true then 3 else 1) (t.take n)
        | .more => .more
        | .deep a => .deep a := by unfold nextF; rw [if_neg (fun h => h hsg)]
    rw [hsg] at hs
    unfold sv at hs
    have Hs := hide hs
    have Hw := hide (fun w' hw' => word_any rb i l w' hw' (by omega) hl)
    clear hs hV hR0 hG0 h hsw hsg
    have hwl := fun n => word_le _ t n rfl
    have htl : t.length = l.length - i := by rw [← ht, List.length_drop]
    obtain ⟨R, hR⟩ : ∃ R, wordR t = R := ⟨_, rfl⟩
    have hw2 := fun w' hw' => Hw.out w' hw'
    rw [ht, hR] at hw2
    rw [hR] at hnx hwl
    have Hw2 := hide hw2
    clear hw2 Hw hR
    rw [hnx]
    cases R with
    | more =>
      unfold NxPost
      unfold Rs.out at Hw2
      clear hnx
      go_enter Try.func37, Try.ntmps37
      go_wp2_with fail
      refine Hs.out.mono ?_
      rintro e w1 ⟨rfl, hg1⟩
      have HR1 := hide (show RAt w1 rb l 0 from Blk.grown HR0.out hg1 (by simp))
      have HG1 := hide (only_trans HG0.out (only_of_none hg1 _))
      go_wp2_with fail
      refine (Hw2.out _ HR1.out).mono ?_
      rintro e w2 ⟨rfl, hg2, _⟩
      exact And.intro rfl (And.intro rfl (only_trans HG1.out hg2))
    | deep a =>
      unfold NxPost
      unfold Rs.out at Hw2
      clear hnx
      go_enter Try.func37, Try.ntmps37
      go_wp2_with fail
      refine Hs.out.mono ?_
      rintro e w1 ⟨rfl, hg1⟩
      have HR1 := hide (show RAt w1 rb l 0 from Blk.grown HR0.out hg1 (by simp))
      have HG1 := hide (only_trans HG0.out (only_of_none hg1 _))
      go_wp2_with fail
      refine (Hw2.out _ HR1.out).mono ?_
      rintro e w2 ⟨rfl, hg2, _⟩
      exact And.intro rfl (And.intro rfl (only_trans HG1.out hg2))
    | ok n =>
      have hn := hwl n rfl
      have hx := ext_mid l i n (by omega)
      rw [ht] at hx
      unfold Rs.out at Hw2
      have hib : (0 : Int) ≤ i ∧ (i : Int) < (l.length : Int) := by omega
      have hnb : (i : Int) ≤ (i : Int) + n ∧ (i : Int) + n ≤ (l.length : Int) := by omega
      have hat := str_at' l i hi
      obtain ⟨c, hc⟩ : ∃ c, l[i] = c := ⟨_, rfl⟩
      rw [hc] at hat
      have hg0 : t.getD 0 0 = c := by rw [← ht, List.getD_eq_getElem?_getD, List.getElem?_drop, Nat.add_zero, List.getElem?_eq_getElem hi, hc]; rfl
      have hg1' : ∀ h : i + 1 < l.length, t.getD 1 0 = l[i + 1] := fun h => by rw [← ht, List.getD_eq_getElem?_getD, List.getElem?_drop, List.getElem?_eq_getElem h]; rfl
      have ways : (ioB t n = false ∧ (¬ n = 1 ∨ (n = 1 ∧ decide ((48 : Int) ≤ (c.toNat : Int)) = false ∧ decide (48 ≤ c.toNat) = false) ∨ (n = 1 ∧ decide ((48 : Int) ≤ (c.toNat : Int)) = true ∧ decide (48 ≤ c.toNat) = true ∧ decide ((c.toNat : Int) ≤ 57) = false ∧ decide (c.toNat ≤ 57) = false) ∨
          (n = 1 ∧ decide ((48 : Int) ≤ (c.toNat : Int)) = true ∧ decide (48 ≤ c.toNat) = true ∧ decide ((c.toNat : Int) ≤ 57) = true ∧ decide (c.toNat ≤ 57) = true ∧ decide ((i : Int) + 1 < (l.length : Int)) = false) ∨
          (∃ h : i + 1 < l.length, n = 1 ∧ decide ((48 : Int) ≤ (c.toNat : Int)) = true ∧ decide (48 ≤ c.toNat) = true ∧ decide ((c.toNat : Int) ≤ 57) = true ∧ decide (c.toNat ≤ 57) = true ∧ decide ((i : Int) + 1 < (l.length : Int)) = true ∧ ((l[i + 1].toNat : Int) == 60) = false ∧ ((l[i + 1].toNat : Int) == 62) = false))) ∨
          (ioB t n = true ∧ ∃ h : i + 1 < l.length, n = 1 ∧ decide ((48 : Int) ≤ (c.toNat : Int)) = true ∧ decide (48 ≤ c.toNat) = true ∧ decide ((c.toNat : Int) ≤ 57) = true ∧ decide (c.toNat ≤ 57) = true ∧ decide ((i : Int) + 1 < (l.length : Int)) = true ∧ (((l[i + 1].toNat : Int) == 60) = true ∨ ((l[i + 1].toNat : Int) == 60) = false ∧ ((l[i + 1].toNat : Int) == 62) = true)) := by
        unfold ioB
        rw [hg0]
        by_cases a1 : n = 1
        · by_cases a2 : 48 ≤ c.toNat
          · by_cases a3 : c.toNat ≤ 57
            · by_cases a4 : i + 1 < l.length
              · rw [hg1' a4]
                by_cases a5 : l[i + 1] = 60
                · refine .inr ⟨decide_eq_true ⟨a1, a2, a3, by omega, .inl a5⟩, a4, a1, decide_eq_true (by omega), decide_eq_true a2, decide_eq_true (by omega), decide_eq_true a3, decide_eq_true (by omega), .inl (by rw [a5]; rfl)⟩
                · by_cases a6 : l[i + 1] = 62
                  · refine .inr ⟨decide_eq_true ⟨a1, a2, a3, by omega, .inr a6⟩, a4, a1, decide_eq_true (by omega), decide_eq_true a2, decide_eq_true (by omega), decide_eq_true a3, decide_eq_true (by omega), .inr ⟨byte_ne (d := 60) a5, by rw [a6]; rfl⟩⟩
                  · refine .inl ⟨decide_eq_false (fun h => h.2.2.2.2.elim a5 a6), .inr (.inr (.inr (.inr ⟨a4, a1, decide_eq_true (by omega), decide_eq_true a2, decide_eq_true (by omega), decide_eq_true a3, decide_eq_true (by omega), byte_ne (d := 60) a5, byte_ne (d := 62) a6⟩)))⟩
              · refine .inl ⟨decide_eq_false (fun h => by have := h.2.2.2.1; omega), .inr (.inr (.inr (.inl ⟨a1, decide_eq_true (by omega), decide_eq_true a2, decide_eq_true (by omega), decide_eq_true a3, decide_eq_false (by omega)⟩)))⟩
            · refine .inl ⟨decide_eq_false (fun h => a3 h.2.2.1), .inr (.inr (.inl ⟨a1, decide_eq_true (by omega), decide_eq_true a2, decide_eq_false (by omega), decide_eq_false a3⟩))⟩
          · refine .inl ⟨decide_eq_false (fun h => a2 h.2.1), .inr (.inl ⟨a1, decide_eq_false (by omega), decide_eq_false a2⟩)⟩
        · exact .inl ⟨decide_eq_false (fun h => a1 h.1), .inl a1⟩
      have hnx2 : nextF t = .tok (if ioB t n = true then 3 else 1) (t.take n) := hnx
      obtain ⟨s, hss⟩ : ∃ s, t.take n = s := ⟨_, rfl⟩
      rw [hss] at hx hnx2
      rw [← hnx, hnx2]
      clear hnx hnx2 hss hc hg0 hwl
      rcases ways with ⟨hio, ways⟩ | ⟨hio, hp1, rfl, b1, b1', b2, b2', b3, b4⟩
      · rw [hio, if_neg Bool.false_ne_true]
        unfold NxPost
        have main : (((n : Int) == 1) = false ∧ ¬ n = 1) ∨ n = 1 := by
          by_cases e : n = 1
          · exact .inr e
          · exact .inl ⟨by rw [beq_eq_false_iff_ne]; omega, e⟩
        rcases ways with hn1 | ⟨rfl, b1, b1'⟩ | ⟨rfl, b1, b1', b2, b2'⟩ | ⟨rfl, b1, b1', b2, b2', b3⟩ | ⟨hp1, rfl, b1, b1', b2, b2', b3, b4, b5⟩
        all_goals
          try have qn : ((n : Int) == 1) = false := by rw [beq_eq_false_iff_ne]; omega
          try have hat1 := str_at' l (i + 1) hp1
          try have hpi : (i : Int) + 1 < (l.length : Int) := by omega
          unfold sv
          go_enter Try.func37, Try.ntmps37
          go_wp2_with fail
          refine Hs.out.mono ?_
          rintro e w1 ⟨rfl, hg1⟩
          have HV1 := hide (Blk.grown HV.out hg1 (by simp))
          have HR1 := hide (show RAt w1 rb l 0 from Blk.grown HR0.out hg1 (by simp))
          have HG1 := hide (only_trans HG0.out (only_of_none hg1 _))
          go_wp2_with fail
          refine (Hw2.out _ HR1.out).mono ?_
          rintro e w2 ⟨rfl, hg2, hok2⟩
          have HR2 := hide (hok2 _ rfl)
          have HV2 := hide (Blk.grown HV1.out hg2 (by intro e; injection e with e; omega))
          have HG2 := hide (only_trans HG1.out hg2)
          have v0 := Blk.cell HV2.out 0
          have v1 := Blk.cell HV2.out 1
          have v2 := Blk.cell HV2.out 2
          have z0 := Blk.frozen HV2.out 0
          have z1 := Blk.frozen HV2.out 1
          have z2 := Blk.frozen HV2.out 2
          have lv := Blk.lt HV2.out
          have r0 := HR2.out.c0
          have lr := Blk.lt HR2.out
          clear hok2 hg2 hg1
          go_wp2_with fail
          have hf := Blk.alloc (fin3 HV2.out (.int .i64 1) (.string ⟨s.toArray⟩) (.int .i64 i)) (.cells #[.int .i64 1, .string ⟨s.toArray⟩, .int .i64 i] 41)
          have hr : RAt _ rb l 0 := Blk.alloc (far3 HR2.out (b := w.heap.size) (by omega) (.int .i64 1) (.string ⟨s.toArray⟩) (.int .i64 i)) (.cells #[.int .i64 1, .string ⟨s.toArray⟩, .int .i64 i] 41)
          have hg := only_alloc (gr3 HG2.out (Nat.le_refl _) (.int .i64 1) (.string ⟨s.toArray⟩) (.int .i64 i)) (.cells #[.int .i64 1, .string ⟨s.toArray⟩, .int .i64 i] 41)
          generalize ((((w2.setCell ⟨w.heap.size, 0, none⟩ (.int .i64 1)).setCell ⟨w.heap.size, 1, none⟩ (.string ⟨s.toArray⟩)).setCell ⟨w.heap.size, 2, none⟩ (.int .i64 i)).alloc (.cells #[.int .i64 1, .string ⟨s.toArray⟩, .int .i64 i] 41)) = W at hf hr hg ⊢
          have f0 := Blk.cell hf 0
          have f1 := Blk.cell hf 1
          have f2 := Blk.cell hf 2
          exact bodyPost_ret (v := .agg #[.int .i64 1, .string ⟨s.toArray⟩, .int .i64 i]) (by simp [results, Try.results37, go_sem, f0, f1, f2]) rfl ⟨rfl, hg, hr⟩
      · rw [hio, if_pos rfl]
        unfold NxPost
        have hat1 := str_at' l (i + 1) hp1
        have hpi : (i : Int) + 1 < (l.length : Int) := by omega
        rcases b4 with b4 | ⟨b4, b5⟩
        all_goals
          unfold sv
          go_enter Try.func37, Try.ntmps37
          go_wp2_with fail
          refine Hs.out.mono ?_
          rintro e w1 ⟨rfl, hg1⟩
          have HV1 := hide (Blk.grown HV.out hg1 (by simp))
          have HR1 := hide (show RAt w1 rb l 0 from Blk.grown HR0.out hg1 (by simp))
          have HG1 := hide (only_trans HG0.out (only_of_none hg1 _))
          go_wp2_with fail
          refine (Hw2.out _ HR1.out).mono ?_
          rintro e w2 ⟨rfl, hg2, hok2⟩
          have HR2 := hide (hok2 _ rfl)
          have HV2 := hide (Blk.grown HV1.out hg2 (by intro e; injection e with e; omega))
          have HG2 := hide (only_trans HG1.out hg2)
          have v0 := Blk.cell HV2.out 0
          have v1 := Blk.cell HV2.out 1
          have v2 := Blk.cell HV2.out 2
          have z0 := Blk.frozen HV2.out 0
          have z1 := Blk.frozen HV2.out 1
          have z2 := Blk.frozen HV2.out 2
          have lv := Blk.lt HV2.out
          have r0 := HR2.out.c0
          have lr := Blk.lt HR2.out
          clear hok2 hg2 hg1
          go_wp2_with fail
          have hf := Blk.alloc (fin3 HV2.out (.int .i64 3) (.string ⟨s.toArray⟩) (.int .i64 i)) (.cells #[.int .i64 3, .string ⟨s.toArray⟩, .int .i64 i] 41)
          have hr : RAt _ rb l 0 := Blk.alloc (far3 HR2.out (b := w.heap.size) (by omega) (.int .i64 3) (.string ⟨s.toArray⟩) (.int .i64 i)) (.cells #[.int .i64 3, .string ⟨s.toArray⟩, .int .i64 i] 41)
          have hg := only_alloc (gr3 HG2.out (Nat.le_refl _) (.int .i64 3) (.string ⟨s.toArray⟩) (.int .i64 i)) (.cells #[.int .i64 3, .string ⟨s.toArray⟩, .int .i64 i] 41)
          generalize ((((w2.setCell ⟨w.heap.size, 0, none⟩ (.int .i64 3)).setCell ⟨w.heap.size, 1, none⟩ (.string ⟨s.toArray⟩)).setCell ⟨w.heap.size, 2, none⟩ (.int .i64 i)).alloc (.cells #[.int .i64 3, .string ⟨s.toArray⟩, .int .i64 i] 41)) = W at hf hr hg ⊢
          have f0 := Blk.cell hf 0
          have f1 := Blk.cell hf 1
          have f2 := Blk.cell hf 2
          exact bodyPost_ret (v := .agg #[.int .i64 3, .string ⟨s.toArray⟩, .int .i64 i]) (by simp [results, Try.results37, go_sem, f0, f1, f2]) rfl ⟨rfl, hg, hr⟩
  · have hnx : nextF t = .tok 2 (signF t) := by unfold nextF; rw [if_pos hsg]
    rw [hnx]
    obtain ⟨s, hss⟩ : ∃ s, signF t = s := ⟨_, rfl⟩
    rw [hss] at hs hsg ⊢
    have he : s.isEmpty = false := by simpa using hsg
    unfold NxPost
    unfold sv at hs ⊢
    have Hs := hide hs
    clear hs hV hR0 hG0 h hnx hss hsg
    go_enter Try.func37, Try.ntmps37
    go_wp2_with fail
    refine Hs.out.mono ?_
    rintro e w1 ⟨rfl, hg1⟩
    have HV1 := hide (Blk.grown HV.out hg1 (by simp))
    have HR1 := hide (show RAt w1 rb l 0 from Blk.grown HR0.out hg1 (by simp))
    have HG1 := hide (only_trans HG0.out (only_of_none hg1 _))
    have v0 := Blk.cell HV1.out 0
    have v1 := Blk.cell HV1.out 1
    have v2 := Blk.cell HV1.out 2
    have z0 := Blk.frozen HV1.out 0
    have z1 := Blk.frozen HV1.out 1
    have z2 := Blk.frozen HV1.out 2
    have lv := Blk.lt HV1.out
    go_wp2_with fail
    have hf := fin3 HV1.out (.int .i64 2) (.string ⟨s.toArray⟩) (.int .i64 i)
    have hr : RAt _ rb l 0 := far3 HR1.out (b := w.heap.size) (by omega) (.int .i64 2) (.string ⟨s.toArray⟩) (.int .i64 i)
    have hg := gr3 HG1.out (Nat.le_refl _) (.int .i64 2) (.string ⟨s.toArray⟩) (.int .i64 i)
    generalize ((w1.setCell ⟨w.heap.size, 0, none⟩ (.int .i64 2)).setCell ⟨w.heap.size, 1, none⟩ (.string ⟨s.toArray⟩)).setCell ⟨w.heap.size, 2, none⟩ (.int .i64 i) = W at hf hr hg ⊢
    have f0 := Blk.cell hf 0
    have f1 := Blk.cell hf 1
    have f2 := Blk.cell hf 2
    exact bodyPost_ret (v := .agg #[.int .i64 2, .string ⟨s.toArray⟩, .int .i64 i]) (by simp [results, Try.results37, go_sem, f0, f1, f2]) rfl ⟨rfl, hg, hr⟩

end Go.Proofs.Ytgpfjcogaheopaa.Lx
